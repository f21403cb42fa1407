/- Proved here: the statement 'CollectAgain' of layer 16: for every list of acts and all lists of roots it returns true, never panics, and its input reads as before; without conditions. -/
import Derived.Deep.Grids
import Derived.Deep.Slices
import Derived.Test.YtoldkemimhebaaaSb5

set_option linter.unusedSimpArgs false
set_option linter.unusedVariables false
namespace Go.Proofs.Ytoldkemimhebaaa
open Go Go.IM Go.ChangeShapes Go.WideShapes Go.RowKit
section
variable {H : Type} {enc : TypeId × Value → H} {W : Go.World}
set_option maxRecDepth 10000
theorem ofVals_map : ∀ l : List Value, ofVals l = l.map ofVal
  | [] => rfl
  | v :: l => by rw [ofVals, ofVals_map l]; rfl
theorem rd {base n : Nat} {a : Addr} {cs : List Value} (hn : 0 < n) (h : W.cells? base a n = some cs) : a.spot = none ∧ ∃ C, (oldSt W).old a.block = some (.cells C none) ∧ cut C a.off n = some (ofVals cs) := by
  obtain ⟨_, hlen, hc⟩ := Go.World.cells?_some h
  have h0 := hc 0 hn
  rw [show a.add 0 = a from rfl, List.getElem?_eq_getElem (by omega)] at h0
  unfold Go.World.cell? at h0
  split at h0
  · rename_i c el fr hb
    split at h0
    · cases h0
    · rename_i hs
      refine ⟨by simpa using hs, ofVals c.toList, by simp [oldSt, hb], ?_⟩
      have hget : ∀ i, i < n → c[a.off + i]? = cs[i]? := by
        intro i hi
        have := hc i hi
        rw [← this]
        unfold Go.World.cell? Addr.add
        by_cases h0 : i = 0
        · subst h0; simp [hb, hs]
        · simp [h0, hb]
      have hsz : a.off + n ≤ c.size := by
        have := hget (n - 1) (by omega)
        rw [List.getElem?_eq_getElem (by omega)] at this
        have := (Array.getElem?_eq_some_iff.1 this).1
        omega
      rw [ofVals_map, ofVals_map]
      unfold cut
      rw [if_pos (by simp; exact hsz)]
      congr 1
      apply List.ext_getElem?
      intro i
      by_cases hi : i < n
      · rw [List.getElem?_take, if_pos hi, List.getElem?_drop, List.getElem?_map, List.getElem?_map, Array.getElem?_toList, hget i hi]
      · rw [List.getElem?_eq_none (by simp; omega), List.getElem?_eq_none (by simp; omega)]
  · cases h0
theorem cut_get {l cs : List V} {off n : Nat} (h : cut l off n = some cs) {i : Nat} (hi : i < n) : l[off + i]? = cs[i]? := by
  unfold cut at h
  split at h
  · cases h
    rw [List.getElem?_take, if_pos hi, List.getElem?_drop]
  · cases h
theorem old_load {o : Nat → Option O} {s : St} {b off n : Nat} {C cs : List V} {g : Option Nat} (hs : s.old = o) (hb : o b = some (.cells C g)) (hc : cut C off n = some cs) : loadV (some n) (.ptr (some ⟨.old b, off⟩)) s = some (.agg cs) := by
  rw [loadV_ptr]
  show (readCells s ⟨.old b, off⟩ n).bind (packI (some n)) = _
  simp only [readCells, St.row, St.get, hs, hb, hc]
  rfl
theorem old_load1 {o : Nat → Option O} {s : St} {b off : Nat} {C : List V} {g : Option Nat} {v : V} (hs : s.old = o) (hb : o b = some (.cells C g)) (hc : C[off]? = some v) : loadV none (.ptr (some ⟨.old b, off⟩)) s = some v := by
  rw [loadV_ptr]
  show (readCells s ⟨.old b, off⟩ 1).bind (packI none) = _
  simp only [readCells, St.row, St.get, hs, hb]
  rw [cut_one', hc]
theorem ix_old {sz len cap i : Nat} {b off : Nat} {kk : IntKind} (h : i < len) : ixV sz (.slice (some ⟨.old b, off⟩) len (some cap)) (.int kk (i : Int)) = some (.ptr (some ⟨.old b, off + i * sz⟩)) := by
  rw [ixV_int (by omega) (by omega)]
  simp
theorem ofVal_slice {a : Addr} {len cap : Nat} (hl : len ≤ cap) (hsp : 0 < cap → a.spot = none) : ofVal (.slice (some a) len cap) = .slice (some ⟨.old a.block, a.off⟩) len (some cap) := by
  obtain ⟨b, off, sp⟩ := a
  cases sp with
  | none => simp [ofVal, hl]
  | some x =>
    have hc : cap = 0 := by
      rcases Nat.eq_zero_or_pos cap with h | h
      · exact h
      · have := hsp h; simp at this
    subst hc
    have : len = 0 := by omega
    subst this
    rfl
theorem someAt_of {fuel : Nat} {cs : List Value} {x : DataW H × List MemPlace} (h : DataW.trod enc Try.prog W 0 (fun _ => true) true fuel 48 cs = some x) :
    ∃ sa sn sc bs, ofVals cs = [.slice sa sn sc] ∧ ∀ y : ActG, y.sa = sa → y.sn = sn → y.sc = sc → SomeAt (oldSt W).old y bs := by
  rcases Go.Deep.open_bools (P := Try.prog) (t := 48) (e := 4) (by kernel_rfl) (by kernel_rfl) (by kernel_rfl) h with ⟨rfl, _⟩ | ⟨a, len, cap, B, rfl, hb, hl, hm, _, hB⟩
  · exact ⟨none, 0, some 0, [], rfl, fun y _ e _ => ⟨by rw [e]; rfl, fun i hi => by simp at hi⟩⟩
  · have hsp : 0 < cap → a.spot = none := by
      intro hc
      have := hB 0 hc
      rw [show a.add 0 = a from rfl] at this
      unfold Go.World.cell? at this
      split at this
      · split at this
        · cases this
        · rename_i h; simpa using h
      · cases this
    refine ⟨some ⟨.old a.block, a.off⟩, len, some cap, (List.range len).map B, by rw [ofVals, ofVal_slice hl hsp]; rfl, fun y e1 e2 e3 => ⟨by rw [e2]; simp, fun i hi => ?_⟩⟩
    simp at hi
    have hi' : i < y.sn := by omega
    rw [e1, e2, e3]
    refine ⟨⟨.old a.block, a.off + i * 1⟩, ix_old (by omega), fun s hs => ?_⟩
    have hc := hB i (by omega)
    unfold Go.World.cell? at hc
    split at hc
    · rename_i c el fr hbk
      split at hc
      · cases hc
      · have hbk' : W.heap[a.block]? = some (.cells c el fr) := by
          have : (a.add i).block = a.block := by unfold Addr.add; split <;> rfl
          rw [this] at hbk; exact hbk
        have hoff : (a.add i).off = a.off + i := by unfold Addr.add; split <;> simp_all
        rw [hoff] at hc
        refine old_load1 (C := ofVals c.toList) (g := none) hs (by simp [oldSt, hbk']) ?_
        rw [Nat.mul_one, ofVals_map, List.getElem?_map, Array.getElem?_toList, hc]
        simp [ofVal]
    · cases hc
theorem fields_of {fuel T : Nat} {cs : List Value} {x : DataW H × List MemPlace} {L : List (Nat × Nat)} (hL : (match Try.prog.underlying T with | some (.struct fs) => some (fs.toList.map fun f => (f.type, f.offset)) | _ => none) = some L)
    (h : DataW.trod enc Try.prog W 0 (fun _ => true) true fuel T cs = some x) : cs.length = Try.prog.cellsOf T ∧ ∃ n, ∀ (i T' off : Nat), L[i]? = some (T', off) → ∃ y, DataW.trod enc Try.prog W 0 (fun _ => true) true n T' ((cs.drop off).take (Try.prog.cellsOf T')) = some y := by
  split at hL
  · rename_i fs hu
    cases hL
    obtain ⟨xs, n, _, _, hlen, hxl, hf⟩ := DataW.trod_struct hu h
    refine ⟨hlen, n, fun i T' off hi => ?_⟩
    rw [List.getElem?_map] at hi
    cases hfi : fs.toList[i]? with
    | none => rw [hfi] at hi; cases hi
    | some f =>
      rw [hfi] at hi
      simp only [Option.map_some, Option.some.injEq, Prod.mk.injEq] at hi
      obtain ⟨rfl, rfl⟩ := hi
      have hfs : fs[i]? = some f := by rw [← Array.getElem?_toList]; exact hfi
      have := hf i f hfs
      have hix : i < xs.length := by rw [hxl]; exact (Array.getElem?_eq_some_iff.1 hfs).1
      rw [List.getElem?_eq_getElem hix] at this
      exact ⟨_, this⟩
  · cases hL
theorem u5 : Try.prog.underlying 5 = some (.int .u8) := by kernel_rfl
theorem u3 : Try.prog.underlying 3 = some (.int .i64) := by kernel_rfl
theorem word_of {fuel : Nat} {cs : List Value} {x : DataW H × List MemPlace} (h : DataW.trod enc Try.prog W 0 (fun _ => true) true fuel 47 cs = some x) : ∃ a b : Int, cs = [.int .i64 a, .int .i64 b] := by
  obtain ⟨hlen, n, hf⟩ := fields_of (L := [(3, 0), (3, 1)]) (by kernel_rfl) h
  rw [show Try.prog.cellsOf 47 = 2 by kernel_rfl] at hlen
  have c3 : Try.prog.cellsOf 3 = 1 := by kernel_rfl
  match cs, hlen with
  | [v0, v1], _ =>
    obtain ⟨y0, h0⟩ := hf 0 3 0 rfl
    obtain ⟨y1, h1⟩ := hf 1 3 1 rfl
    rw [c3] at h0 h1
    obtain ⟨a, e0, _⟩ := DataW.trod_int u3 h0
    obtain ⟨b, e1, _⟩ := DataW.trod_int u3 h1
    simp at e0 e1
    exact ⟨a, b, by rw [e0, e1]⟩
theorem act_of {fuel : Nat} {cs : List Value} {x : DataW H × List MemPlace} (h : DataW.trod enc Try.prog W 0 (fun _ => true) true fuel 50 cs = some x) :
    ∃ (y : ActG) (bs : List Bool), ofVals cs = y.cells ∧ SomeAt (oldSt W).old y bs ∧ (0 ≤ y.d ∧ y.d < 256 ∧ 0 ≤ y.hn ∧ y.hn < 256) := by
  obtain ⟨hlen, n, hf⟩ := fields_of (L := [(5, 0), (5, 1), (3, 2), (3, 3), (3, 4), (3, 5), (47, 6), (47, 8), (48, 10)]) (by kernel_rfl) h
  rw [show Try.prog.cellsOf 50 = 11 by kernel_rfl] at hlen
  have c3 : Try.prog.cellsOf 3 = 1 := by kernel_rfl
  have c5 : Try.prog.cellsOf 5 = 1 := by kernel_rfl
  have c47 : Try.prog.cellsOf 47 = 2 := by kernel_rfl
  have c48 : Try.prog.cellsOf 48 = 1 := by kernel_rfl
  match cs, hlen with
  | [v0, v1, v2, v3, v4, v5, v6, v7, v8, v9, v10], _ =>
    obtain ⟨y0, h0⟩ := hf 0 5 0 rfl
    obtain ⟨y1, h1⟩ := hf 1 5 1 rfl
    obtain ⟨y2, h2⟩ := hf 2 3 2 rfl
    obtain ⟨y3, h3⟩ := hf 3 3 3 rfl
    obtain ⟨y4, h4⟩ := hf 4 3 4 rfl
    obtain ⟨y5, h5⟩ := hf 5 3 5 rfl
    obtain ⟨y6, h6⟩ := hf 6 47 6 rfl
    obtain ⟨y7, h7⟩ := hf 7 47 8 rfl
    obtain ⟨y8, h8⟩ := hf 8 48 10 rfl
    rw [c5] at h0 h1
    rw [c3] at h2 h3 h4 h5
    rw [c47] at h6 h7
    rw [c48] at h8
    obtain ⟨d, e0, _, w0⟩ := DataW.trod_int u5 h0
    obtain ⟨hn, e1, _, w1⟩ := DataW.trod_int u5 h1
    obtain ⟨a, e2, _⟩ := DataW.trod_int u3 h2
    obtain ⟨b, e3, _⟩ := DataW.trod_int u3 h3
    obtain ⟨c, e4, _⟩ := DataW.trod_int u3 h4
    obtain ⟨wh, e5, _⟩ := DataW.trod_int u3 h5
    obtain ⟨w1', w2', e6⟩ := word_of h6
    obtain ⟨z1, z2, e7⟩ := word_of h7
    obtain ⟨sa, sn, sc, bs, e8, hS⟩ := someAt_of h8
    simp only [List.drop_zero, List.drop_succ_cons, List.take_succ_cons, List.take_zero, List.cons.injEq, and_true] at e0 e1 e2 e3 e4 e5 e6 e7 e8
    obtain ⟨rfl, rfl⟩ := e6
    obtain ⟨rfl, rfl⟩ := e7
    subst e0 e1 e2 e3 e4 e5
    refine ⟨⟨d, hn, a, b, c, wh, (w1', w2'), (z1, z2), sa, sn, sc⟩, bs, ?_, hS _ rfl rfl rfl, ?_⟩
    · simp only [ofVals, List.cons.injEq, and_true] at e8
      simp only [ofVals, e8]
      rfl
    · have m : ∀ n : Int, (Lit.int .u8 n).wf = true → 0 ≤ n ∧ n < 256 := by
        intro n hw
        simp only [Lit.wf, Bool.and_eq_true, decide_eq_true_eq] at hw
        have e1 : IntKind.u8.min = 0 := by decide
        have e2 : IntKind.u8.max = 255 := by decide
        rw [e1, e2] at hw
        omega
      have := m d w0
      have := m hn w1
      simp only; omega
instance : Inhabited (ActG × List Bool) := ⟨⟨⟨0, 0, 0, 0, 0, 0, (0, 0), (0, 0), none, 0, none⟩, []⟩⟩
theorem acts_of {fuel : Nat} {v : Value} {x : DataW H × List MemPlace} (hw : ∀ es sp, x.1 = .slice es sp → es.length < 2 ^ 61) (h : DataW.trod enc Try.prog W 0 (fun _ => true) true fuel 35 [v] = some x) : ∃ l : List (ActG × List Bool), ActsAt (oldSt W).old (ofVal v) l ∧ l.length < 2 ^ 61 := by
  rcases Go.Deep.open_slice (P := Try.prog) (t := 35) (e := 50) (by kernel_rfl) h with ⟨e, _⟩ | ⟨a, len, cap, m, n, D, Pl, e, hb, hl, hm, hmm, hxe, hx⟩
  · cases e
    exact ⟨[], ⟨rfl, fun i hi => by simp at hi, fun x hx => (by cases hx), fun x hx => (by cases hx)⟩, by simp⟩
  · cases e
    have c50 : Try.prog.cellsOf 50 = 11 := by kernel_rfl
    rw [c50] at hx
    have hm' : m = cap := by simpa using hmm
    have hsp : 0 < cap → a.spot = none := fun hc => by
      obtain ⟨cs, h1, _⟩ := hx 0 (by omega)
      exact (rd (by omega) h1).1
    have each : ∀ i, i < len → ∃ (y : ActG) (bs : List Bool), (∃ C, (oldSt W).old a.block = some (.cells C none) ∧ cut C (a.off + i * 11) 11 = some y.cells) ∧ SomeAt (oldSt W).old y bs ∧ (0 ≤ y.d ∧ y.d < 256 ∧ 0 ≤ y.hn ∧ y.hn < 256) := by
      intro i hi
      obtain ⟨cs, h1, h2⟩ := hx i (by omega)
      obtain ⟨y, bs, e1, e2, e3⟩ := act_of h2
      obtain ⟨_, C, k1, k2⟩ := rd (by omega) h1
      rw [e1] at k2
      have b1 : (a.add (i * 11)).block = a.block := by unfold Addr.add; split <;> rfl
      have b2 : (a.add (i * 11)).off = a.off + i * 11 := by unfold Addr.add; split <;> simp_all
      rw [b1] at k1
      rw [b2] at k2
      exact ⟨y, bs, ⟨C, k1, k2⟩, e2, e3⟩
    obtain ⟨f, hf⟩ := Go.Deep.choose_lt (α := ActG × List Bool) (p := fun i q => (∃ C, (oldSt W).old a.block = some (.cells C none) ∧ cut C (a.off + i * 11) 11 = some q.1.cells) ∧ SomeAt (oldSt W).old q.1 q.2 ∧ (0 ≤ q.1.d ∧ q.1.d < 256 ∧ 0 ≤ q.1.hn ∧ q.1.hn < 256)) (fun i hi => by
      obtain ⟨y, bs, h⟩ := each i hi
      exact ⟨(y, bs), h⟩)
    refine ⟨(List.range len).map f, ⟨?_, fun i hi => ?_, ?_, ?_⟩, ?_⟩
    · rw [ofVal_slice hl hsp, lenV_slice]; simp
    · simp at hi
      obtain ⟨⟨C, k1, k2⟩, _⟩ := hf i hi
      rw [ofVal_slice hl hsp]
      refine ⟨⟨.old a.block, a.off + i * 11⟩, ix_old hi, fun s hs => ?_⟩
      simp only [List.getElem_map, List.getElem_range]
      refine ⟨old_load hs k1 k2, old_load1 hs k1 ?_⟩
      rw [show a.off + i * 11 + 10 = (a.off + i * 11) + 10 from rfl, cut_get k2 (by omega)]
      rfl
    · intro x hx
      obtain ⟨i, hi, rfl⟩ := List.mem_map.1 hx
      exact (hf i (List.mem_range.1 hi)).2.1
    · intro x hx
      obtain ⟨i, hi, rfl⟩ := List.mem_map.1 hx
      exact (hf i (List.mem_range.1 hi)).2.2
    · have := hw _ _ (by rw [hxe])
      simpa using this
end
open Go.ChangeAt
theorem Try.own' : ownKnob Try.prog.godebug = none := by kernel_rfl
theorem Try.laidOut' : laidOutB Try.prog = true := by kernel_rfl
theorem Try.mixed' : Try.prog.follows .mixedOrders = true := by kernel_rfl
theorem sized_acts {H : Type} {ts : List TypeId} {ds : List (DataW H)} (h : (DataW.weightsEach Try.prog ts ds).all (· ≤ reachBytes) = true) {j : Nat} (ht : ts[j]? = some 35) {d : DataW H} (hd : ds[j]? = some d) :
    ∀ es sp, d = .slice es sp → es.length < 2 ^ 61 := by
  intro es sp e
  subst e
  have h1 := sized_slice (e := 50) h ht hd (by kernel_rfl)
  have hb : (decide (0 < Try.prog.bytesOf 50)) = true := by kernel_rfl
  have hb' : 0 < Try.prog.bytesOf 50 := of_decide_eq_true hb
  have h2 : es.length ≤ (es.length + sp.length) * Try.prog.bytesOf 50 := Nat.le_trans (Nat.le_add_right _ _) (Nat.le_mul_of_pos_right _ hb')
  have h3 : reachBytes < 2 ^ 61 := by decide
  omega
end Go.Proofs.Ytoldkemimhebaaa

set_option linter.unusedSimpArgs false
set_option linter.unusedVariables false
namespace Go.Proofs.Ytoldkemimhebaaa
open Go Go.IM
section
variable {o : Nat → Option O} {s : St} {C F : Ch} {Q : V → St → Prop} {p r q t : Nat} {u : List Bool} {others : List Nat} {G : PairG}
set_option maxRecDepth 10000
set_option maxHeartbeats 4000000
end
end Go.Proofs.Ytoldkemimhebaaa

set_option linter.unusedSimpArgs false
set_option linter.unusedVariables false
namespace Go.Proofs.Ytoldkemimhebaaa
open Go Go.IM
section
variable {o : Nat → Option O} {s : St} {C F : Ch} {Q : V → St → Prop} {p q r t : Nat} {u : List Bool} {G : PairG}
set_option maxRecDepth 10000
set_option maxHeartbeats 4000000
theorem PairOk.collected (h : PairOk u [] G) {L : List (Int × Int)} {hp' : PHeap} {D : List RReg} (d2 : hp'.lives = G.hp.lives) (d4 : hp'.regs.map PReg.m = colRegs L (colAll L u (G.hp.regs.map PReg.m))) (hR : RsOk G.hp.lives (colAll L u (G.hp.regs.map PReg.m)).u (hp'.regs.map PReg.m)) (hok : ∀ g ∈ hp'.regs, g.ok)
    (hD : D.map RReg.m = colRegs L (colAll L u (G.hp.regs.map PReg.m))) (hz : ∀ g ∈ D, g.pages.length = 0 → g.pgk = 0) (hl : hp'.regs.length = G.hp.regs.length) :
    PairOk (colAll L u (G.hp.regs.map PReg.m)).u [] { G with hp := hp', hr := { G.hr with regs := D } } where
  ulen := hR.ulen
  lives := by rw [d2]; exact h.lives
  same := by rw [d4, hD]
  inv := by rw [show ({ G with hp := hp', hr := { G.hr with regs := D } } : PairG).hp.lives = hp'.lives from rfl, d2]; exact hR.inv
  pool := by rw [List.append_nil]; exact hR.pool
  pok := hok
  grown := h.grown
  pz := hz
  one := fun e => by
    have h1 := h.one e
    have h2 := congrArg List.length (d4.trans hD.symm)
    simp only [List.length_map] at h2
    show D.length = 1
    have h3 := h.len
    omega
end
end Go.Proofs.Ytoldkemimhebaaa

set_option linter.unusedSimpArgs false
set_option linter.unusedVariables false
namespace Go.Proofs.Ytoldkemimhebaaa
open Go Go.IM
section
variable {o : Nat → Option O} {s : St} {C F : Ch} {Q : V → St → Prop} {p q r t : Nat} {u : List Bool} {G : PairG}
set_option maxRecDepth 10000
set_option maxHeartbeats 4000000
end
end Go.Proofs.Ytoldkemimhebaaa

set_option linter.unusedSimpArgs false
set_option linter.unusedVariables false
namespace Go.Proofs.Ytoldkemimhebaaa
open Go Go.IM
section
variable {o : Nat → Option O} {s : St} {C F : Ch} {Q : V → St → Prop}
set_option maxRecDepth 10000
set_option maxHeartbeats 8000000
end
end Go.Proofs.Ytoldkemimhebaaa

set_option linter.unusedSimpArgs false
set_option linter.unusedVariables false
namespace Go.Proofs.Ytoldkemimhebaaa
open Go Go.IM
section
variable (π : Nat → Nat)
def PObj.ren (x : PObj) : PObj := ⟨π x.id, π x.wid, x.b⟩
def PReg.ren (g : PReg) : PReg := ⟨π g.id, π g.pgk, π g.obk, π g.plk, g.pl.ren π, g.size, g.life, g.fill, g.pages, g.objs.map (PObj.ren π)⟩
def PHeap.ren (h : PHeap) : PHeap := ⟨π h.id, π h.rowk, h.lives, h.regs.map (PReg.ren π), h.sl.map (V.ren π)⟩
def chR (C : Ch) : Ch := C.map fun x => (π x.1, x.2.map (O.ren π))
theorem chR_append (C D : Ch) : chR π (C ++ D) = chR π C ++ chR π D := List.map_append
theorem chR_cons (k : Nat) (x : Option O) (C : Ch) : chR π ((k, x) :: C) = (π k, x.map (O.ren π)) :: chR π C := rfl
theorem chR_nil : chR π [] = [] := rfl
theorem chR_flat {α : Type} (f : α → Ch) (l : List α) : chR π (l.flatMap f) = l.flatMap fun x => chR π (f x) := by unfold chR; rw [List.map_flatMap]
theorem ren_I (n : Int) : V.ren π (I n) = I n := rfl
theorem ren_ptr (k : Nat) : V.ren π (ptrN k) = ptrN (π k) := rfl
theorem ren_sl (k n : Nat) : V.ren π (slN k n) = slN (π k) n := rfl
theorem ren_row (k n : Nat) : V.ren π (rowV k n) = rowV (π k) n := by unfold rowV; split <;> rfl
theorem ren_map (k : Nat) : V.ren π (.map (some (.new k))) = .map (some (.new (π k))) := rfl
theorem ren_rowO (sz n : Nat) (cs : List V) : (rowO sz n cs).map (O.ren π) = rowO sz n (cs.map (V.ren π)) := by unfold rowO; split <;> rfl
theorem ren_cellsO (cs : List V) (g : Option Nat) : O.ren π (.cells cs g) = .cells (cs.map (V.ren π)) g := rfl
theorem ren_words (ws : List (Int × Int)) : (ws.flatMap encW).map (V.ren π) = ws.flatMap encW := by
  rw [List.map_flatMap]
  rfl
theorem ren_pages (l : List Nat) : (l.map fun n : Nat => I n).map (V.ren π) = l.map fun n : Nat => I n := by
  rw [List.map_map]; rfl
theorem PObj.ch_ren (x : PObj) : chR π x.ch = (x.ren π).ch := by
  unfold PObj.ch PObj.O PObj.W PObj.ren
  simp only [chR_cons, chR_nil, Option.map_some, ren_cellsO, ren_words, List.map_cons, List.map_nil, ren_I, ren_sl]
theorem PReg.ch_ren (g : PReg) : chR π g.ch = (g.ren π).ch := by
  unfold PReg.ch
  simp only [chR_cons, chR_flat, PObj.ch_ren]
  unfold PReg.ren PReg.hd pagesO PReg.obO
  simp only [Option.map_some, ren_cellsO, ren_rowO, ren_pages, List.map_cons, List.map_nil, ren_I, ren_row, ren_map, List.length_map, List.map_map, List.flatMap_map]
  rfl
theorem PHeap.ch_ren (p : Nat) (h : PHeap) : chR π (h.ch p) = (h.ren π).ch (π p) := by
  unfold PHeap.ch
  simp only [chR_cons, chR_flat, PReg.ch_ren]
  unfold PHeap.ren PHeap.hd PHeap.row
  simp only [Option.map_some, ren_cellsO, ren_rowO, List.map_cons, List.map_nil, ren_I, ren_row, ren_ptr, List.length_map, List.map_map, List.flatMap_map, List.map_append]
  rfl
theorem pool_ren (p r : Nat) (u : List Bool) : chR π (poolC p r u) = poolC (π p) (π r) u := by
  unfold poolC
  simp only [chR_cons, chR_nil, Option.map_some, ren_cellsO, List.map_cons, List.map_nil, List.map_map]
  rfl
def pairW (id a b wk : Nat) (ws : List (Int × Int)) : Ch := [(id, some (.cells [ptrN a, ptrN b, rowV wk ws.length] none)), (wk, rowO 2 ws.length (ws.flatMap encW))]
theorem pair_ren (id a b wk : Nat) (ws : List (Int × Int)) : chR π (pairW id a b wk ws) = pairW (π id) (π a) (π b) (π wk) ws := by
  unfold pairW
  simp only [chR_cons, chR_nil, Option.map_some, ren_cellsO, ren_rowO, ren_words, List.map_cons, List.map_nil, ren_row, ren_ptr]
theorem PReg.m_ren (g : PReg) : (g.ren π).m = g.m := by unfold PReg.m PReg.ren; simp only [List.map_map]; rfl
theorem PHeap.m_ren (h : PHeap) : (h.ren π).regs.map PReg.m = h.regs.map PReg.m := by
  unfold PHeap.ren
  rw [List.map_map]
  exact List.map_congr_left fun g _ => g.m_ren π
theorem mapIs_ren {α : Type} [DecidableEq α] {enc : α → V} (he : ∀ a, (enc a).ren π = enc a) {f : α → Option V} {x : O} (h : MapIs enc f x) : MapIs enc (fun a => (f a).map (V.ren π)) (x.ren π) := by
  obtain ⟨l, c, rfl, hf⟩ := h
  refine ⟨l.map fun e => (e.1, e.2.1.ren π, e.2.2), c, ?_, fun a => ?_⟩
  · show O.map _ _ = _
    simp only [List.map_map]
    congr 1
    exact List.map_congr_left fun e _ => by simp [he]
  · show _ = (f a).map (V.ren π)
    rw [List.find?_map, ← hf a]
    simp only [Option.map_map]
    rfl
theorem PReg.ok_ren {g : PReg} (h : g.ok) : (g.ren π).ok := by
  have h1 := mapIs_ren π (fun n => rfl) h
  unfold PReg.ok
  have e : (fun a : Int => ((g.ren π).objs.find? fun x => decide ((x.b.at_ : Int) = a)).map fun x => ptrN x.id) = fun a : Int => ((g.objs.find? fun x => decide ((x.b.at_ : Int) = a)).map fun x => ptrN x.id).map (V.ren π) := by
    funext a
    show ((g.objs.map (PObj.ren π)).find? _).map _ = _
    rw [List.find?_map, Option.map_map, Option.map_map]
    rfl
  rw [e]
  exact h1
theorem PHeap.ok_ren {h : PHeap} (hk : ∀ g ∈ h.regs, g.ok) : ∀ g ∈ (h.ren π).regs, g.ok := by
  intro g hg
  obtain ⟨g0, h0, rfl⟩ := List.mem_map.1 hg
  exact PReg.ok_ren π (hk g0 h0)
end
theorem ids_chR (π : Nat → Nat) (C : Ch) : (chR π C).ids = C.ids.map π := by
  unfold chR Ch.ids
  induction C with
  | nil => rfl
  | cons x C ih =>
    obtain ⟨k, _ | y⟩ := x
    · simpa using ih
    · simpa using ih
theorem holds_ren {o : Nat → Option O} {s' t t' : St} {π : Nat → Nat} {C D : Ch} (h : Holds o s' C) (r : Ren π s' t') (u : Out π t t') (hD : Holds o t D) (hpi : ∀ k, π k = t.next + k) : Holds o t' (chR π C ++ D) := by
  have hin : ∀ a b, π a = π b → a = b := r.inj
  refine ⟨by rw [u.old]; exact hD.old, ?_, fun k x m => ?_, fun k m => ?_⟩
  · rw [Holds.ids_append, ids_chR, List.nodup_append]
    refine ⟨List.Pairwise.map _ (fun a b (hab : a ≠ b) e => hab (hin _ _ e)) h.nodup, hD.nodup, fun a ha b hb e => ?_⟩
    obtain ⟨k, _, rfl⟩ := List.mem_map.1 ha
    have := hD.lt b hb
    have := hpi k
    omega
  · rcases List.mem_append.1 m with m | m
    · obtain ⟨⟨j, y⟩, hy, e⟩ := List.mem_map.1 m
      cases y with
      | none => simp at e
      | some y =>
        simp only [Option.map_some, Prod.mk.injEq, Option.some.injEq] at e
        obtain ⟨rfl, rfl⟩ := e
        exact r.obj _ _ (h.at_ _ _ hy)
    · have hk : k < t.next := hD.lt k (Holds.ids_mem.2 ⟨x, m⟩)
      rw [u.new k (fun j e => by have := hpi j; omega)]
      exact hD.at_ k x m
  · rw [Holds.ids_append, ids_chR] at m
    rcases List.mem_append.1 m with m | m
    · obtain ⟨j, hj, rfl⟩ := List.mem_map.1 m
      have h1 := h.lt j hj
      have h2 := r.next s'.next (Nat.le_refl _)
      have h3 := hpi s'.next
      have h4 := hpi j
      omega
    · have := hD.lt k m
      have := u.next
      omega
section
variable {o : Nat → Option O} {s : St} {C F : Ch} {Q : V → St → Prop} {p q : Nat}
theorem made_any {v : V} {l : List (ActG × List Bool)} (hsh : ∀ (π : Nat → Nat) b x, o b = some x → x.ren π = x) (hv : ∀ π : Nat → Nat, v.ren π = v) (hA : ActsAt o v l) (hl : l.length ≤ 150) :
    ∃ (p r : Nat) (u : List Bool) (id wk hr : Nat) (hp : PHeap) (ws : List (Int × Int)), RsOk hp.lives u (hp.regs.map PReg.m) ∧ (∀ g ∈ hp.regs, g.ok) ∧ hp.lives ≤ 151 ∧ ws.length ≤ 150000 ∧
      ∀ (s : St) (D : Ch) (Q : V → St → Prop), Holds o s D → (∀ s' (π : Nat → Nat), Holds o s' (poolC (π p) (π r) u ++ ((hp.ren π).ch (π p) ++ (pairW (π id) (π hp.id) (π hr) (π wk) ws ++ D))) → Q (.tuple [ptrN (π id), .bool true]) s') → WP (call PF 42 [v] s) Q := by
  have H0 : Holds o ⟨o, 0, fun _ => none⟩ [] := H0c rfl
  obtain ⟨v0, s0, hc, p, r, q, t, u, G, ok, hul, hlv, hws, h0, rfl⟩ : WP (call PF 42 [v] ⟨o, 0, fun _ => none⟩) fun v' s' => ∃ p r q t u G, PairOk u [] G ∧ u.length = 30 ∧ G.hp.lives ≤ 151 ∧ G.ws.length ≤ 150000 ∧ Holds o s' (World p r q t u G []) ∧ v' = .tuple [ptrN G.id, .bool true] :=
    s42 hA hl H0 fun s' p r q t u G a b c d h => ⟨p, r, q, t, u, G, a, b, c, d, h, rfl⟩
  refine ⟨p, r, u, G.id, G.wk, G.hr.id, G.hp, G.ws, ok.rs, ok.pok, hlv, hws, fun s D Q hD k => ?_⟩
  have hren : Ren (fun k => s.next + k) ⟨o, 0, fun _ => none⟩ s := ⟨fun k _ => rfl, fun k x e => (by cases e), fun b x e => by rw [hD.old, hsh _ _ _ e]; exact e, fun a b e => Nat.add_left_cancel e⟩
  obtain ⟨t', e1, r1, u1⟩ := call_frame (F := PF) shutF_shut hren hc
  rw [List.map_cons, List.map_nil, hv] at e1
  have h1 : Holds o s0 (poolC p r u ++ (G.hp.ch p ++ pairW G.id G.hp.id G.hr.id G.wk G.ws)) := (Holds.of (h0) (fun k => by simp +arith only [pairW, HA, HB]) (fun k x => by simp only [pairW, HA, HC]; grind only))
  have h2 := holds_ren h1 r1 u1 hD (fun k => rfl)
  rw [chR_append, chR_append, pool_ren, PHeap.ch_ren, pair_ren, List.append_assoc, List.append_assoc] at h2
  exact ⟨_, _, e1, k _ _ h2⟩
end
mutual
theorem ren_ofVal (π : Nat → Nat) : ∀ v : Value, (ofVal v).ren π = ofVal v
  | .bool _ => rfl
  | .int _ _ => rfl
  | .string _ => rfl
  | .pointer none => rfl
  | .pointer (some ⟨_, _, none⟩) => rfl
  | .pointer (some ⟨_, _, some _⟩) => rfl
  | .slice none 0 0 => rfl
  | .slice none 0 (_ + 1) => rfl
  | .slice none (_ + 1) _ => rfl
  | .slice (some ⟨b, o, none⟩) n c => by
    unfold ofVal
    split <;> rfl
  | .slice (some ⟨b, o, some _⟩) 0 0 => rfl
  | .slice (some ⟨b, o, some _⟩) 0 (_ + 1) => rfl
  | .slice (some ⟨b, o, some _⟩) (_ + 1) _ => rfl
  | .map none => rfl
  | .map (some _) => rfl
  | .nilFunc => rfl
  | .nilIface => rfl
  | .agg ⟨l⟩ => by
    show V.agg (renL π (ofVals l)) = V.agg (ofVals l)
    rw [renL_eq, ren_ofVals π l]
  | .tuple ⟨l⟩ => by
    show V.tuple (renL π (ofVals l)) = V.tuple (ofVals l)
    rw [renL_eq, ren_ofVals π l]
  | .float _ _ => rfl
  | .complex _ _ _ => rfl
  | .chan _ => rfl
  | .func _ _ _ => rfl
  | .iface _ _ => rfl
theorem ren_ofVals (π : Nat → Nat) : ∀ l : List Value, (ofVals l).map (V.ren π) = ofVals l
  | [] => rfl
  | v :: l => by
    show V.ren π (ofVal v) :: (ofVals l).map (V.ren π) = _
    rw [ren_ofVal π v, ren_ofVals π l]; rfl
end
theorem oldSt_shut (W : Go.World) (π : Nat → Nat) (b : Nat) (x : O) (h : (oldSt W).old b = some x) : x.ren π = x := by
  simp only [oldSt] at h
  split at h
  · cases h
    show O.cells ((ofVals _).map (V.ren π)) none = _
    rw [ren_ofVals]
  · cases h
end Go.Proofs.Ytoldkemimhebaaa

set_option linter.unusedSimpArgs false
set_option linter.unusedVariables false
namespace Go.Proofs.Ytoldkemimhebaaa
open Go Go.IM
def wordO (g : Reg) (x : Obj) : Wd := ((x.at_ : Int), (g.life : Int))
theorem lookW_zip : ∀ {ks ns : List Wd}, ks.Nodup → ∀ p ∈ ks.zip ns, lookW ks ns p.1 = some p.2
  | [], _, _, p, h => by simp at h
  | _ :: _, [], _, p, h => by simp at h
  | k :: ks, n :: ns, hn, p, h => by
    rw [List.nodup_cons] at hn
    rw [List.zip_cons_cons] at h
    rcases List.mem_cons.1 h with rfl | h
    · simp [lookW]
    · have hk : ¬ k = p.1 := fun e => hn.1 (e ▸ (List.of_mem_zip h).1)
      rw [lookW, if_neg hk]
      exact lookW_zip hn.2 p h
structure ColMap (L : List Wd) (A : List Reg) (S : ColS) : Prop where
  fwd : ∀ g ∈ A, 0 < g.pages.length → ∃ ats g', g' ∈ S.regs ∧ g'.life = g.life ∧ g'.size = g.size ∧ ats.Nodup ∧ ats.length = (keptM L g).length ∧ g'.objs = layObj (keptM L g) ats ∧ ∀ p ∈ (keptM L g).zip ats, S.mv (wordO g p.1) = some (((p.2 : Nat) : Int), (g.life : Int))
  fin : ∀ g ∈ A, ¬ 0 < g.pages.length → g ∈ S.regs
theorem ColMap.step {L : List Wd} {lv : Nat} {A B : List Reg} {S : ColS} {g : Reg} (hc : ColInv L lv A (g :: B) S) (h : ColMap L A S) : ColMap L (A ++ [g]) (colStep L S g) := by
  have hI := hc.ok.inv
  have hri := hI.reg g (by simp)
  have hn := hI.nodup
  rw [List.map_append, List.map_cons, hc.lives, List.nodup_append] at hn
  unfold colStep
  by_cases hp : 0 < g.pages.length
  · rw [if_pos hp]
    have hs : g.size = 0 := by
      rcases Nat.eq_zero_or_pos g.size with h | h
      · exact h
      · have := (hri.fin h).1; rw [this] at hp; simp at hp
    obtain ⟨ats, u', fill', pages', hlay, hnd, hpl, hal, hul, hR⟩ := hc.ok.turn hs (ys := keptM L g) (List.filter_sublist ..)
    rw [hlay]
    refine ⟨fun g0 m0 h0 => ?_, fun g0 m0 h0 => ?_⟩
    · rcases List.mem_append.1 m0 with m0 | m0
      · obtain ⟨ats0, g', k1, k2, k3, k4, k5, k6, k7⟩ := h.fwd g0 m0 h0
        refine ⟨ats0, g', List.mem_append_left _ k1, k2, k3, k4, k5, k6, fun p hp' => ?_⟩
        simp only
        rw [updF_other, k7 p hp']
        intro y hy e
        obtain ⟨hy1, _⟩ := List.of_mem_zip hy
        obtain ⟨z, _, hz⟩ := List.mem_map.1 hy1
        rw [← hz] at e
        simp only [wordO, Prod.mk.injEq] at e
        exact hn.2.2 _ (List.mem_map.2 ⟨g0, m0, rfl⟩) _ (List.mem_cons_self ..) (by omega)
      · simp at m0; subst m0
        refine ⟨ats, _, List.mem_append_right _ (List.mem_cons_self ..), rfl, rfl, hnd, hal, rfl, fun p hp' => ?_⟩
        simp only
        have hkn : ((keptM L g0).map fun x => ((x.at_ : Int), (g0.life : Int))).Nodup := by rw [kept_words]; exact (wordsR_nodup hri).sublist (List.filter_sublist ..)
        rw [look_upd _ _ hkn (by simp [hal])]
        have := lookW_zip hkn (wordO g0 p.1, (((p.2 : Nat) : Int), (g0.life : Int))) (ns := ats.map fun a : Nat => ((a : Int), (g0.life : Int))) (by
          rw [List.zip_map]
          exact List.mem_map.2 ⟨p, hp', rfl⟩)
        rw [this]; rfl
    · rcases List.mem_append.1 m0 with m0 | m0
      · exact List.mem_append_left _ (h.fin g0 m0 h0)
      · simp at m0; subst m0; exact absurd hp h0
  · rw [if_neg hp]
    refine ⟨fun g0 m0 h0 => ?_, fun g0 m0 h0 => ?_⟩
    · rcases List.mem_append.1 m0 with m0 | m0
      · obtain ⟨ats0, g', k1, k2⟩ := h.fwd g0 m0 h0
        exact ⟨ats0, g', List.mem_append_left _ k1, k2⟩
      · simp at m0; subst m0; exact absurd h0 hp
    · rcases List.mem_append.1 m0 with m0 | m0
      · exact List.mem_append_left _ (h.fin g0 m0 h0)
      · simp at m0; subst m0; exact List.mem_append_right _ (List.mem_cons_self ..)
theorem ColMap.all {L : List Wd} {lv : Nat} : ∀ {B A : List Reg} {S : ColS}, ColInv L lv A B S → ColMap L A S → ColMap L (A ++ B) (B.foldl (colStep L) S)
  | [], A, S, _, h => by simpa using h
  | g :: B, A, S, h1, h => by
    have := (h.step h1).all (h1.step)
    rw [List.append_assoc] at this
    exact this
theorem ColMap.start {L : List Wd} {S : ColS} : ColMap L [] S := ⟨fun g hg => (by cases hg), fun g hg => (by cases hg)⟩
structure Moved (rs rs' : List Reg) (now : Wd → Wd) (L : List Wd) : Prop where
  lives : rs'.map (·.life) = rs.map (·.life)
  life2 : ∀ w, (now w).2 = w.2
  zero : ∀ w, w.2 = 0 → now w = w
  obj : ∀ g ∈ rs, ∀ x ∈ g.objs, wordO g x ∈ L → ∃ g' ∈ rs', g'.life = g.life ∧ ∃ x' ∈ g'.objs, wordO g' x' = now (wordO g x) ∧ x'.kind = x.kind ∧ x'.ws = x.ws.map now
  inj : ∀ v ∈ L, ∀ w ∈ L, now v = now w → v = w
  gone : ∀ w, ¬ Points rs w → ¬ Points rs' (now w)
  only : ∀ g' ∈ rs', g'.size = 0 → ∀ x' ∈ g'.objs, ∃ w ∈ L, wordO g' x' = now w
theorem points_word {rs : List Reg} {g : Reg} {x : Obj} (hg : g ∈ rs) (h1 : 1 ≤ g.life) (hx : x ∈ g.objs) : Points rs (wordO g x) := ⟨by unfold wordO; simp only; omega, g, hg, rfl, x, hx, rfl⟩
theorem points_of {rs : List Reg} {w : Wd} (h : Points rs w) : ∃ g ∈ rs, ∃ x ∈ g.objs, w = wordO g x := by
  obtain ⟨_, g, hg, e1, x, hx, e2⟩ := h
  exact ⟨g, hg, x, hx, Prod.ext e2.symm e1.symm⟩
theorem zip_get {α β : Type} : ∀ {l : List α} {m : List β}, m.length = l.length → ∀ x ∈ l, ∃ a ∈ m, (x, a) ∈ l.zip m
  | [], _, _, x, h => by cases h
  | _ :: _, [], h, _, _ => by simp at h
  | y :: l, b :: m, hl, x, h => by
    rw [List.zip_cons_cons]
    rcases List.mem_cons.1 h with rfl | h
    · exact ⟨b, List.mem_cons_self .., List.mem_cons_self ..⟩
    · obtain ⟨a, h1, h2⟩ := zip_get (by simpa using hl) x h
      exact ⟨a, List.mem_cons_of_mem _ h1, List.mem_cons_of_mem _ h2⟩
theorem zip_inj {α β : Type} : ∀ {l : List α} {m : List β}, m.Nodup → ∀ {x y a}, (x, a) ∈ l.zip m → (y, a) ∈ l.zip m → x = y
  | [], _, _, x, y, a, h, _ => by simp at h
  | _ :: _, [], _, x, y, a, h, _ => by simp at h
  | z :: l, b :: m, hn, x, y, a, h, k => by
    rw [List.nodup_cons] at hn
    rw [List.zip_cons_cons] at h k
    rcases List.mem_cons.1 h with h | h
    · rcases List.mem_cons.1 k with k | k
      · cases h; cases k; rfl
      · cases h; exact absurd (List.of_mem_zip k).2 hn.1
    · rcases List.mem_cons.1 k with k | k
      · cases k; exact absurd (List.of_mem_zip h).2 hn.1
      · exact zip_inj hn.2 h k
theorem layObj_zip : ∀ {ys : List Obj} {ats : List Nat}, ats.length = ys.length → ∀ z, z ∈ layObj ys ats ↔ ∃ p ∈ ys.zip ats, z = { p.1 with at_ := p.2 }
  | [], [], _, z => by simp [layObj]
  | [], _ :: _, h, _ => by simp at h
  | _ :: _, [], h, _ => by simp at h
  | y :: ys, a :: ats, hl, z => by
    have := layObj_zip (ys := ys) (ats := ats) (by simpa using hl) z
    simp only [layObj] at this
    simp only [layObj, List.zipWith_cons_cons, List.mem_cons, List.zip_cons_cons, this]
    constructor
    · rintro (rfl | ⟨p, h1, h2⟩)
      · exact ⟨_, .inl rfl, rfl⟩
      · exact ⟨p, .inr h1, h2⟩
    · rintro ⟨p, rfl | h1, h2⟩
      · exact .inl h2
      · exact .inr ⟨p, h1, h2⟩
theorem moved {lv : Nat} {u : List Bool} {rs : List Reg} {L : List Wd} (h : RsOk lv u rs) (hL : ∀ w ∈ L, Points rs w) (hLn : L.Nodup) :
    Moved rs (colRegs L (colAll L u rs)) (nowW (colAll L u rs).mv (colAll L u rs).fx) L := by
  have hlv := (collected (L := L) h).2
  rw [colRegs_map h hL hLn] at hlv ⊢
  have hI := (ColInv.start (L := L) h).all
  have hI2 := (ColInv2.start (L := L) (u := u) (B := rs)).all (ColInv.start (L := L) h)
  have hM := (ColMap.start (L := L) (S := ⟨[], u, fun _ => none, [], []⟩)).all (ColInv.start (L := L) h)
  rw [List.nil_append] at hI hI2 hM
  change ColInv L lv rs [] (colAll L u rs) at hI
  change ColInv2 L rs [] (colAll L u rs) at hI2
  change ColMap L rs (colAll L u rs) at hM
  generalize colAll L u rs = S at hI hI2 hM hlv ⊢
  have hn := h.inv.nodup
  have hl1 := fun g hg => (h.inv.life g hg).1
  have nowP : ∀ g ∈ rs, ∀ p : Obj × Nat, 1 ≤ g.life → S.mv (wordO g p.1) = some (((p.2 : Nat) : Int), (g.life : Int)) → nowW S.mv S.fx (wordO g p.1) = (((p.2 : Nat) : Int), (g.life : Int)) := by
    intro g hg p h1 e
    unfold nowW
    rw [if_neg (by unfold wordO; simp only; omega), e]
  have mvF : ∀ g ∈ rs, ¬ 0 < g.pages.length → ∀ x ∈ g.objs, S.mv (wordO g x) = none := by
    intro g hg hp x hx
    cases hm : S.mv (wordO g x) with
    | none => rfl
    | some n =>
      obtain ⟨h1, -⟩ := hI2.mv _ _ hm
      obtain ⟨g0, hg0, h2⟩ := List.mem_flatMap.1 h1
      split at h2
      · rename_i h3
        have h4 := wordsR_life (List.mem_filter.1 h2).1
        have : g = g0 := life_inj hn hg hg0 (by unfold wordO at h4; simp only at h4; omega)
        subst this
        exact absurd h3 hp
      · cases h2
  have nowF : ∀ g ∈ rs, ¬ 0 < g.pages.length → ∀ x ∈ g.objs, nowW S.mv S.fx (wordO g x) = wordO g x := by
    intro g hg hp x hx
    have hfx : wordO g x ∈ S.fx := (hI2.fx _).2 ⟨g, hg, hp, List.mem_map.2 ⟨x, hx, rfl⟩⟩
    unfold nowW
    rw [mvF g hg hp x hx, if_pos hfx]
    split <;> rfl
  have life2 : ∀ w, (nowW S.mv S.fx w).2 = w.2 := by
    intro w
    unfold nowW
    split
    · rfl
    · split
      · rename_i n e; exact (hI2.mv w n e).2
      · split <;> rfl
  have keptIn : ∀ {g : Reg} {x : Obj}, x ∈ keptM L g → x ∈ g.objs ∧ wordO g x ∈ L := by
    intro g x hx
    obtain ⟨k1, k2⟩ := List.mem_filter.1 hx
    exact ⟨k1, by simpa [wordO] using k2⟩
  refine ⟨hlv, life2, fun w hw => ?_, fun g hg x hx hxL => ?_, fun v hv w hw e => ?_, fun w hw hp => ?_, fun g' hg' hs x' hx' => ?_⟩
  · unfold nowW; rw [if_pos hw]
  · by_cases hp : 0 < g.pages.length
    · obtain ⟨ats, g', k1, k2, k3, k4, k5, k6, k7⟩ := hM.fwd g hg hp
      have hk : x ∈ keptM L g := List.mem_filter.2 ⟨hx, by simpa [wordO] using hxL⟩
      obtain ⟨a, ha, hz⟩ := zip_get k5 x hk
      refine ⟨mapReg (List.map (nowW S.mv S.fx)) g', List.mem_map.2 ⟨g', k1, rfl⟩, k2, { ({ x with at_ := a } : Obj) with ws := x.ws.map (nowW S.mv S.fx) }, ?_, ?_, rfl, rfl⟩
      · refine List.mem_map.2 ⟨{ x with at_ := a }, ?_, rfl⟩
        rw [k6]
        exact (layObj_zip k5 _).2 ⟨_, hz, rfl⟩
      · rw [nowP g hg (x, a) (hl1 g hg) (k7 _ hz)]
        show ((a : Int), (g'.life : Int)) = _
        rw [k2]
    · refine ⟨mapReg (List.map (nowW S.mv S.fx)) g, List.mem_map.2 ⟨g, hM.fin g hg hp, rfl⟩, rfl, { x with ws := x.ws.map (nowW S.mv S.fx) }, List.mem_map.2 ⟨x, hx, rfl⟩, ?_, rfl, rfl⟩
      rw [nowF g hg hp x hx]; rfl
  · obtain ⟨g, hg, x, hx, rfl⟩ := points_of (hL v hv)
    obtain ⟨g0, hg0, y, hy, rfl⟩ := points_of (hL w hw)
    have e2 : g = g0 := life_inj hn hg hg0 (by
      have := congrArg Prod.snd e
      rw [life2, life2] at this
      unfold wordO at this; simp only at this; omega)
    subst e2
    by_cases hp : 0 < g.pages.length
    · obtain ⟨ats, g', k1, k2, k3, k4, k5, k6, k7⟩ := hM.fwd g hg hp
      have hkx : x ∈ keptM L g := List.mem_filter.2 ⟨hx, by simpa [wordO] using hv⟩
      have hky : y ∈ keptM L g := List.mem_filter.2 ⟨hy, by simpa [wordO] using hw⟩
      obtain ⟨a, ha, hza⟩ := zip_get k5 x hkx
      obtain ⟨b, hb, hzb⟩ := zip_get k5 y hky
      rw [nowP g hg (x, a) (hl1 g hg) (k7 _ hza), nowP g hg (y, b) (hl1 g hg) (k7 _ hzb)] at e
      have hab : a = b := by have := congrArg Prod.fst e; simp only at this; omega
      subst hab
      rw [zip_inj k4 hza hzb]
    · rwa [nowF g hg hp x hx, nowF g hg hp y hy] at e
  · have hw0 := hp.1
    rw [life2] at hw0
    have e1 : S.mv w = none := by
      cases hm : S.mv w with
      | none => rfl
      | some n =>
        obtain ⟨h1, -⟩ := hI2.mv _ _ hm
        obtain ⟨g0, hg0, h2⟩ := List.mem_flatMap.1 h1
        split at h2
        · obtain ⟨x, hx, rfl⟩ := List.mem_map.1 (List.mem_filter.1 h2).1
          exact absurd (points_word hg0 (hl1 g0 hg0) hx) hw
        · cases h2
    have e2 : w ∉ S.fx := fun m => by
      obtain ⟨g0, hg0, _, h2⟩ := (hI2.fx _).1 m
      obtain ⟨x, hx, rfl⟩ := List.mem_map.1 h2
      exact hw (points_word hg0 (hl1 g0 hg0) hx)
    have e3 : nowW S.mv S.fx w = (-1, w.2) := by unfold nowW; rw [if_neg (by omega), e1, if_neg e2]
    rw [e3] at hp
    obtain ⟨_, r, _, _, x, _, k⟩ := hp
    simp only at k; omega
  · obtain ⟨g2, hg2, rfl⟩ := List.mem_map.1 hg'
    obtain ⟨x2, hx2, rfl⟩ := List.mem_map.1 hx'
    have hm : g2.life ∈ rs.map (·.life) := by rw [← hI.lives]; exact List.mem_map.2 ⟨g2, hg2, rfl⟩
    obtain ⟨g, hg, el⟩ := List.mem_map.1 hm
    have hnS : (S.regs.map (·.life)).Nodup := by rw [hI.lives]; exact hn
    by_cases hp : 0 < g.pages.length
    · obtain ⟨ats, g3, k1, k2, k3, k4, k5, k6, k7⟩ := hM.fwd g hg hp
      have : g2 = g3 := life_inj hnS hg2 k1 (by omega)
      subst this
      rw [k6, layObj_zip k5] at hx2
      obtain ⟨p, hp', rfl⟩ := hx2
      have hin := keptIn (List.of_mem_zip (show (p.1, p.2) ∈ _ from hp')).1
      refine ⟨wordO g p.1, hin.2, ?_⟩
      rw [nowP g hg p (hl1 g hg) (k7 p hp')]
      show (((p.2 : Nat) : Int), (g2.life : Int)) = _
      rw [k2]
    · have : g2 = g := life_inj hnS hg2 (hM.fin g hg hp) (by omega)
      subst this
      have hs' : g2.size = 0 := hs
      have hri := h.inv.reg g2 hg
      obtain ⟨q, hq, _⟩ := ((hri.inf hs').facts hri.os).2.1 (x2.at_, x2.ws.length + 1) (List.mem_map.2 ⟨x2, hx2, rfl⟩)
      exact absurd (List.length_pos_of_mem hq) hp
end Go.Proofs.Ytoldkemimhebaaa

set_option linter.unusedSimpArgs false
set_option linter.unusedVariables false
namespace Go.Proofs.Ytoldkemimhebaaa
open Go Go.IM
theorem nodup_map_inj {α β : Type} {f : α → β} : ∀ {l : List α}, (l.map f).Nodup → ∀ {x y : α}, x ∈ l → y ∈ l → f x = f y → x = y
  | [], _, _, _, h, _, _ => by cases h
  | r :: l, hn, x, y, h, h0, e => by
    rw [List.map_cons, List.nodup_cons] at hn
    rcases List.mem_cons.1 h with h1 | h1
    · rcases List.mem_cons.1 h0 with h2 | h2
      · rw [h1, h2]
      · exact (hn.1 (List.mem_map.2 ⟨y, h2, by rw [← e, h1]⟩)).elim
    · rcases List.mem_cons.1 h0 with h2 | h2
      · exact (hn.1 (List.mem_map.2 ⟨x, h1, by rw [e, h2]⟩)).elim
      · exact nodup_map_inj hn.2 h1 h2 e
theorem mfind_at {lv : Nat} {rs : List Reg} (h : HInv lv rs) {g : Reg} {x : Obj} (hg : g ∈ rs) (hx : x ∈ g.objs) : mfind (wordO g x).1 (wordO g x).2 rs = some x := by
  have hp := (points_word hg (h.life g hg).1 hx).find.2
  obtain ⟨y, hy⟩ := Option.isSome_iff_exists.1 hp
  rw [hy]
  unfold mfind at hy
  obtain ⟨r, hr, k⟩ := List.exists_of_findSome?_eq_some hy
  split at k
  · rename_i hl
    have : r = g := life_inj h.nodup hr hg (by unfold wordO at hl; simp only at hl; omega)
    subst this
    have h1 := List.mem_of_find?_eq_some k
    have h2 := List.find?_some k
    have : y.at_ = x.at_ := by unfold wordO at h2; simp only [decide_eq_true_eq] at h2; omega
    rw [nodup_map_inj (h.reg r hr).nodup h1 hx this]
  · cases k
theorem thereB_mfind (h : PHeap) (w : Wd) : thereB h w = (decide (0 < w.2) && (mfind w.1 w.2 (h.regs.map PReg.m)).isSome) := by
  unfold thereB
  rw [← pfind_m]
  simp
theorem objW_mfind (h : PHeap) (w : Wd) : objW h w = ((mfind w.1 w.2 (h.regs.map PReg.m)).map fun x => x.ws).getD [] := by
  unfold objW
  rw [← pfind_m, Option.map_map]; rfl
theorem there_points {h : PHeap} {w : Wd} : thereB h w = true ↔ Points (h.regs.map PReg.m) w := by
  refine ⟨thereB_m, fun hp => ?_⟩
  obtain ⟨h0, h1⟩ := hp.find
  rw [thereB_mfind, h1, decide_eq_true h0]; rfl
theorem mismK_mfind (h k : PHeap) (v w : Wd) : mismK h k v w = (match mfind v.1 v.2 (h.regs.map PReg.m), mfind w.1 w.2 (k.regs.map PReg.m) with
  | some x, some y => decide (x.kind ≠ y.kind) || decide (x.ws.length ≠ y.ws.length)
  | _, _ => true) := by
  unfold mismK
  rw [← pfind_m, ← pfind_m]
  cases pfind v.1 v.2 h.regs <;> cases pfind w.1 w.2 k.regs <;> rfl
section
variable {h k : PHeap} (e : h.regs.map PReg.m = k.regs.map PReg.m)
include e
theorem there_cong : thereB h = thereB k := by funext w; rw [thereB_mfind, thereB_mfind, e]
theorem objW_cong : objW h = objW k := by funext w; rw [objW_mfind, objW_mfind, e]
theorem putW_cong : putW h = putW k := by funext l w; unfold putW; rw [there_cong e]
theorem bfs_cong : ∀ (n i : Nat) (l : List Wd), bfs h n i l = bfs k n i l
  | 0, _, _ => rfl
  | n + 1, i, l => by
    unfold bfs
    split
    · rw [objW_cong e, putW_cong e]; exact bfs_cong n _ _
    · rfl
theorem allW_cong : allW h = allW k := by
  have : ∀ x : PHeap, allW x = (x.regs.map PReg.m).flatMap fun g => g.objs.map fun y => ((y.at_ : Int), (g.life : Int)) := by
    intro x; unfold allW; rw [List.flatMap_map]
    refine congrArg (fun f => List.flatMap f x.regs) (funext fun g => ?_)
    unfold PReg.m; simp [List.map_map, Function.comp_def]
  rw [this, this, e]
theorem reach_cong (roots : List Wd) : reachW h roots = reachW k roots := by unfold reachW; rw [allW_cong e, putW_cong e, bfs_cong e]
end
theorem regFrom_lives {L : Int} : ∀ {a b : List PReg} {i : Nat}, a.map (·.life) = b.map (·.life) → regFrom a L i = regFrom b L i
  | [], [], _, _ => rfl
  | [], _ :: _, _, e => by simp at e
  | _ :: _, [], _, e => by simp at e
  | x :: a, y :: b, i, e => by
    simp only [List.map_cons, List.cons.injEq] at e
    unfold regFrom
    rw [e.1, regFrom_lives e.2]
structure Iso (h k : PHeap) (now : Wd → Wd) (L : List Wd) : Prop where
  isin : ∀ v ∈ L, thereB h v = true
  there : ∀ v, (thereB h v = true → v ∈ L) → thereB k (now v) = thereB h v
  objw : ∀ v ∈ L, objW k (now v) = (objW h v).map now
  mism : ∀ v ∈ L, mismK h k v (now v) = false
  inj : ∀ v ∈ L, ∀ w ∈ L, now v = now w → v = w
  life2 : ∀ w, (now w).2 = w.2
  zero : ∀ w, w.2 = 0 → now w = w
  reg : ∀ v, regI h v.2 = regI k (now v).2
  clos : ∀ v ∈ L, ∀ w ∈ objW h v, thereB h w = true → w ∈ L
theorem Iso.of {h k : PHeap} {lv lv' : Nat} {u u' : List Bool} (hR : RsOk lv u (h.regs.map PReg.m)) (hR' : RsOk lv' u' (k.regs.map PReg.m)) {now : Wd → Wd} {L : List Wd} (M : Moved (h.regs.map PReg.m) (k.regs.map PReg.m) now L)
    (hL : ∀ v ∈ L, thereB h v = true) (hc : ∀ v ∈ L, ∀ w ∈ objW h v, thereB h w = true → w ∈ L) : Iso h k now L := by
  have obj : ∀ v ∈ L, ∃ x x', mfind v.1 v.2 (h.regs.map PReg.m) = some x ∧ mfind (now v).1 (now v).2 (k.regs.map PReg.m) = some x' ∧ x'.kind = x.kind ∧ x'.ws = x.ws.map now ∧ Points (k.regs.map PReg.m) (now v) := by
    intro v hv
    obtain ⟨g, hg, x, hx, rfl⟩ := points_of (thereB_m (hL v hv))
    obtain ⟨g', hg', e1, x', hx', e2, e3, e4⟩ := M.obj g hg x hx hv
    refine ⟨x, x', mfind_at hR.inv hg hx, ?_, e3, e4, ?_⟩
    · rw [← e2]; exact mfind_at hR'.inv hg' hx'
    · rw [← e2]; exact points_word hg' (hR'.inv.life g' hg').1 hx'
  refine ⟨hL, fun v hv => ?_, fun v hv => ?_, fun v hv => ?_, M.inj, M.life2, M.zero, fun v => ?_, hc⟩
  · cases ht : thereB h v with
    | true => obtain ⟨_, _, _, _, _, _, k1⟩ := obj v (hv ht); exact there_points.2 k1
    | false =>
      cases hk : thereB k (now v) with
      | false => rfl
      | true => exact absurd (there_points.1 hk) (M.gone v fun hp => by rw [there_points.2 hp] at ht; cases ht)
  · obtain ⟨x, x', k1, k2, k3, k4, _⟩ := obj v hv
    rw [objW_mfind, objW_mfind, k1, k2]
    exact k4
  · obtain ⟨x, x', k1, k2, k3, k4, _⟩ := obj v hv
    rw [mismK_mfind, k1, k2]
    simp [k3, k4]
  · unfold regI
    have e : h.regs.map (·.life) = k.regs.map (·.life) := by
      have := M.lives
      rw [List.map_map, List.map_map] at this
      exact this.symm
    rw [M.life2, regFrom_lives e]
section
variable {h k : PHeap} {now : Wd → Wd} {L : List Wd} (I : Iso h k now L)
include I
theorem fit_iso {P : List (Wd × Wd)} (hd : ∀ e ∈ P, e.1 ∈ L ∧ e.2 = now e.1) {v : Wd} (hv : thereB h v = true → v ∈ L) : (fitM h k P v (now v)).2 = true ∧ ∀ e ∈ (fitM h k P v (now v)).1, e.1 ∈ L ∧ e.2 = now e.1 := by
  unfold fitM
  rw [I.there v hv]
  split
  · rename_i ht
    have hvL := hv ht.1
    split
    · rename_i e he
      obtain ⟨h1, h1'⟩ := hd e (List.mem_of_find?_eq_some he)
      have h2 := List.find?_some he
      have e1 : e.1 = v := by
        simp only [Bool.or_eq_true, decide_eq_true_eq] at h2
        rcases h2 with h2 | h2
        · exact h2
        · exact I.inj _ h1 _ hvL (by rw [← h1', h2])
      exact ⟨by rw [h1', e1]; simp, hd⟩
    · refine ⟨by rw [I.reg v]; simp, fun e he => ?_⟩
      rcases List.mem_append.1 he with he | he
      · exact hd e he
      · simp at he; subst he; exact ⟨hvL, rfl⟩
  · rename_i hth
    refine ⟨?_, hd⟩
    have : thereB h v = false := by simpa using hth
    simp only [this, I.life2]
    by_cases h0 : v.2 = 0
    · rw [I.zero v h0]; simp
    · simp [h0]
theorem fold_iso : ∀ (l : List Wd) {P : List (Wd × Wd)}, (∀ v ∈ l, thereB h v = true → v ∈ L) → (∀ e ∈ P, e.1 ∈ L ∧ e.2 = now e.1) → PairsOk h k P → ∃ P', foldR h k P (l.zip (l.map now)) = some P' ∧ (∀ e ∈ P', e.1 ∈ L ∧ e.2 = now e.1) ∧ PairsOk h k P'
  | [], P, _, hd, hP => ⟨P, rfl, hd, hP⟩
  | v :: l, P, hv, hd, hP => by
    obtain ⟨h1, h2⟩ := fit_iso I hd (hv v (List.mem_cons_self ..))
    rw [List.map_cons, List.zip_cons_cons, foldR, if_pos h1]
    exact fold_iso l (fun w hw => hv w (List.mem_cons_of_mem _ hw)) h2 (hP.fit v (now v))
theorem loop_iso : ∀ (n i : Nat) {P : List (Wd × Wd)}, (∀ e ∈ P, e.1 ∈ L ∧ e.2 = now e.1) → PairsOk h k P → loopR h k n i P = true
  | 0, _, _, _, _ => rfl
  | n + 1, i, P, hd, hP => by
    unfold loopR
    split
    · rfl
    · rename_i e he
      obtain ⟨h1, h2⟩ := hd e (List.mem_of_getElem? he)
      rw [h2, I.mism _ h1, if_neg (by simp), I.objw _ h1]
      obtain ⟨P', k1, k2, k3⟩ := fold_iso I (objW h e.1) (I.clos _ h1) hd hP
      rw [k1]
      exact loop_iso n (i + 1) k2 k3
theorem alikeR_iso {a : List Wd} (ha : ∀ v ∈ a, thereB h v = true → v ∈ L) : alikeR h k a (a.map now) = true := by
  unfold alikeR
  obtain ⟨P', k1, k2, k3⟩ := fold_iso I a (P := []) ha (by simp) (PairsOk.nil h k)
  rw [k1, decide_eq_true (by simp)]
  exact loop_iso I _ _ k2 k3
theorem put_iso {l : List Wd} (hl : ∀ w ∈ l, w ∈ L) {v : Wd} (hv : thereB h v = true → v ∈ L) : putW k (l.map now) (now v) = (putW h l v).map now ∧ ∀ w ∈ putW h l v, w ∈ L := by
  unfold putW
  rw [I.there v hv]
  by_cases ht : thereB h v = true
  · have hvL := hv ht
    have hm : now v ∈ l.map now ↔ v ∈ l := by
      rw [List.mem_map]
      constructor
      · rintro ⟨w, hw, e⟩; rw [← I.inj w (hl w hw) v hvL e]; exact hw
      · exact fun m => ⟨v, m, rfl⟩
    by_cases hvl : v ∈ l
    · rw [if_neg (fun c => c.1 (hm.2 hvl)), if_neg (fun c => c.1 hvl)]; exact ⟨rfl, hl⟩
    · rw [if_pos ⟨fun m => hvl (hm.1 m), ht⟩, if_pos ⟨hvl, ht⟩, List.map_append]
      refine ⟨rfl, fun w hw => ?_⟩
      rcases List.mem_append.1 hw with hw | hw
      · exact hl w hw
      · simp at hw; subst hw; exact hvL
  · rw [if_neg (fun c => ht c.2), if_neg (fun c => ht c.2)]; exact ⟨rfl, hl⟩
theorem puts_iso : ∀ (ws : List Wd) {l : List Wd}, (∀ v ∈ ws, thereB h v = true → v ∈ L) → (∀ w ∈ l, w ∈ L) → (ws.map now).foldl (putW k) (l.map now) = (ws.foldl (putW h) l).map now ∧ ∀ w ∈ ws.foldl (putW h) l, w ∈ L
  | [], l, _, hl => ⟨rfl, hl⟩
  | v :: ws, l, hv, hl => by
    obtain ⟨h1, h2⟩ := put_iso I hl (hv v (List.mem_cons_self ..))
    rw [List.map_cons, List.foldl_cons, List.foldl_cons, h1]
    exact puts_iso ws (fun w hw => hv w (List.mem_cons_of_mem _ hw)) h2
omit I in
theorem map_injOn (hi : ∀ v ∈ L, ∀ w ∈ L, now v = now w → v = w) : ∀ {a b : List Wd}, (∀ v ∈ a, v ∈ L) → (∀ v ∈ b, v ∈ L) → a.map now = b.map now → a = b
  | [], [], _, _, _ => rfl
  | [], _ :: _, _, _, e => by simp at e
  | _ :: _, [], _, _, e => by simp at e
  | x :: a, y :: b, ha, hb, e => by
    simp only [List.map_cons, List.cons.injEq] at e
    rw [hi x (ha x (List.mem_cons_self ..)) y (hb y (List.mem_cons_self ..)) e.1, map_injOn hi (fun v hv => ha v (List.mem_cons_of_mem _ hv)) (fun v hv => hb v (List.mem_cons_of_mem _ hv)) e.2]
end
theorem flatMap_congr' {α β : Type} {f g : α → List β} : ∀ {l : List α}, (∀ x ∈ l, f x = g x) → l.flatMap f = l.flatMap g
  | [], _ => rfl
  | x :: l, h => by rw [List.flatMap_cons, List.flatMap_cons, h x (List.mem_cons_self ..), flatMap_congr' fun y hy => h y (List.mem_cons_of_mem _ hy)]
theorem sum_zero {α : Type} {f : α → Nat} : ∀ {l : List α}, (∀ x ∈ l, f x = 0) → (l.map f).sum = 0
  | [], _ => rfl
  | x :: l, h => by rw [List.map_cons, List.sum_cons, h x (List.mem_cons_self ..), sum_zero fun y hy => h y (List.mem_cons_of_mem _ hy)]
theorem puts_mem {h : PHeap} : ∀ (ws : List Wd) {l : List Wd} {w : Wd}, (w ∈ ws ∨ w ∈ l) → thereB h w = true → w ∈ ws.foldl (putW h) l
  | [], l, w, hw, _ => by rcases hw with hw | hw; cases hw; exact hw
  | v :: ws, l, w, hw, ht => by
    rw [List.foldl_cons]
    refine puts_mem ws ?_ ht
    rcases hw with hw | hw
    · rcases List.mem_cons.1 hw with rfl | hw
      · right
        unfold putW
        split
        · simp
        · rename_i hc
          exact Classical.byContradiction fun hn => hc ⟨hn, ht⟩
      · exact .inl hw
    · right
      unfold putW
      split
      · exact List.mem_append_left _ hw
      · exact hw
theorem reach_roots {h : PHeap} {roots : List Wd} : ∀ v ∈ roots, thereB h v = true → v ∈ reachW h roots := fun v hv ht => by
  rw [reach_fix]; exact puts_mem _ (.inl (List.mem_append_left _ hv)) ht
theorem reach_clos {h : PHeap} {roots : List Wd} : ∀ v ∈ reachW h roots, ∀ w ∈ objW h v, thereB h w = true → w ∈ reachW h roots := fun v hv w hw ht => by
  rw [reach_fix]; exact puts_mem _ (.inl (List.mem_append_right _ (List.mem_flatMap.2 ⟨v, hv, hw⟩))) ht
theorem reach_iso {h k : PHeap} {now : Wd → Wd} {roots : List Wd} (I : Iso h k now (reachW h roots)) : reachW k (roots.map now) = (reachW h roots).map now := by
  have key : ∀ X : List Wd, (∀ v ∈ X, v ∈ reachW h roots) → putAllW k (roots.map now ++ (X.map now).flatMap (objW k)) = (putAllW h (roots ++ X.flatMap (objW h))).map now := by
    intro X hX
    have e : (X.map now).flatMap (objW k) = (X.flatMap (objW h)).map now := by
      rw [List.flatMap_map, List.map_flatMap]
      exact flatMap_congr' fun x hx => I.objw x (hX x hx)
    rw [e, ← List.map_append]
    refine (puts_iso I (roots ++ X.flatMap (objW h)) (l := []) (fun v hv ht => ?_) (by simp)).1
    rcases List.mem_append.1 hv with hv | hv
    · exact reach_roots v hv ht
    · obtain ⟨x, hx, hv⟩ := List.mem_flatMap.1 hv
      exact reach_clos x (hX x hx) v hv ht
  have h1 : reachW k (roots.map now) <+: (reachW h roots).map now := reach_least (by rw [key _ fun v hv => hv, ← reach_fix])
  have h2 := prefix_take h1
  rw [← List.map_take] at h2
  generalize (reachW k (roots.map now)).length = n at h2
  have h3 := reach_fix k (roots.map now)
  have hsub : ∀ v ∈ (reachW h roots).take n, v ∈ reachW h roots := fun v hv => List.mem_of_mem_take hv
  rw [h2, key _ hsub] at h3
  have h4 := map_injOn I.inj hsub (fun v hv => by
    refine (puts_iso I (roots ++ ((reachW h roots).take n).flatMap (objW h)) (l := []) (fun v hv ht => ?_) (by simp)).2 v hv
    rcases List.mem_append.1 hv with hv | hv
    · exact reach_roots v hv ht
    · obtain ⟨x, hx, hv⟩ := List.mem_flatMap.1 hv
      exact reach_clos x (hsub x hx) v hv ht) h3
  have h5 := (reach_least h4).length_le
  rw [h2, List.take_of_length_le]
  rw [List.length_take] at h5
  omega
theorem gb_zero {rs rs' : List Reg} {now : Wd → Wd} {L : List Wd} (M : Moved rs rs' now L) : gbS (L.map now) rs' = 0 := by
  unfold gbS
  have : ∀ g ∈ rs', gbR (L.map now) g = 0 := by
    intro g hg
    unfold gbR
    split
    · rename_i hs
      unfold gbL
      have : ∀ x ∈ g.objs, gbO (L.map now) g.life x = 0 := by
        intro x hx
        obtain ⟨w, hw, e⟩ := M.only g hg hs x hx
        unfold gbO
        rw [if_pos]
        exact List.mem_map.2 ⟨w, hw, e.symm⟩
      exact sum_zero this
    · rfl
  exact sum_zero this
theorem keep_pages {lv : Nat} {u : List Bool} {rs : List Reg} {L : List Wd} (hR : RsOk lv u rs) (ho : ∀ g ∈ rs, g.size = 0 → ∀ x ∈ g.objs, wordO g x ∈ L) : rs.map (pgM L) = rs.map (·.pages.length) := by
  refine List.map_congr_left fun g hg => ?_
  have hri := hR.inv.reg g hg
  unfold pgM
  split
  · rename_i hp
    have hs : g.size = 0 := by
      rcases Nat.eq_zero_or_pos g.size with h | h
      · exact h
      · have := (hri.fin h).1; rw [this] at hp; simp at hp
    have hk : keptM L g = g.objs := List.filter_eq_self.2 fun x hx => by simpa [wordO] using ho g hg hs x hx
    have := (hri.inf hs).fold
    rw [List.map_map] at this
    rw [hk]
    exact congrArg Prod.fst this
  · omega
theorem sees {h h0 k : PHeap} {lv lv' : Nat} {u u' : List Bool} {roots : List Wd} {L : List Wd} (hL : L = reachW h0 roots) (e0 : h.regs.map PReg.m = h0.regs.map PReg.m) (hR : RsOk lv u (h0.regs.map PReg.m)) (e : k.regs.map PReg.m = colRegs L (colAll L u (h0.regs.map PReg.m))) (hR' : RsOk lv' u' (k.regs.map PReg.m)) :
    alikeP h k roots (roots.map (nowW (colAll L u (h0.regs.map PReg.m)).mv (colAll L u (h0.regs.map PReg.m)).fx)) = true ∧
    (reachW k (roots.map (nowW (colAll L u (h0.regs.map PReg.m)).mv (colAll L u (h0.regs.map PReg.m)).fx))).length = L.length ∧
    gbS (reachW k (roots.map (nowW (colAll L u (h0.regs.map PReg.m)).mv (colAll L u (h0.regs.map PReg.m)).fx))) (k.regs.map PReg.m) = 0 ∧
    (k.regs.map PReg.m).map (pgM (reachW k (roots.map (nowW (colAll L u (h0.regs.map PReg.m)).mv (colAll L u (h0.regs.map PReg.m)).fx)))) = (k.regs.map PReg.m).map (·.pages.length) := by
  rw [← e0] at hR e ⊢
  have hL' : L = reachW h roots := by rw [hL, reach_cong e0]
  clear hL
  subst hL'
  have hf := Found.reach h roots
  have M := moved hR (fun w hw => thereB_m (hf.there w hw)) hf.nodup
  rw [← e] at M
  generalize nowW (colAll (reachW h roots) u (h.regs.map PReg.m)).mv (colAll (reachW h roots) u (h.regs.map PReg.m)).fx = now at M ⊢
  have I := Iso.of hR hR' M hf.there reach_clos
  have hr := reach_iso I
  refine ⟨?_, by rw [hr, List.length_map], by rw [hr]; exact gb_zero M, keep_pages hR' fun g hg hs x hx => ?_⟩
  · rw [alike_same]; exact alikeR_iso I reach_roots
  · rw [hr]
    obtain ⟨w, hw, e⟩ := M.only g hg hs x hx
    exact List.mem_map.2 ⟨w, hw, e.symm⟩
end Go.Proofs.Ytoldkemimhebaaa

set_option linter.unusedSimpArgs false
set_option linter.unusedVariables false
namespace Go.Proofs.Ytoldkemimhebaaa
open Go Go.IM
def c13 : IFn := ⟨122, [(6, none)],
  (.seq (.region [oa 6 (.mov (.c (.bool false)))] (kp 122 [0,1,2]))
  (.seq (.seq (.region [oa 20 (.mov (.t 0)), oa 21 (.mov (.t 1)), oa 22 (.mov (.t 2)), oa 23 (.call 40 [(.t 20), (.t 21), (.t 22)])] (kp 122 [0,1,2,23]))
  (.cond (.t 23)
  (.seq (.region [oa 24 (.call 41 []), oa 6 (.mov (.t 24))] (kp 122 [6]))
  (sr 122 [6]))
  (sk 122 [0,1,2])))
  (.seq (.region [oa 26 (.mov (.t 0)), oa 27 (.call 42 [(.t 26)]), oa 25 (.mov (.t 27)), oa 28 (.extract (.t 25) 0), oa 29 (.extract (.t 25) 1), oa 7 (.mov (.t 28)), oa 8 (.mov (.t 29))] (kp 122 [0,1,2,7,8]))
  (.seq (.region [oa 31 (.mov (.t 0)), oa 32 (.call 42 [(.t 31)]), oa 30 (.mov (.t 32)), oa 33 (.extract (.t 30) 0), oa 34 (.extract (.t 30) 1), oa 9 (.mov (.t 33)), oa 10 (.mov (.t 34))] (kp 122 [1,2,7,8,9,10]))
  (.seq (.seq (.region [oa 35 (.mov (.t 8)), oa 36 (.un .not (.t 35)), oa 37 (.mov (.t 36)), oc 38 (.mov (.t 10)) 37 ff, oc 39 (.un .not (.t 38)) 37 ff, oa 40 (.pick (.t 37) (.c (.bool true)) (.t 39))] (kp 122 [1,2,7,9,40]))
  (.cond (.t 40)
  (.seq (.region [oa 6 (.mov (.c (.bool false)))] (kp 122 [6]))
  (sr 122 [6]))
  (sk 122 [1,2,7,9])))
  (.seq (.region [oa 42 (.mov (.t 7)), oa 43 (.nilCheck (.t 42)), oa 44 (.fieldAddr 0 (.t 43)), oa 45 (.load none (.t 44)), oa 46 (.mov (.t 7)), oa 47 (.mov (.t 1)), oa 48 (.mov (.t 2)), oa 49 (.call 43 [(.t 46), (.t 47), (.t 48)]), ob (.again 45 (.load none (.t 44))), oa 50 (.call 46 [(.t 45), (.t 49)]), oa 41 (.mov (.t 50)), oa 51 (.extract (.t 41) 0), oa 52 (.extract (.t 41) 1), oa 11 (.mov (.t 51)), oa 12 (.mov (.t 52))] (kp 122 [1,2,7,9,11,12]))
  (.seq (.region [oa 54 (.mov (.t 9)), oa 55 (.nilCheck (.t 54)), oa 56 (.fieldAddr 0 (.t 55)), oa 57 (.load none (.t 56)), oa 58 (.mov (.t 9)), oa 59 (.mov (.t 1)), oa 60 (.mov (.t 2)), oa 61 (.call 43 [(.t 58), (.t 59), (.t 60)]), ob (.again 57 (.load none (.t 56))), oa 62 (.call 46 [(.t 57), (.t 61)]), oa 53 (.mov (.t 62)), oa 63 (.extract (.t 53) 0), oa 64 (.extract (.t 53) 1), oa 13 (.mov (.t 63)), oa 14 (.mov (.t 64))] (kp 122 [7,9,11,12,13,14]))
  (.seq (.region [oa 65 (.mov (.t 7)), oa 66 (.nilCheck (.t 65)), oa 67 (.fieldAddr 0 (.t 66)), oa 68 (.load none (.t 67)), oa 69 (.call 36 [(.t 68)]), oa 15 (.mov (.t 69))] (kp 122 [7,9,11,12,13,14,15]))
  (.seq (.region [oa 71 (.mov (.t 7)), oa 72 (.nilCheck (.t 71)), oa 73 (.fieldAddr 0 (.t 72)), oa 74 (.load none (.t 73)), oa 75 (.mov (.t 11)), oa 76 (.call 46 [(.t 74), (.t 75)]), oa 70 (.mov (.t 76)), oa 77 (.extract (.t 70) 0), oa 78 (.extract (.t 70) 1), oa 16 (.mov (.t 77)), oa 17 (.mov (.t 78))] (kp 122 [7,9,12,13,14,15,16,17]))
  (.seq (.region [oa 80 (.mov (.t 9)), oa 81 (.nilCheck (.t 80)), oa 82 (.fieldAddr 0 (.t 81)), oa 83 (.load none (.t 82)), oa 84 (.mov (.t 13)), oa 85 (.mov (.t 7)), oa 86 (.nilCheck (.t 85)), oa 87 (.fieldAddr 0 (.t 86)), oa 88 (.load none (.t 87)), oa 89 (.mov (.t 16)), oa 90 (.call 50 [(.t 83), (.t 84), (.t 88), (.t 89)]), oa 79 (.mov (.t 90)), oa 91 (.extract (.t 79) 0), oa 92 (.extract (.t 79) 1), oa 18 (.mov (.t 91)), oa 19 (.mov (.t 92))] (kp 122 [7,12,14,15,17,18,19]))
  (.seq (.region [oa 93 (.mov (.t 12)), oa 94 (.bin .eql (.t 93) (ai 0)), oa 95 (.mov (.t 94)), oc 96 (.mov (.t 14)) 95 tt, oc 97 (.bin .eql (.t 96) (ai 0)) 95 tt, oa 98 (.pick (.t 95) (.t 97) (.c (.bool false))), oa 99 (.mov (.t 98)), oc 100 (.mov (.t 17)) 99 tt, oc 101 (.bin .eql (.t 100) (ai 0)) 99 tt, oa 102 (.pick (.t 99) (.t 101) (.c (.bool false))), oa 103 (.mov (.t 102)), oc 104 (.mov (.t 19)) 103 tt, oc 105 (.bin .eql (.t 104) (ai 0)) 103 tt, oa 106 (.pick (.t 103) (.t 105) (.c (.bool false))), oa 107 (.mov (.t 106)), oc 108 (.mov (.t 18)) 107 tt, oa 109 (.pick (.t 107) (.t 108) (.c (.bool false))), oa 110 (.mov (.t 109)), oc 111 (.mov (.t 7)) 110 tt, oc 112 (.nilCheck (.t 111)) 110 tt, oc 113 (.fieldAddr 0 (.t 112)) 110 tt, oc 114 (.load none (.t 113)) 110 tt, oc 115 (.call 36 [(.t 114)]) 110 tt, oc 116 (.mov (.t 15)) 110 tt, oc 117 (.bin .eql (.t 115) (.t 116)) 110 tt, oa 118 (.pick (.t 110) (.t 117) (.c (.bool false))), oa 119 (.mov (.t 118)), oc 120 (.call 41 []) 119 tt, oa 121 (.pick (.t 119) (.t 120) (.c (.bool false))), oa 6 (.mov (.t 121))] (kp 122 [6]))
  (sr 122 [6]))))))))))))⟩
theorem F13 : shutF Try.prog 13 = some c13 := by kernel_rfl
section
variable {o : Nat → Option O} {s : St} {C F : Ch} {Q : V → St → Prop}
set_option maxRecDepth 10000
set_option maxHeartbeats 8000000
theorem same_pages {L : List Wd} {lv : Nat} {u : List Bool} {gs gs' : List PReg} (h : RsOk lv u (gs.map PReg.m)) (e : gs'.map PReg.m = colRegs L (colAll L u (gs.map PReg.m))) (k : (gs.map PReg.m).map (pgM L) = (gs.map PReg.m).map (·.pages.length)) : inUseM (gs'.map (·.pages)) = inUseM (gs.map (·.pages)) := by
  rw [(told_is h e).1, pg_sum, k]
  unfold inUseM
  simp only [List.map_map]
  rfl
theorem collectAgain_im {v v1 v2 : V} {l : List (ActG × List Bool)} {is : List Int} {os : List (Int × Int)} (hsh : ∀ (π : Nat → Nat) b x, o b = some x → x.ren π = x) (hv : ∀ π : Nat → Nat, v.ren π = v) (hA : ActsAt o v l) (hll : l.length < 2 ^ 61) (hI : OldI o v1 is) (hO : OldW o v2 os) (s : St) (hs : s.old = o) : ∃ st, call PF 13 [v, v1, v2] s = some (.bool true, st) := by
  refine im_trueC ?_
  have e40 := s40 hs hA hll hI.len hO.len
  cases hlg : longR l is.length os.length with
  | true =>
    rw [hlg] at e40
    obtain ⟨t, ht, -⟩ := sane16 s
    rw [call_run F13]; simp -implicitDefEqProofs only [↓GP, GB, GL, Nat.reduceAdd, Nat.reduceSub, Nat.reduceEqDiff, Nat.reduceMul, Nat.reduceLeDiff, Int.reduceBNe, Int.reduceBEq, Nat.reduceLT, reduceCtorEq, c13, e40, ht]
  | false =>
    rw [hlg] at e40
    obtain ⟨hlb, hil, hol⟩ := longR_false hlg
    have hl := longB_lenC hlb
    obtain ⟨p, r, u, id, wk, hr, hp, ws, hR, hok, hlv, hws, mk⟩ := made_any hsh hv hA hl
    rw [call_run F13]; simp -implicitDefEqProofs only [↓GP, GB, GL, Nat.reduceAdd, Nat.reduceSub, Nat.reduceEqDiff, Nat.reduceMul, Nat.reduceLeDiff, Int.reduceBNe, Int.reduceBEq, Nat.reduceLT, reduceCtorEq, c13, e40]
    refine wp_in (mk _ _ _ (H0c hs) fun s1 π h1 => ?_)
    simp -implicitDefEqProofs only [↓GP, GB, GL, Nat.reduceAdd, Nat.reduceSub, Nat.reduceEqDiff, Nat.reduceMul, Nat.reduceLeDiff, Int.reduceBNe, Int.reduceBEq, Nat.reduceLT, reduceCtorEq]
    refine wp_in (mk _ _ _ h1 fun s2 σ h2 => ?_)
    have ma := hp.m_ren π
    have mb := hp.m_ren σ
    have oka := PHeap.ok_ren π hok
    have okb := PHeap.ok_ren σ hok
    have la : (hp.ren π).lives = hp.lives := rfl
    have lb : (hp.ren σ).lives = hp.lives := rfl
    rw [show π hp.id = (hp.ren π).id from rfl, show σ hp.id = (hp.ren σ).id from rfl] at h2
    generalize hp.ren π = a at *
    generalize hp.ren σ = b at *
    rw [← ma, ← la] at hR
    have hmb : b.regs.map PReg.m = a.regs.map PReg.m := by rw [mb, ma]
    have hlab : b.lives = a.lives := by rw [la, lb]
    have hRb : RsOk b.lives u (b.regs.map PReg.m) := by rw [hmb, hlab]; exact hR
    rw [← la] at hlv
    clear mk h1
    generalize π p = pa at *
    generalize π r = ra at *
    generalize π id = ia at *
    generalize π hr = xa at *
    generalize π wk = wa at *
    generalize σ p = pb at *
    generalize σ r = rb at *
    generalize σ id = ib at *
    generalize σ hr = xb at *
    generalize σ wk = wb at *
    obtain ⟨hall, hlen⟩ := hR.all hlv
    have hallb : (allW b).length ≤ 90000 := by rw [allW_cong hmb]; exact hall
    have h3 : Holds o s2 ((ia, some (.cells [ptrN a.id, ptrN xa, rowV wa ws.length] none)) :: (wa, rowO 2 ws.length (ws.flatMap encW)) :: (ib, some (.cells [ptrN b.id, ptrN xb, rowV wb ws.length] none)) :: (wb, rowO 2 ws.length (ws.flatMap encW)) :: (poolC pa ra u ++ (a.ch pa ++ (poolC pb rb u ++ b.ch pb)))) := (Holds.of (h2) (fun k => by simp +arith only [pairW, HA, HB]) (fun k x => by simp only [pairW, HA, HC]; grind only))
    have fA3 := h3.mem (List.mem_cons_self ..)
    simp -implicitDefEqProofs only [↓GP, GB, GL, Nat.reduceAdd, Nat.reduceSub, Nat.reduceEqDiff, Nat.reduceMul, Nat.reduceLeDiff, Int.reduceBNe, Int.reduceBEq, Nat.reduceLT, reduceCtorEq, fA3]
    refine wp_in (s43 hI hil hO hol (by omega) (List.mem_cons_self ..) (List.mem_cons_of_mem _ (List.mem_cons_self ..)) h3 fun s4 kr h4 => ?_)
    have hrl : (pickL ws is ++ os).length ≤ 60 := by
      have : (pickL ws is).length ≤ 40 := by unfold pickL; exact Nat.le_trans (List.length_filterMap_le ..) hil
      simp; omega
    obtain ⟨roots, hroots⟩ : ∃ x, x = pickL ws is ++ os := ⟨_, rfl⟩
    rw [← hroots] at h4 hrl ⊢
    have fA4 := h4.mem (List.mem_cons_of_mem _ (List.mem_cons_self ..))
    simp -implicitDefEqProofs only [↓GP, GB, GL, Nat.reduceAdd, Nat.reduceSub, Nat.reduceEqDiff, Nat.reduceMul, Nat.reduceLeDiff, Int.reduceBNe, Int.reduceBEq, Nat.reduceLT, reduceCtorEq, fA4]
    refine wp_in (s46 (p := pa) (r := ra) (u := u) (hp := a) (F := (kr, rowO 2 roots.length (roots.flatMap encW)) :: (ia, some (.cells [ptrN a.id, ptrN xa, rowV wa ws.length] none)) :: (ib, some (.cells [ptrN b.id, ptrN xb, rowV wb ws.length] none)) :: (wb, rowO 2 ws.length (ws.flatMap encW)) :: (poolC pb rb u ++ b.ch pb))
      (Holds.of (h4) (fun k => by simp +arith only [HA, HB]) (fun k x => by simp only [HA, HC]; grind only)) hR oka (List.mem_cons_self ..) (by omega) hall fun s6 a' kout d1 d2 d3 d4 hR' hok' h6 => ?_)
    have hs1 := sees (h := a) (h0 := a) (k := a') rfl rfl hR d4 hR'
    obtain ⟨hall', hlen'⟩ := hR'.all hlv
    rw [← d1] at h6
    have hnl : (roots.map (nowW (colAll (reachW a roots) u (a.regs.map PReg.m)).mv (colAll (reachW a roots) u (a.regs.map PReg.m)).fx)).length = roots.length := by simp
    have fB6 := h6.mem (List.mem_cons_of_mem _ (List.mem_append_right _ (List.mem_append_right _ (List.mem_cons_of_mem _ (List.mem_cons_of_mem _ (List.mem_cons_self ..))))) : (ib, some (O.cells [ptrN b.id, ptrN xb, rowV wb ws.length] none)) ∈ _)
    simp -implicitDefEqProofs only [↓GP, GB, GL, Nat.reduceAdd, Nat.reduceSub, Nat.reduceEqDiff, Nat.reduceMul, Nat.reduceLeDiff, Int.reduceBNe, Int.reduceBEq, Nat.reduceLT, reduceCtorEq, fB6]
    refine wp_in (s43 hI hil hO hol (by omega) (List.mem_cons_of_mem _ (List.mem_append_right _ (List.mem_append_right _ (List.mem_cons_of_mem _ (List.mem_cons_of_mem _ (List.mem_cons_self ..))))) : (ib, some (O.cells [ptrN b.id, ptrN xb, rowV wb ws.length] none)) ∈ _) (List.mem_cons_of_mem _ (List.mem_append_right _ (List.mem_append_right _ (List.mem_cons_of_mem _ (List.mem_cons_of_mem _ (List.mem_cons_of_mem _ (List.mem_cons_self ..))))))) h6 fun s7 kr2 h7 => ?_)
    rw [← hroots] at h7 ⊢
    have fB7 := h7.mem (List.mem_cons_of_mem _ (List.mem_cons_of_mem _ (List.mem_append_right _ (List.mem_append_right _ (List.mem_cons_of_mem _ (List.mem_cons_of_mem _ (List.mem_cons_self ..)))))) : (ib, some (O.cells [ptrN b.id, ptrN xb, rowV wb ws.length] none)) ∈ _)
    simp -implicitDefEqProofs only [↓GP, GB, GL, Nat.reduceAdd, Nat.reduceSub, Nat.reduceEqDiff, Nat.reduceMul, Nat.reduceLeDiff, Int.reduceBNe, Int.reduceBEq, Nat.reduceLT, reduceCtorEq, fB7]
    refine wp_in (s46 (p := pb) (r := rb) (u := u) (hp := b) (F := (kr2, rowO 2 roots.length (roots.flatMap encW)) :: (kout, rowO 2 roots.length ((roots.map (nowW (colAll (reachW a roots) u (a.regs.map PReg.m)).mv (colAll (reachW a roots) u (a.regs.map PReg.m)).fx)).flatMap encW)) :: (ia, some (.cells [ptrN a'.id, ptrN xa, rowV wa ws.length] none)) :: (ib, some (.cells [ptrN b.id, ptrN xb, rowV wb ws.length] none)) :: (poolC pa ra (colAll (reachW a roots) u (a.regs.map PReg.m)).u ++ a'.ch pa))
      (Holds.of (h7) (fun k => by simp +arith only [HA, HB]) (fun k x => by simp only [HA, HC]; grind only)) hRb okb (List.mem_cons_self ..) (by omega) hallb fun s8 b' kout2 f1 f2 f3 f4 hRb' hokb' h8 => ?_)
    rw [← f1] at h8
    rw [reach_cong hmb, hmb] at f4 hRb' h8
    obtain ⟨L, hL⟩ : ∃ x, x = reachW a roots := ⟨_, rfl⟩
    rw [← hL] at d4 hR' hs1 hnl f4 hRb' h8
    have hab' : b'.regs.map PReg.m = a'.regs.map PReg.m := by rw [f4, d4]
    generalize colAll L u (a.regs.map PReg.m) = S at *
    generalize roots.map (nowW S.mv S.fx) = N at *
    obtain ⟨-, -, -, q4⟩ := hs1
    have eR : rowO 2 roots.length (N.flatMap encW) = rowO 2 N.length (N.flatMap encW) := by rw [hnl]
    have eV : rowV kout roots.length = rowV kout N.length := by rw [hnl]
    have eV2 : rowV kout2 roots.length = rowV kout2 N.length := by rw [hnl]
    rw [eR] at h8
    rw [eV, eV2]
    have h9 : Holds o s8 ((ia, some (.cells [ptrN a'.id, ptrN xa, rowV wa ws.length] none)) :: (ib, some (.cells [ptrN b'.id, ptrN xb, rowV wb ws.length] none)) :: (kout, rowO 2 N.length (N.flatMap encW)) :: (kout2, rowO 2 N.length (N.flatMap encW)) :: (poolC pa ra S.u ++ (a'.ch pa ++ b'.ch pb))) := (Holds.of (h8) (fun k => by simp +arith only [HA, HB]) (fun k x => by simp only [HA, HC]; grind only))
    have fA9 := h9.mem (List.mem_cons_self ..)
    have lkc : ∀ {D : Ch}, (∀ y ∈ a'.ch pa, y ∈ D) → Look D pa a' := fun hD => hR'.look hok' hD
    have lkd : ∀ {D : Ch}, (∀ y ∈ b'.ch pb, y ∈ D) → Look D pb b' := fun hD => hRb'.look hokb' hD
    have hpl : ∀ {x : PHeap} {lv' : Nat} {u' : List Bool}, RsOk lv' u' (x.regs.map PReg.m) → ∀ g ∈ x.regs, g.pages.length ≤ 400 := fun {x lv' u'} hx g hg => by
      have h1 : (g.m.pages).Sublist ((x.regs.map PReg.m).flatMap (·.pages)) := List.sublist_flatten_of_mem (List.mem_map.2 ⟨g.m, List.mem_map.2 ⟨g, hg, rfl⟩, rfl⟩)
      have h2 := hx.pool.sub_len h1
      have h3 := hx.ulen
      have : g.m.pages = g.pages := rfl
      rw [this] at h2; omega
    have lk1 : Look _ pa a' := lkc (D := (ia, some (O.cells [ptrN a'.id, ptrN xa, rowV wa ws.length] none)) :: (ib, some (.cells [ptrN b'.id, ptrN xb, rowV wb ws.length] none)) :: (kout, rowO 2 N.length (N.flatMap encW)) :: (kout2, rowO 2 N.length (N.flatMap encW)) :: (poolC pa ra S.u ++ (a'.ch pa ++ b'.ch pb))) (fun y hy => by simp only [List.mem_cons, List.mem_append]; simp [hy])
    have e36 := s36 h9 lk1.hin lk1.ne lk1.len (hpl hR')
    simp -implicitDefEqProofs only [↓GP, GB, GL, Nat.reduceAdd, Nat.reduceSub, Nat.reduceEqDiff, Nat.reduceMul, Nat.reduceLeDiff, Int.reduceBNe, Int.reduceBEq, Nat.reduceLT, reduceCtorEq, fA9, e36]
    refine wp_in (s46 (p := pa) (r := ra) (u := S.u) (hp := a') (F := (kout, rowO 2 N.length (N.flatMap encW)) :: (kout2, rowO 2 N.length (N.flatMap encW)) :: (ia, some (.cells [ptrN a'.id, ptrN xa, rowV wa ws.length] none)) :: (ib, some (.cells [ptrN b'.id, ptrN xb, rowV wb ws.length] none)) :: b'.ch pb)
      (Holds.of (h9) (fun k => by simp +arith only [HA, HB]) (fun k x => by simp only [HA, HC]; grind only)) (by rw [d2]; exact hR') hok' (List.mem_cons_self ..) (by omega) hall' fun s10 a2 kout3 g1 g2 g3 g4 hR2 hok2 h10 => ?_)
    obtain ⟨r1, -, -, -⟩ := sees (h := b') (h0 := a') (k := a2) rfl hab' hR' g4 hR2
    have hpg := same_pages hR' g4 q4
    rw [← g1] at h10
    have hallb' : (allW b').length ≤ 90000 := by rw [allW_cong hab']; exact hall'
    obtain ⟨L2, hL2⟩ : ∃ x, x = reachW a' N := ⟨_, rfl⟩
    rw [← hL2] at r1 h10
    have hnl2 : (N.map (nowW (colAll L2 S.u (a'.regs.map PReg.m)).mv (colAll L2 S.u (a'.regs.map PReg.m)).fx)).length = N.length := by simp
    generalize N.map (nowW (colAll L2 S.u (a'.regs.map PReg.m)).mv (colAll L2 S.u (a'.regs.map PReg.m)).fx) = N2 at *
    have eR2 : rowO 2 N.length (N2.flatMap encW) = rowO 2 N2.length (N2.flatMap encW) := by rw [hnl2]
    have eV3 : rowV kout3 N.length = rowV kout3 N2.length := by rw [hnl2]
    rw [eR2] at h10
    rw [eV3]
    have h11 : Holds o s10 ((ia, some (.cells [ptrN a2.id, ptrN xa, rowV wa ws.length] none)) :: (ib, some (.cells [ptrN b'.id, ptrN xb, rowV wb ws.length] none)) :: (kout2, rowO 2 N.length (N.flatMap encW)) :: (kout3, rowO 2 N2.length (N2.flatMap encW)) :: (a2.ch pa ++ b'.ch pb)) := (Holds.of (h10) (fun k => by simp +arith only [HA, HB]) (fun k x => by simp only [HA, HC]; grind only))
    have fA11 := h11.mem (List.mem_cons_self ..)
    have fB11 := h11.mem (List.mem_cons_of_mem _ (List.mem_cons_self ..))
    have lke : ∀ {D : Ch}, (∀ y ∈ a2.ch pa, y ∈ D) → Look D pa a2 := fun hD => hR2.look hok2 hD
    simp -implicitDefEqProofs only [↓GP, GB, GL, Nat.reduceAdd, Nat.reduceSub, Nat.reduceEqDiff, Nat.reduceMul, Nat.reduceLeDiff, Int.reduceBNe, Int.reduceBEq, Nat.reduceLT, reduceCtorEq, fA11, fB11]
    refine wp_in (s50 h11 (lkd fun y hy => by simp only [List.mem_cons, List.mem_append]; simp [hy]) (lke fun y hy => by simp only [List.mem_cons, List.mem_append]; simp [hy]) hallb' (List.mem_cons_of_mem _ (List.mem_cons_of_mem _ (List.mem_cons_self ..))) (List.mem_cons_of_mem _ (List.mem_cons_of_mem _ (List.mem_cons_of_mem _ (List.mem_cons_self ..)))) (by omega) fun s12 h12 => ?_)
    rw [r1]
    have fA12 := h12.mem (List.mem_cons_self ..)
    have lk2 : Look _ pa a2 := lke (D := (ia, some (O.cells [ptrN a2.id, ptrN xa, rowV wa ws.length] none)) :: (ib, some (.cells [ptrN b'.id, ptrN xb, rowV wb ws.length] none)) :: (kout2, rowO 2 N.length (N.flatMap encW)) :: (kout3, rowO 2 N2.length (N2.flatMap encW)) :: (a2.ch pa ++ b'.ch pb)) (fun y hy => by simp only [List.mem_cons, List.mem_append]; simp [hy])
    have e36b := s36 h12 lk2.hin lk2.ne lk2.len (hpl hR2)
    rw [hpg] at e36b
    obtain ⟨t', ht', -⟩ := sane16 s12
    have hq : ((inUseM (a'.regs.map (·.pages)) : Int) == (inUseM (a'.regs.map (·.pages)) : Int)) = true := by simp
    simp -implicitDefEqProofs only [↓GP, GB, GL, Nat.reduceAdd, Nat.reduceSub, Nat.reduceEqDiff, Nat.reduceMul, Nat.reduceLeDiff, Int.reduceBNe, Int.reduceBEq, Nat.reduceLT, reduceCtorEq, fA12, e36b, ht', hq, Int.reduceBEq, Int.natCast_zero]
end
end Go.Proofs.Ytoldkemimhebaaa

set_option linter.unusedSimpArgs false
set_option linter.unusedVariables false
namespace Go.IM
open Go.ChangeShapes Go.WideShapes Go.RowKit
inductive D where
  | lit (v : V)
  | agg (ds : List D)
  | sl (sz : Nat) (es : List D)
  deriving Inhabited
mutual
inductive Rep (o : Nat → Option O) : D → List V → Prop
  | lit (v : V) : Rep o (.lit v) [v]
  | agg {ds : List D} {cs : List V} : Reps o ds cs → Rep o (.agg ds) cs
  | nil {sz : Nat} {a : Option Ad} {c : Option Nat} : Rep o (.sl sz []) [.slice a 0 c]
  | sl {sz b off cap : Nat} {d : D} {es : List D} {C : List V} : o b = some (.cells C none) → RepE o C sz off (d :: es) → Rep o (.sl sz (d :: es)) [.slice (some ⟨.old b, off⟩) (d :: es).length (some cap)]
inductive Reps (o : Nat → Option O) : List D → List V → Prop
  | nil : Reps o [] []
  | cons {d : D} {ds : List D} {c cs : List V} : Rep o d c → Reps o ds cs → Reps o (d :: ds) (c ++ cs)
inductive RepE (o : Nat → Option O) : List V → Nat → Nat → List D → Prop
  | nil {C : List V} {sz off : Nat} : RepE o C sz off []
  | cons {C : List V} {sz off : Nat} {d : D} {ds : List D} {c : List V} : cut C off sz = some c → Rep o d c → RepE o C sz (off + sz) ds → RepE o C sz off (d :: ds)
end

mutual
inductive HasTy (P : Program) : TypeId → D → Prop
  | bool {t : TypeId} {b : Bool} : P.underlying t = some .bool → HasTy P t (.lit (.bool b))
  | int {t : TypeId} {k : IntKind} {n : Int} : P.underlying t = some (.int k) → (Lit.int k n).wf = true → HasTy P t (.lit (.int k n))
  | str {t : TypeId} {s : ByteArray} : P.underlying t = some .string → s.size ≤ maxLen → HasTy P t (.lit (.str s))
  | sl {t e : TypeId} {es : List D} : P.underlying t = some (.slice e) → es.length ≤ maxLen → (∀ d ∈ es, HasTy P e d) → HasTy P t (.sl (P.cellsOf e) es)
  | agg {t : TypeId} {fs : Array Field} {ds : List D} : P.underlying t = some (.struct fs) → HasTys P fs.toList ds → HasTy P t (.agg ds)
inductive HasTys (P : Program) : List Field → List D → Prop
  | nil : HasTys P [] []
  | cons {f : Field} {fs : List Field} {d : D} {ds : List D} : HasTy P f.type d → HasTys P fs ds → HasTys P (f :: fs) (d :: ds)
end

def tileB (P : Program) (total : Nat) : Nat → List Field → Bool
  | off, [] => off == total
  | off, f :: fs => f.offset == off && tileB P total (off + P.cellsOf f.type) fs
def tyOk (P : Program) (Ts : List TypeId) : Bool := Ts.all fun t => match P.underlying t with
  | some .bool | some (.int _) | some .string => true
  | some (.slice e) => Ts.contains e && decide (0 < P.cellsOf e)
  | some (.struct fs) => fs.toList.all (fun f => Ts.contains f.type) && tileB P (P.cellsOf t) 0 fs.toList
  | _ => false
theorem ofVals_map : ∀ l : List Value, ofVals l = l.map ofVal
  | [] => rfl
  | v :: l => by rw [ofVals, ofVals_map l]; rfl
theorem ofVals_append (l m : List Value) : ofVals (l ++ m) = ofVals l ++ ofVals m := by rw [ofVals_map, ofVals_map, ofVals_map, List.map_append]
section
variable {H : Type} {enc : TypeId × Value → H} {W : Go.World} {P : Program}
theorem rd {base n : Nat} {a : Addr} {cs : List Value} (hn : 0 < n) (h : W.cells? base a n = some cs) : a.spot = none ∧ ∃ C, (oldSt W).old a.block = some (.cells C none) ∧ cut C a.off n = some (ofVals cs) := by
  obtain ⟨_, hlen, hc⟩ := Go.World.cells?_some h
  have h0 := hc 0 hn
  rw [show a.add 0 = a from rfl, List.getElem?_eq_getElem (by omega)] at h0
  unfold Go.World.cell? at h0
  split at h0
  · rename_i c el fr hb
    split at h0
    · cases h0
    · rename_i hs
      refine ⟨by simpa using hs, ofVals c.toList, by simp [oldSt, hb], ?_⟩
      have hget : ∀ i, i < n → c[a.off + i]? = cs[i]? := by
        intro i hi
        have := hc i hi
        rw [← this]
        unfold Go.World.cell? Addr.add
        by_cases h0 : i = 0
        · subst h0; simp [hb, hs]
        · simp [h0, hb]
      have hsz : a.off + n ≤ c.size := by
        have := hget (n - 1) (by omega)
        rw [List.getElem?_eq_getElem (by omega)] at this
        have := (Array.getElem?_eq_some_iff.1 this).1
        omega
      rw [ofVals_map, ofVals_map]
      unfold cut
      rw [if_pos (by simp; exact hsz)]
      congr 1
      apply List.ext_getElem?
      intro i
      by_cases hi : i < n
      · rw [List.getElem?_take, if_pos hi, List.getElem?_drop, List.getElem?_map, List.getElem?_map, Array.getElem?_toList, hget i hi]
      · rw [List.getElem?_eq_none (by simp; omega), List.getElem?_eq_none (by simp; omega)]
  · cases h0
theorem ofVal_slice {a : Addr} {len cap : Nat} (hl : len ≤ cap) (hsp : 0 < cap → a.spot = none) : ofVal (.slice (some a) len cap) = .slice (some ⟨.old a.block, a.off⟩) len (some cap) := by
  obtain ⟨b, off, sp⟩ := a
  cases sp with
  | none => simp [ofVal, hl]
  | some x =>
    have hc : cap = 0 := by
      rcases Nat.eq_zero_or_pos cap with h | h
      · exact h
      · have := hsp h; simp at this
    subst hc
    have : len = 0 := by omega
    subst this
    rfl
theorem add_block (a : Addr) (i : Nat) : (a.add i).block = a.block := by unfold Addr.add; split <;> rfl
theorem add_off (a : Addr) (i : Nat) : (a.add i).off = a.off + i := by unfold Addr.add; split <;> simp_all
theorem rep_of {Ts : List TypeId} (hT : tyOk P Ts = true) : ∀ (fuel : Nat) (t : TypeId) (cs : List Value) (x : DataW H × List MemPlace), t ∈ Ts → DataW.trod enc P W 0 (fun _ => true) true fuel t cs = some x →
    ∃ d, HasTy P t d ∧ Rep (oldSt W).old d (ofVals cs) := by
  intro fuel
  induction fuel using Nat.strongRecOn with
  | _ fuel ih =>
    intro t cs x ht h
    have hk := List.all_eq_true.1 hT t ht
    split at hk
    · rename_i hu
      obtain ⟨b, rfl, _⟩ := DataW.trod_bool hu h
      exact ⟨_, .bool hu, .lit _⟩
    · rename_i k hu
      obtain ⟨n, rfl, _, hw⟩ := DataW.trod_int hu h
      exact ⟨_, .int hu hw, .lit _⟩
    · rename_i hu
      obtain ⟨s, rfl, _, hs⟩ := DataW.trod_string hu h
      exact ⟨_, .str hu hs, .lit _⟩
    · rename_i e hu
      rw [Bool.and_eq_true, List.contains_eq_mem, decide_eq_true_eq, decide_eq_true_eq] at hk
      obtain ⟨he, h0⟩ := hk
      rcases DataW.trod_slice hu h with ⟨rfl, _⟩ | ⟨a, len, cap, elems, rest, n, rfl, rfl, _, hb, hl, hm, hlen, hel, hsp, _⟩
      · exact ⟨.sl _ [], .sl hu (by simp [maxLen]) (fun d hd => by cases hd), .nil⟩
      · have hspot : 0 < cap → a.spot = none := fun hc => by
          have hx : ∃ y, (W.cells? 0 a (P.cellsOf e)).bind (DataW.trod enc P W 0 (fun _ => true) true n e) = some y := by
            rcases Nat.eq_zero_or_pos len with h1 | h1
            · obtain ⟨q1, q2⟩ := hsp rfl
              have := q2 0 (by omega)
              rw [h1, show ((0 + 0) * P.cellsOf e) = 0 by simp, show a.add 0 = a from rfl, List.getElem?_eq_getElem (by omega)] at this
              exact ⟨_, this⟩
            · have := hel 0 h1
              rw [show (0 * P.cellsOf e) = 0 by simp, show a.add 0 = a from rfl, List.getElem?_eq_getElem (by omega)] at this
              exact ⟨_, this⟩
          obtain ⟨y, hy⟩ := hx
          rw [Option.bind_eq_some_iff] at hy
          obtain ⟨c, hc, _⟩ := hy
          exact (rd h0 hc).1
        have each : ∀ i, i < len → ∃ d c, HasTy P e d ∧ Rep (oldSt W).old d c ∧ ∃ C, (oldSt W).old a.block = some (.cells C none) ∧ cut C (a.off + i * P.cellsOf e) (P.cellsOf e) = some c := by
          intro i hi
          have := hel i hi
          rw [List.getElem?_eq_getElem (by omega), Option.bind_eq_some_iff] at this
          obtain ⟨c, h1, h2⟩ := this
          obtain ⟨d, k1, k2⟩ := ih n (by omega) e c _ he h2
          obtain ⟨_, C, k3, k4⟩ := rd h0 h1
          rw [add_block] at k3
          rw [add_off] at k4
          exact ⟨d, _, k1, k2, C, k3, k4⟩
        have all : ∀ m i, i + m = len → ∀ C, (oldSt W).old a.block = some (.cells C none) → ∃ es, es.length = m ∧ (∀ d ∈ es, HasTy P e d) ∧ RepE (oldSt W).old C (P.cellsOf e) (a.off + i * P.cellsOf e) es := by
          intro m
          induction m with
          | zero => exact fun i _ C _ => ⟨[], rfl, (fun d hd => by cases hd), .nil⟩
          | succ m ihm =>
            intro i hi C hC
            obtain ⟨d, c, k1, k2, C', k3, k4⟩ := each i (by omega)
            rw [hC] at k3; cases k3
            obtain ⟨es, q1, q2, q3⟩ := ihm (i + 1) (by omega) C hC
            refine ⟨d :: es, by simp [q1], fun d' hd' => ?_, .cons k4 k2 ?_⟩
            · rcases List.mem_cons.1 hd' with rfl | hd'
              · exact k1
              · exact q2 _ hd'
            · rw [Nat.add_mul, Nat.one_mul, ← Nat.add_assoc] at q3; exact q3
        rw [show ofVals [Value.slice (some a) len cap] = [ofVal (.slice (some a) len cap)] from rfl, ofVal_slice hl hspot]
        rcases Nat.eq_zero_or_pos len with h1 | h1
        · subst h1
          exact ⟨.sl _ [], .sl hu (by simp [maxLen]) (fun d hd => by cases hd), .nil⟩
        · obtain ⟨_, _, _, _, C, hC, _⟩ := each 0 h1
          obtain ⟨es, q1, q2, q3⟩ := all len 0 (by omega) C hC
          rw [Nat.zero_mul, Nat.add_zero] at q3
          match es, q1 with
          | [], q1 => simp at q1; omega
          | d :: es, q1 =>
            refine ⟨.sl _ (d :: es), .sl hu (by omega) q2, ?_⟩
            rw [← q1]
            exact .sl hC q3
    · rename_i fs hu
      rw [Bool.and_eq_true] at hk
      obtain ⟨hm, htile⟩ := hk
      obtain ⟨xs, n, rfl, _, hlen, hxl, hf⟩ := DataW.trod_struct hu h
      have each : ∀ f ∈ fs.toList, ∃ d, HasTy P f.type d ∧ Rep (oldSt W).old d (ofVals ((cs.drop f.offset).take (P.cellsOf f.type))) := by
        intro f hfm
        obtain ⟨i, hi, rfl⟩ := List.mem_iff_getElem.1 hfm
        have hi' : i < fs.size := by simpa using hi
        have := hf i fs[i] (by simp [hi'])
        rw [List.getElem?_eq_getElem (by omega)] at this
        have hmem := List.all_eq_true.1 hm _ (List.getElem_mem hi)
        rw [List.contains_eq_mem, decide_eq_true_eq] at hmem
        simp only [Array.getElem_toList] at hmem ⊢
        exact ih n (by omega) _ _ _ hmem this
      have go : ∀ (l : List Field) (off : Nat), (∀ f ∈ l, f ∈ fs.toList) → tileB P (P.cellsOf t) off l = true → off ≤ cs.length → ∃ ds, HasTys P l ds ∧ Reps (oldSt W).old ds (ofVals (cs.drop off)) := by
        intro l
        induction l with
        | nil =>
          intro off _ h1 _
          have : off = P.cellsOf t := by simpa [tileB] using h1
          exact ⟨[], .nil, by rw [List.drop_eq_nil_of_le (by omega)]; exact .nil⟩
        | cons f l ihl =>
          intro off h0 h1 h2
          simp only [tileB, Bool.and_eq_true, beq_iff_eq] at h1
          obtain ⟨d, k1, k2⟩ := each f (h0 f (List.mem_cons_self ..))
          have le : ∀ (l : List Field) (off : Nat), tileB P (P.cellsOf t) off l = true → off ≤ P.cellsOf t := by
            intro l
            induction l with
            | nil => intro off h; have : off = P.cellsOf t := by simpa [tileB] using h
                     omega
            | cons f l ihl => intro off h; simp only [tileB, Bool.and_eq_true, beq_iff_eq] at h; have := ihl _ h.2; omega
          obtain ⟨ds, q1, q2⟩ := ihl (off + P.cellsOf f.type) (fun g hg => h0 g (List.mem_cons_of_mem _ hg)) h1.2 (by rw [hlen]; exact le _ _ h1.2)
          refine ⟨d :: ds, .cons k1 q1, ?_⟩
          rw [h1.1] at k2
          have e : cs.drop off = (cs.drop off).take (P.cellsOf f.type) ++ cs.drop (off + P.cellsOf f.type) := by
            rw [← List.drop_drop, List.take_append_drop]
          rw [e, ofVals_append]
          exact .cons k2 q2
      obtain ⟨ds, q1, q2⟩ := go fs.toList 0 (fun _ h => h) htile (by omega)
      exact ⟨.agg ds, .agg hu q1, .agg (by rw [List.drop_zero] at q2; exact q2)⟩
    · cases hk
end
def litEq : V → V → Bool
  | .bool a, .bool b => a == b
  | .int _ a, .int _ b => a == b
  | .str a, .str b => a.toList == b.toList
  | _, _ => false
mutual
def beqD : D → D → Bool
  | .lit a, .lit b => litEq a b
  | .agg a, .agg b => beqDs a b
  | .sl _ a, .sl _ b => beqDs a b
  | _, _ => false
def beqDs : List D → List D → Bool
  | [], [] => true
  | x :: xs, y :: ys => beqD x y && beqDs xs ys
  | _, _ => false
end

section
variable {o : Nat → Option O} {P : Program}
def Tys (P : Program) : List TypeId → List D → Prop
  | [], [] => True
  | t :: ts, d :: ds => HasTy P t d ∧ Tys P ts ds
  | _, _ => False
theorem HasTys.tys : ∀ {fs : List Field} {ds : List D}, HasTys P fs ds → Tys P (fs.map (·.type)) ds
  | [], _, .nil => trivial
  | _ :: _, _, .cons h hs => ⟨h, hs.tys⟩
def structT (P : Program) (t : TypeId) : Option (List TypeId) := match P.underlying t with
  | some (.struct fs) => some (fs.toList.map (·.type))
  | _ => none
theorem HasTy.struct {t : TypeId} {d : D} {L : List TypeId} (h : HasTy P t d) (hL : structT P t = some L) : ∃ ds, d = .agg ds ∧ Tys P L ds := by
  unfold structT at hL
  cases h with
  | agg hu hf => rw [hu] at hL; cases hL; exact ⟨_, rfl, hf.tys⟩
  | bool hu => rw [hu] at hL; cases hL
  | int hu _ => rw [hu] at hL; cases hL
  | str hu _ => rw [hu] at hL; cases hL
  | sl hu _ _ => rw [hu] at hL; cases hL
theorem HasTy.slice {t e : TypeId} {d : D} (h : HasTy P t d) (ht : P.underlying t = some (.slice e)) : ∃ es, d = .sl (P.cellsOf e) es ∧ es.length ≤ maxLen ∧ ∀ d ∈ es, HasTy P e d := by
  cases h with
  | sl hu hl he => rw [ht] at hu; cases hu; exact ⟨_, rfl, hl, he⟩
  | bool hu => rw [ht] at hu; cases hu
  | int hu _ => rw [ht] at hu; cases hu
  | str hu _ => rw [ht] at hu; cases hu
  | agg hu _ => rw [ht] at hu; cases hu
theorem HasTy.intv {t : TypeId} {k : IntKind} {d : D} (h : HasTy P t d) (ht : P.underlying t = some (.int k)) : ∃ n, d = .lit (.int k n) ∧ (Lit.int k n).wf = true := by
  cases h with
  | int hu hw => rw [ht] at hu; cases hu; exact ⟨_, rfl, hw⟩
  | bool hu => rw [ht] at hu; cases hu
  | str hu _ => rw [ht] at hu; cases hu
  | sl hu _ _ => rw [ht] at hu; cases hu
  | agg hu _ => rw [ht] at hu; cases hu
structure SlD (o : Nat → Option O) (sz : Nat) (es : List D) (v : V) : Prop where
  len : lenV v = some (.int .i64 es.length)
  get : ∀ (i : Nat) (h : i < es.length), ∃ b off C c, ixV sz v (.int .i64 (i : Int)) = some (.ptr (some ⟨.old b, off⟩)) ∧ Rep o es[i] c ∧ o b = some (.cells C none) ∧ cut C off sz = some c
  one : v.one = true
  cells : v.cells = [v]
  again : ∀ s : St, againV v v s = some (.any, s)
theorem RepE.get {C : List V} {sz : Nat} : ∀ {off : Nat} {es : List D}, RepE o C sz off es → ∀ (i : Nat) (h : i < es.length), ∃ c, cut C (off + i * sz) sz = some c ∧ Rep o es[i] c
  | _, _, .nil, i, h => by simp at h
  | _, _, .cons hc hr _, 0, h => ⟨_, by simpa using hc, hr⟩
  | off, _, .cons (ds := ds) _ _ hs, i + 1, h => by
    obtain ⟨c, h1, h2⟩ := hs.get i (by simpa using h)
    refine ⟨c, ?_, h2⟩
    rw [show off + (i + 1) * sz = off + sz + i * sz by rw [Nat.add_mul]; omega]
    exact h1
theorem Rep.slv {sz : Nat} {es : List D} {cs : List V} (h : Rep o (.sl sz es) cs) : ∃ v, cs = [v] ∧ SlD o sz es v := by
  cases h with
  | nil => exact ⟨_, rfl, rfl, fun i h => by simp at h, rfl, rfl, fun s => againV_slice _ _ _ s⟩
  | sl hC hE =>
    refine ⟨_, rfl, rfl, fun i hi => ?_, rfl, rfl, fun s => againV_slice _ _ _ s⟩
    obtain ⟨c, h1, h2⟩ := hE.get i hi
    refine ⟨_, _, _, c, ?_, h2, hC, h1⟩
    rw [ixV_int (by omega) (by omega)]
    simp
theorem Rep.litv {v : V} {cs : List V} (h : Rep o (.lit v) cs) : cs = [v] := by cases h; rfl
theorem Rep.aggv {ds : List D} {cs : List V} (h : Rep o (.agg ds) cs) : Reps o ds cs := by cases h; assumption
theorem Reps.consv {d : D} {ds : List D} {cs : List V} (h : Reps o (d :: ds) cs) : ∃ c c', cs = c ++ c' ∧ Rep o d c ∧ Reps o ds c' := by cases h; exact ⟨_, _, rfl, ‹_›, ‹_›⟩
theorem Reps.nilv {cs : List V} (h : Reps o [] cs) : cs = [] := by cases h; rfl
theorem ld_old {s : St} {b off sz : Nat} {C c : List V} (hs : s.old = o) (hC : o b = some (.cells C none)) (hc : cut C off sz = some c) (h0 : 0 < sz) :
    (loadV (some sz) (.ptr (some ⟨.old b, off⟩)) s = some (.agg c)) ∧ (loadV none (.ptr (some ⟨.old b, off⟩)) s = c[0]?) ∧ (∀ f, f < sz → loadV none (.ptr (some ⟨.old b, off + f⟩)) s = c[f]?) ∧
    (∀ f n, f + n ≤ sz → loadV (some n) (.ptr (some ⟨.old b, off + f⟩)) s = some (.agg ((c.drop f).take n))) := by
  have hrow : s.row (.old b) = some (C, none) := by simp only [St.row, St.get, hs, hC]
  have hcut : off + sz ≤ C.length ∧ c = (C.drop off).take sz := by
    unfold cut at hc; split at hc
    · cases hc; exact ⟨by assumption, rfl⟩
    · cases hc
  obtain ⟨h1, rfl⟩ := hcut
  have l1 : ∀ f, f < sz → loadV none (.ptr (some ⟨.old b, off + f⟩)) s = ((C.drop off).take sz)[f]? := by
    intro f hf
    rw [loadV_ptr]
    simp only [readCells, hrow, Option.getD_none]
    rw [cut_one', List.getElem?_take, if_pos hf, List.getElem?_drop]
  refine ⟨?_, by have := l1 0 h0; rwa [Nat.add_zero] at this, l1, fun f n hf => ?_⟩
  · rw [loadV_ptr]
    simp only [readCells, hrow, Option.getD_some, cut, if_pos h1]
    rfl
  · rw [loadV_ptr]
    simp only [readCells, hrow, Option.getD_some, cut]
    rw [if_pos (by omega)]
    show some (V.agg _) = _
    rw [List.drop_take, List.take_take, List.drop_drop, Nat.min_eq_left (by omega)]
end
end Go.IM

set_option linter.unusedSimpArgs false
set_option linter.unusedVariables false
namespace Go.Proofs.Ytoldkemimhebaaa
open Go Go.IM Go.ChangeShapes Go.WideShapes Go.RowKit
section
variable {H : Type} {enc : TypeId × Value → H} {W : Go.World} {o : Nat → Option O}
theorem oldI_of {d : D} {cs : List V} (hx : HasTy Try.prog 54 d) (hr : Rep o d cs) : ∃ v l, cs = [v] ∧ OldI o v l := by
  obtain ⟨es, rfl, hl, hes⟩ := hx.slice (e := 3) (by kernel_rfl)
  have c3 : Try.prog.cellsOf 3 = 1 := by kernel_rfl
  rw [c3] at hr
  obtain ⟨v, rfl, hs⟩ := hr.slv
  let val : D → Int := fun d => match d with | .lit (.int _ n) => n | _ => 0
  refine ⟨v, es.map val, rfl, by rw [List.length_map]; exact hs.len, fun i hi => ?_⟩
  have hi' : i < es.length := by simpa using hi
  obtain ⟨b, off, C, c, h1, h2, h3, h4⟩ := hs.get i hi'
  refine ⟨⟨.old b, off⟩, h1, fun s he => ?_⟩
  obtain ⟨n, en, _⟩ := (hes _ (List.getElem_mem hi')).intv (k := .i64) (by kernel_rfl)
  rw [List.getElem_map]
  rw [en] at h2 ⊢
  have := h2.litv
  subst this
  rw [(ld_old he h3 h4 (by omega)).2.1]
  rfl
theorem RepE.flat {C : List V} : ∀ {off : Nat} {es : List D}, RepE o C 2 off es → (∀ d ∈ es, ∃ a b : Int, d = .agg [.lit (.int .i64 a), .lit (.int .i64 b)]) →
    ∃ l : List (Int × Int), l.length = es.length ∧ (C.drop off).take (es.length * 2) = l.flatMap encW ∧ (es ≠ [] → off + es.length * 2 ≤ C.length)
  | _, _, .nil, _ => ⟨[], rfl, by simp, fun h => absurd rfl h⟩
  | off, _, .cons (d := d) (ds := ds) (c := c) hc hr hs, hd => by
    obtain ⟨l, h1, h2, h3⟩ := RepE.flat hs fun x hx => hd x (List.mem_cons_of_mem _ hx)
    obtain ⟨a, b, rfl⟩ := hd d (List.mem_cons_self ..)
    have hc2 : c = [V.int .i64 a, V.int .i64 b] := by
      have h4 := hr.aggv
      obtain ⟨c1, c2, rfl, k1, k2⟩ := h4.consv
      obtain ⟨c3, c4, rfl, k3, k4⟩ := k2.consv
      rw [k1.litv, k3.litv, k4.nilv]; rfl
    unfold cut at hc
    split at hc
    · rename_i hle
      simp only [Option.some.injEq] at hc
      have hlen : ds = [] → off + 2 ≤ C.length := fun _ => hle
      refine ⟨(a, b) :: l, by simp [h1], ?_, fun _ => ?_⟩
      · rw [List.length_cons, show (ds.length + 1) * 2 = 2 + ds.length * 2 by omega, List.take_add, hc, hc2, List.drop_drop, h2, List.flatMap_cons]
        rfl
      · cases ds with
        | nil => simpa using hle
        | cons x xs => have := h3 (by simp); simp at this ⊢; omega
    · cases hc
theorem oldW_of {fuel : Nat} {v : Value} {x : DataW H × List MemPlace} (h : DataW.trod enc Try.prog W 0 (fun _ => true) true fuel 41 [v] = some x) : ∃ l, OldW (oldSt W).old (ofVal v) l := by
  obtain ⟨d, hd, hr⟩ := rep_of (P := Try.prog) (Ts := [41, 47, 3]) (by kernel_rfl) fuel 41 [v] x (by simp) h
  obtain ⟨es, rfl, hl, hes⟩ := hd.slice (e := 47) (by kernel_rfl)
  have c47 : Try.prog.cellsOf 47 = 2 := by kernel_rfl
  rw [c47] at hr
  have hes' : ∀ d ∈ es, ∃ a b : Int, d = .agg [.lit (.int .i64 a), .lit (.int .i64 b)] := fun d hd => by
    obtain ⟨ds, rfl, ht⟩ := (hes d hd).struct (L := [3, 3]) (by kernel_rfl)
    obtain ⟨d1, ds1, rfl, t1, t2⟩ : ∃ d1 ds1, ds = d1 :: ds1 ∧ HasTy Try.prog 3 d1 ∧ Tys Try.prog [3] ds1 := by
      cases ds with
      | nil => exact ht.elim
      | cons a b => exact ⟨a, b, rfl, ht.1, ht.2⟩
    obtain ⟨d2, ds2, rfl, t3, t4⟩ : ∃ d1 ds2, ds1 = d1 :: ds2 ∧ HasTy Try.prog 3 d1 ∧ Tys Try.prog [] ds2 := by
      cases ds1 with
      | nil => exact t2.elim
      | cons a b => exact ⟨a, b, rfl, t2.1, t2.2⟩
    have e4 : ds2 = [] := by cases ds2 with | nil => rfl | cons _ _ => exact t4.elim
    obtain ⟨a, rfl, _⟩ := t1.intv (k := .i64) (by kernel_rfl)
    obtain ⟨b, rfl, _⟩ := t3.intv (k := .i64) (by kernel_rfl)
    exact ⟨a, b, by rw [e4]⟩
  rcases Go.Deep.open_slice (P := Try.prog) (t := 41) (e := 47) (by kernel_rfl) h with ⟨e, _⟩ | ⟨a, len, cap, m, n, DD, Pl, e, hb, hln, hm, hmm, hxe, hx⟩
  · cases e
    exact ⟨[], oldW_nil⟩
  · cases e
    rw [c47] at hx
    have hm' : m = cap := by simpa using hmm
    have hsp : 0 < cap → a.spot = none := fun hc => by
      obtain ⟨cs, h1, _⟩ := hx 0 (by omega)
      exact (rd (by omega) h1).1
    have hv := ofVal_slice hln hsp
    rw [show ofVals [Value.slice (some a) len cap] = [ofVal (.slice (some a) len cap)] from rfl, hv] at hr
    rw [hv]
    cases hr with
    | nil => exact ⟨[], rfl, fun s hs => by simp [newCells]⟩
    | sl hC hE =>
      rename_i C
      obtain ⟨l, h1, h2, h3⟩ := RepE.flat hE hes'
      refine ⟨l, by rw [h1]; rfl, fun s hs => ?_⟩
      have hrow : s.row (.old a.block) = some (C, none) := by simp only [St.row, St.get, hs]; rw [hC]
      rw [newCells, if_neg (by simp), readCells]
      simp only [hrow]
      rw [cut, if_pos (by have := h3 (by simp); simpa using this), Option.map_some, h2, h1]
end
end Go.Proofs.Ytoldkemimhebaaa

set_option linter.unusedSimpArgs false
set_option linter.unusedVariables false
namespace Go.Proofs.Ytoldkemimhebaaa
open Go Go.IM Go.ChangeShapes Go.WideShapes Go.ChangeAt Go.RowKit
set_option maxRecDepth 100000 in
theorem collectAgain_lifted (os : Os) (started : os.Started) (H : Type) (enc : TypeId × Value → H) :
    ReturnsInHanded Rows.collectAgainRow.assume Try.checked os 13 .any (Rows.collectAgainSpec.pre6 enc Try.prog Try.f13 Rows.collectAgainRow.domain false) (Rows.collectAgainSpec.post enc Try.prog Try.f13 false true false false) := by
  refine lifted_true (C := Try.checked) Try.own' started (by kernel_rfl) Try.func13 Try.laidOut' Try.mixed' (by kernel_rfl) rfl (by kernel_rfl) rfl
    (ChangeSpec.witness6 (enc := enc) (C := Try.checked) false ⟨#[], #[.slice none 0 0, .slice none 0 0, .slice none 0 0], []⟩ 8 (by kernel_rfl) (by kernel_rfl) (by kernel_rfl) (by kernel_rfl)) ?_ ?_
  · intro ds hd
    match ds, hd with
    | [a, b, c], _ => rfl
  · intro W base args ds before hval hA hwt
    have hp : Try.f13.params = #[35, 54, 41] := rfl
    rw [hp] at hA hval hwt
    obtain ⟨v, v1, v2, d, d1, d2, p, p1, p2, rfl, rfl, rfl, ⟨fuel, h0⟩, ⟨fuel1, h1⟩, ⟨fuel2, h2⟩⟩ := trodAll_three hA
    obtain ⟨a, len, cap, rfl⟩ := okWide_slice (P := Try.checked.prog) (e := 50) (by kernel_rfl) (hval 0 35 _ rfl rfl)
    obtain ⟨a1, len1, cap1, rfl⟩ := okWide_slice (P := Try.checked.prog) (e := 3) (by kernel_rfl) (hval 1 54 _ rfl rfl)
    obtain ⟨a2, len2, cap2, rfl⟩ := okWide_slice (P := Try.checked.prog) (e := 47) (by kernel_rfl) (hval 2 41 _ rfl rfl)
    obtain ⟨l, hl, hll⟩ := acts_of (sized_acts (j := 0) hwt rfl rfl) h0
    obtain ⟨x, hx, hr⟩ := rep_of (P := Try.prog) (Ts := [54, 3]) (by kernel_rfl) fuel1 54 [.slice a1 len1 cap1] _ (by simp) h1
    obtain ⟨w, is, hw, hI⟩ := oldI_of hx hr
    have hw' : ofVal (.slice a1 len1 cap1) = w := by
      have : [ofVal (.slice a1 len1 cap1)] = [w] := hw
      simpa using this
    rw [← hw'] at hI
    obtain ⟨os', hO⟩ := oldW_of h2
    exact collectAgain_im (fun π b x h => oldSt_shut W π b x h) (fun π => ren_ofVal π _) hl hll hI hO (oldSt W) rfl
theorem collectAgain_holds : Rows.CollectAgainSaid :=
  OpenClaim.holds_of_wide 13 Try.f13 rfl rfl rfl rfl rfl rfl rfl ⟨rfl, rfl, rfl, rfl, rfl⟩ rfl rfl rfl rfl rfl (by kernel_rfl) Try.func13 (by kernel_rfl)
    (of_decide_eq_true (by kernel_rfl)) (by unfold Func.isWrapper; rw [if_neg (by decide +kernel)]; exact ⟨rfl, rfl⟩)
    (fun os started H enc _ => collectAgain_lifted os started H enc)
#print axioms collectAgain_holds
end Go.Proofs.Ytoldkemimhebaaa