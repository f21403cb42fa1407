/- Data that is handed in (numbers, bools, texts; slices and structs of them), as trees; how the ideal machine reads them. -/
import Derived.Test.YtfcaamoapdibiaaGreatDoorIm19
import Derived.Test.YtfcaamoapdibiaaGreatDoorIm13
import Derived.Deep.Slices
set_option linter.unusedSimpArgs false
set_option linter.unusedVariables false
namespace Go.IM
open Go.ChangeShapes Go.WideShapes Go.RowKit

/-- A datum. -/
inductive D where
  | lit (v : V)
  | agg (ds : List D)
  | sl (sz : Nat) (es : List D)
  deriving Inhabited

mutual
/-- A datum in old memory, and the cells that hold it. -/
inductive Rep (o : Nat → Option O) : D → List V → Prop
  | lit (v : V) : Rep o (.lit v) [v]
  | agg {ds : List D} {cs : List V} : Reps o ds cs → Rep o (.agg ds) cs
  | nil {sz : Nat} {a : Option Ad} {c : Option Nat} : Rep o (.sl sz []) [.slice a 0 c]
  | sl {sz b off cap : Nat} {d : D} {es : List D} {C : List V} : o b = some (.cells C none) → RepE o C sz off (d :: es) → Rep o (.sl sz (d :: es)) [.slice (some ⟨.old b, off⟩) (d :: es).length (some cap)]
inductive Reps (o : Nat → Option O) : List D → List V → Prop
  | nil : Reps o [] []
  | cons {d : D} {ds : List D} {c cs : List V} : Rep o d c → Reps o ds cs → Reps o (d :: ds) (c ++ cs)
inductive RepE (o : Nat → Option O) : List V → Nat → Nat → List D → Prop
  | nil {C : List V} {sz off : Nat} : RepE o C sz off []
  | cons {C : List V} {sz off : Nat} {d : D} {ds : List D} {c : List V} : cut C off sz = some c → Rep o d c → RepE o C sz (off + sz) ds → RepE o C sz off (d :: ds)
end

mutual
/-- What a datum of a type is. -/
inductive HasTy (P : Program) : TypeId → D → Prop
  | bool {t : TypeId} {b : Bool} : P.underlying t = some .bool → HasTy P t (.lit (.bool b))
  | int {t : TypeId} {k : IntKind} {n : Int} : P.underlying t = some (.int k) → (Lit.int k n).wf = true → HasTy P t (.lit (.int k n))
  | str {t : TypeId} {s : ByteArray} : P.underlying t = some .string → s.size ≤ maxLen → HasTy P t (.lit (.str s))
  | sl {t e : TypeId} {es : List D} : P.underlying t = some (.slice e) → es.length ≤ maxLen → (∀ d ∈ es, HasTy P e d) → HasTy P t (.sl (P.cellsOf e) es)
  | agg {t : TypeId} {fs : Array Field} {ds : List D} : P.underlying t = some (.struct fs) → HasTys P fs.toList ds → HasTy P t (.agg ds)
inductive HasTys (P : Program) : List Field → List D → Prop
  | nil : HasTys P [] []
  | cons {f : Field} {fs : List Field} {d : D} {ds : List D} : HasTy P f.type d → HasTys P fs ds → HasTys P (f :: fs) (d :: ds)
end

/-- Do fields stand one behind the other? -/
def tileB (P : Program) (total : Nat) : Nat → List Field → Bool
  | off, [] => off == total
  | off, f :: fs => f.offset == off && tileB P total (off + P.cellsOf f.type) fs
/-- Types that lead to such types alone. -/
def tyOk (P : Program) (Ts : List TypeId) : Bool := Ts.all fun t => match P.underlying t with
  | some .bool | some (.int _) | some .string => true
  | some (.slice e) => Ts.contains e && decide (0 < P.cellsOf e)
  | some (.struct fs) => fs.toList.all (fun f => Ts.contains f.type) && tileB P (P.cellsOf t) 0 fs.toList
  | _ => false

theorem ofVals_map : ∀ l : List Value, ofVals l = l.map ofVal
  | [] => rfl
  | v :: l => by rw [ofVals, ofVals_map l]; rfl
theorem ofVals_append (l m : List Value) : ofVals (l ++ m) = ofVals l ++ ofVals m := by rw [ofVals_map, ofVals_map, ofVals_map, List.map_append]

section
variable {H : Type} {enc : TypeId × Value → H} {W : Go.World} {P : Program}

/-- Cells of old memory, on the ideal machine. -/
theorem rd {base n : Nat} {a : Addr} {cs : List Value} (hn : 0 < n) (h : W.cells? base a n = some cs) : a.spot = none ∧ ∃ C, (oldSt W).old a.block = some (.cells C none) ∧ cut C a.off n = some (ofVals cs) := by
  obtain ⟨_, hlen, hc⟩ := Go.World.cells?_some h
  have h0 := hc 0 hn
  rw [show a.add 0 = a from rfl, List.getElem?_eq_getElem (by omega)] at h0
  unfold Go.World.cell? at h0
  split at h0
  · rename_i c el fr hb
    split at h0
    · cases h0
    · rename_i hs
      refine ⟨by simpa using hs, ofVals c.toList, by simp [oldSt, hb], ?_⟩
      have hget : ∀ i, i < n → c[a.off + i]? = cs[i]? := by
        intro i hi
        have := hc i hi
        rw [← this]
        unfold Go.World.cell? Addr.add
        by_cases h0 : i = 0
        · subst h0; simp [hb, hs]
        · simp [h0, hb]
      have hsz : a.off + n ≤ c.size := by
        have := hget (n - 1) (by omega)
        rw [List.getElem?_eq_getElem (by omega)] at this
        have := (Array.getElem?_eq_some_iff.1 this).1
        omega
      rw [ofVals_map, ofVals_map]
      unfold cut
      rw [if_pos (by simp; exact hsz)]
      congr 1
      apply List.ext_getElem?
      intro i
      by_cases hi : i < n
      · rw [List.getElem?_take, if_pos hi, List.getElem?_drop, List.getElem?_map, List.getElem?_map, Array.getElem?_toList, hget i hi]
      · rw [List.getElem?_eq_none (by simp; omega), List.getElem?_eq_none (by simp; omega)]
  · cases h0

/-- A slice's value. -/
theorem ofVal_slice {a : Addr} {len cap : Nat} (hl : len ≤ cap) (hsp : 0 < cap → a.spot = none) : ofVal (.slice (some a) len cap) = .slice (some ⟨.old a.block, a.off⟩) len (some cap) := by
  obtain ⟨b, off, sp⟩ := a
  cases sp with
  | none => simp [ofVal, hl]
  | some x =>
    have hc : cap = 0 := by
      rcases Nat.eq_zero_or_pos cap with h | h
      · exact h
      · have := hsp h; simp at this
    subst hc
    have : len = 0 := by omega
    subst this
    rfl

theorem add_block (a : Addr) (i : Nat) : (a.add i).block = a.block := by unfold Addr.add; split <;> rfl
theorem add_off (a : Addr) (i : Nat) : (a.add i).off = a.off + i := by unfold Addr.add; split <;> simp_all

/-- What is handed in is such a datum. -/
theorem rep_of {Ts : List TypeId} (hT : tyOk P Ts = true) : ∀ (fuel : Nat) (t : TypeId) (cs : List Value) (x : DataW H × List MemPlace), t ∈ Ts → DataW.trod enc P W 0 (fun _ => true) true fuel t cs = some x →
    ∃ d, HasTy P t d ∧ Rep (oldSt W).old d (ofVals cs) := by
  intro fuel
  induction fuel using Nat.strongRecOn with
  | _ fuel ih =>
    intro t cs x ht h
    have hk := List.all_eq_true.1 hT t ht
    split at hk
    · rename_i hu
      obtain ⟨b, rfl, _⟩ := DataW.trod_bool hu h
      exact ⟨_, .bool hu, .lit _⟩
    · rename_i k hu
      obtain ⟨n, rfl, _, hw⟩ := DataW.trod_int hu h
      exact ⟨_, .int hu hw, .lit _⟩
    · rename_i hu
      obtain ⟨s, rfl, _, hs⟩ := DataW.trod_string hu h
      exact ⟨_, .str hu hs, .lit _⟩
    · rename_i e hu
      rw [Bool.and_eq_true, List.contains_eq_mem, decide_eq_true_eq, decide_eq_true_eq] at hk
      obtain ⟨he, h0⟩ := hk
      rcases DataW.trod_slice hu h with ⟨rfl, _⟩ | ⟨a, len, cap, elems, rest, n, rfl, rfl, _, hb, hl, hm, hlen, hel, hsp, _⟩
      · exact ⟨.sl _ [], .sl hu (by simp [maxLen]) (fun d hd => by cases hd), .nil⟩
      · have hspot : 0 < cap → a.spot = none := fun hc => by
          have hx : ∃ y, (W.cells? 0 a (P.cellsOf e)).bind (DataW.trod enc P W 0 (fun _ => true) true n e) = some y := by
            rcases Nat.eq_zero_or_pos len with h1 | h1
            · obtain ⟨q1, q2⟩ := hsp rfl
              have := q2 0 (by omega)
              rw [h1, show ((0 + 0) * P.cellsOf e) = 0 by simp, show a.add 0 = a from rfl, List.getElem?_eq_getElem (by omega)] at this
              exact ⟨_, this⟩
            · have := hel 0 h1
              rw [show (0 * P.cellsOf e) = 0 by simp, show a.add 0 = a from rfl, List.getElem?_eq_getElem (by omega)] at this
              exact ⟨_, this⟩
          obtain ⟨y, hy⟩ := hx
          rw [Option.bind_eq_some_iff] at hy
          obtain ⟨c, hc, _⟩ := hy
          exact (rd h0 hc).1
        -- the elements
        have each : ∀ i, i < len → ∃ d c, HasTy P e d ∧ Rep (oldSt W).old d c ∧ ∃ C, (oldSt W).old a.block = some (.cells C none) ∧ cut C (a.off + i * P.cellsOf e) (P.cellsOf e) = some c := by
          intro i hi
          have := hel i hi
          rw [List.getElem?_eq_getElem (by omega), Option.bind_eq_some_iff] at this
          obtain ⟨c, h1, h2⟩ := this
          obtain ⟨d, k1, k2⟩ := ih n (by omega) e c _ he h2
          obtain ⟨_, C, k3, k4⟩ := rd h0 h1
          rw [add_block] at k3
          rw [add_off] at k4
          exact ⟨d, _, k1, k2, C, k3, k4⟩
        have all : ∀ m i, i + m = len → ∀ C, (oldSt W).old a.block = some (.cells C none) → ∃ es, es.length = m ∧ (∀ d ∈ es, HasTy P e d) ∧ RepE (oldSt W).old C (P.cellsOf e) (a.off + i * P.cellsOf e) es := by
          intro m
          induction m with
          | zero => exact fun i _ C _ => ⟨[], rfl, (fun d hd => by cases hd), .nil⟩
          | succ m ihm =>
            intro i hi C hC
            obtain ⟨d, c, k1, k2, C', k3, k4⟩ := each i (by omega)
            rw [hC] at k3; cases k3
            obtain ⟨es, q1, q2, q3⟩ := ihm (i + 1) (by omega) C hC
            refine ⟨d :: es, by simp [q1], fun d' hd' => ?_, .cons k4 k2 ?_⟩
            · rcases List.mem_cons.1 hd' with rfl | hd'
              · exact k1
              · exact q2 _ hd'
            · rw [Nat.add_mul, Nat.one_mul, ← Nat.add_assoc] at q3; exact q3
        rw [show ofVals [Value.slice (some a) len cap] = [ofVal (.slice (some a) len cap)] from rfl, ofVal_slice hl hspot]
        rcases Nat.eq_zero_or_pos len with h1 | h1
        · subst h1
          exact ⟨.sl _ [], .sl hu (by simp [maxLen]) (fun d hd => by cases hd), .nil⟩
        · obtain ⟨_, _, _, _, C, hC, _⟩ := each 0 h1
          obtain ⟨es, q1, q2, q3⟩ := all len 0 (by omega) C hC
          rw [Nat.zero_mul, Nat.add_zero] at q3
          match es, q1 with
          | [], q1 => simp at q1; omega
          | d :: es, q1 =>
            refine ⟨.sl _ (d :: es), .sl hu (by omega) q2, ?_⟩
            rw [← q1]
            exact .sl hC q3
    · rename_i fs hu
      rw [Bool.and_eq_true] at hk
      obtain ⟨hm, htile⟩ := hk
      obtain ⟨xs, n, rfl, _, hlen, hxl, hf⟩ := DataW.trod_struct hu h
      have each : ∀ f ∈ fs.toList, ∃ d, HasTy P f.type d ∧ Rep (oldSt W).old d (ofVals ((cs.drop f.offset).take (P.cellsOf f.type))) := by
        intro f hfm
        obtain ⟨i, hi, rfl⟩ := List.mem_iff_getElem.1 hfm
        have hi' : i < fs.size := by simpa using hi
        have := hf i fs[i] (by simp [hi'])
        rw [List.getElem?_eq_getElem (by omega)] at this
        have hmem := List.all_eq_true.1 hm _ (List.getElem_mem hi)
        rw [List.contains_eq_mem, decide_eq_true_eq] at hmem
        simp only [Array.getElem_toList] at hmem ⊢
        exact ih n (by omega) _ _ _ hmem this
      have go : ∀ (l : List Field) (off : Nat), (∀ f ∈ l, f ∈ fs.toList) → tileB P (P.cellsOf t) off l = true → off ≤ cs.length → ∃ ds, HasTys P l ds ∧ Reps (oldSt W).old ds (ofVals (cs.drop off)) := by
        intro l
        induction l with
        | nil =>
          intro off _ h1 _
          have : off = P.cellsOf t := by simpa [tileB] using h1
          exact ⟨[], .nil, by rw [List.drop_eq_nil_of_le (by omega)]; exact .nil⟩
        | cons f l ihl =>
          intro off h0 h1 h2
          simp only [tileB, Bool.and_eq_true, beq_iff_eq] at h1
          obtain ⟨d, k1, k2⟩ := each f (h0 f (List.mem_cons_self ..))
          have le : ∀ (l : List Field) (off : Nat), tileB P (P.cellsOf t) off l = true → off ≤ P.cellsOf t := by
            intro l
            induction l with
            | nil => intro off h; have : off = P.cellsOf t := by simpa [tileB] using h
                     omega
            | cons f l ihl => intro off h; simp only [tileB, Bool.and_eq_true, beq_iff_eq] at h; have := ihl _ h.2; omega
          obtain ⟨ds, q1, q2⟩ := ihl (off + P.cellsOf f.type) (fun g hg => h0 g (List.mem_cons_of_mem _ hg)) h1.2 (by rw [hlen]; exact le _ _ h1.2)
          refine ⟨d :: ds, .cons k1 q1, ?_⟩
          rw [h1.1] at k2
          have e : cs.drop off = (cs.drop off).take (P.cellsOf f.type) ++ cs.drop (off + P.cellsOf f.type) := by
            rw [← List.drop_drop, List.take_append_drop]
          rw [e, ofVals_append]
          exact .cons k2 q2
      obtain ⟨ds, q1, q2⟩ := go fs.toList 0 (fun _ h => h) htile (by omega)
      exact ⟨.agg ds, .agg hu q1, .agg (by rw [List.drop_zero] at q2; exact q2)⟩
    · cases hk
end

/-- Are two cells of plain data the same? -/
def litEq : V → V → Bool
  | .bool a, .bool b => a == b
  | .int _ a, .int _ b => a == b
  | .str a, .str b => a.toList == b.toList
  | _, _ => false
mutual
/-- Are two data the same? -/
def beqD : D → D → Bool
  | .lit a, .lit b => litEq a b
  | .agg a, .agg b => beqDs a b
  | .sl _ a, .sl _ b => beqDs a b
  | _, _ => false
def beqDs : List D → List D → Bool
  | [], [] => true
  | x :: xs, y :: ys => beqD x y && beqDs xs ys
  | _, _ => false
end

section
variable {o : Nat → Option O} {P : Program}

/-- The types of a struct's fields. -/
def Tys (P : Program) : List TypeId → List D → Prop
  | [], [] => True
  | t :: ts, d :: ds => HasTy P t d ∧ Tys P ts ds
  | _, _ => False
theorem HasTys.tys : ∀ {fs : List Field} {ds : List D}, HasTys P fs ds → Tys P (fs.map (·.type)) ds
  | [], _, .nil => trivial
  | _ :: _, _, .cons h hs => ⟨h, hs.tys⟩
def structT (P : Program) (t : TypeId) : Option (List TypeId) := match P.underlying t with
  | some (.struct fs) => some (fs.toList.map (·.type))
  | _ => none
theorem HasTy.struct {t : TypeId} {d : D} {L : List TypeId} (h : HasTy P t d) (hL : structT P t = some L) : ∃ ds, d = .agg ds ∧ Tys P L ds := by
  unfold structT at hL
  cases h with
  | agg hu hf => rw [hu] at hL; cases hL; exact ⟨_, rfl, hf.tys⟩
  | bool hu => rw [hu] at hL; cases hL
  | int hu _ => rw [hu] at hL; cases hL
  | str hu _ => rw [hu] at hL; cases hL
  | sl hu _ _ => rw [hu] at hL; cases hL
theorem HasTy.slice {t e : TypeId} {d : D} (h : HasTy P t d) (ht : P.underlying t = some (.slice e)) : ∃ es, d = .sl (P.cellsOf e) es ∧ es.length ≤ maxLen ∧ ∀ d ∈ es, HasTy P e d := by
  cases h with
  | sl hu hl he => rw [ht] at hu; cases hu; exact ⟨_, rfl, hl, he⟩
  | bool hu => rw [ht] at hu; cases hu
  | int hu _ => rw [ht] at hu; cases hu
  | str hu _ => rw [ht] at hu; cases hu
  | agg hu _ => rw [ht] at hu; cases hu
theorem HasTy.strv {t : TypeId} {d : D} (h : HasTy P t d) (ht : P.underlying t = some .string) : ∃ s, d = .lit (.str s) ∧ s.size ≤ maxLen := by
  cases h with
  | str hu hs => exact ⟨_, rfl, hs⟩
  | bool hu => rw [ht] at hu; cases hu
  | int hu _ => rw [ht] at hu; cases hu
  | sl hu _ _ => rw [ht] at hu; cases hu
  | agg hu _ => rw [ht] at hu; cases hu
theorem HasTy.boolv {t : TypeId} {d : D} (h : HasTy P t d) (ht : P.underlying t = some .bool) : ∃ b, d = .lit (.bool b) := by
  cases h with
  | bool hu => exact ⟨_, rfl⟩
  | str hu _ => rw [ht] at hu; cases hu
  | int hu _ => rw [ht] at hu; cases hu
  | sl hu _ _ => rw [ht] at hu; cases hu
  | agg hu _ => rw [ht] at hu; cases hu
theorem HasTy.intv {t : TypeId} {k : IntKind} {d : D} (h : HasTy P t d) (ht : P.underlying t = some (.int k)) : ∃ n, d = .lit (.int k n) ∧ (Lit.int k n).wf = true := by
  cases h with
  | int hu hw => rw [ht] at hu; cases hu; exact ⟨_, rfl, hw⟩
  | bool hu => rw [ht] at hu; cases hu
  | str hu _ => rw [ht] at hu; cases hu
  | sl hu _ _ => rw [ht] at hu; cases hu
  | agg hu _ => rw [ht] at hu; cases hu

/-- A slice in old memory. -/
structure SlD (o : Nat → Option O) (sz : Nat) (es : List D) (v : V) : Prop where
  len : lenV v = some (.int .i64 es.length)
  get : ∀ (i : Nat) (h : i < es.length), ∃ b off C c, ixV sz v (.int .i64 (i : Int)) = some (.ptr (some ⟨.old b, off⟩)) ∧ Rep o es[i] c ∧ o b = some (.cells C none) ∧ cut C off sz = some c
  one : v.one = true
  cells : v.cells = [v]
  again : ∀ s : St, againV v v s = some (.any, s)

theorem RepE.get {C : List V} {sz : Nat} : ∀ {off : Nat} {es : List D}, RepE o C sz off es → ∀ (i : Nat) (h : i < es.length), ∃ c, cut C (off + i * sz) sz = some c ∧ Rep o es[i] c
  | _, _, .nil, i, h => by simp at h
  | _, _, .cons hc hr _, 0, h => ⟨_, by simpa using hc, hr⟩
  | off, _, .cons (ds := ds) _ _ hs, i + 1, h => by
    obtain ⟨c, h1, h2⟩ := hs.get i (by simpa using h)
    refine ⟨c, ?_, h2⟩
    rw [show off + (i + 1) * sz = off + sz + i * sz by rw [Nat.add_mul]; omega]
    exact h1
theorem Rep.slv {sz : Nat} {es : List D} {cs : List V} (h : Rep o (.sl sz es) cs) : ∃ v, cs = [v] ∧ SlD o sz es v := by
  cases h with
  | nil => exact ⟨_, rfl, rfl, fun i h => by simp at h, rfl, rfl, fun s => againV_slice _ _ _ s⟩
  | sl hC hE =>
    refine ⟨_, rfl, rfl, fun i hi => ?_, rfl, rfl, fun s => againV_slice _ _ _ s⟩
    obtain ⟨c, h1, h2⟩ := hE.get i hi
    refine ⟨_, _, _, c, ?_, h2, hC, h1⟩
    rw [ixV_int (by omega) (by omega)]
    simp
theorem Rep.litv {v : V} {cs : List V} (h : Rep o (.lit v) cs) : cs = [v] := by cases h; rfl
theorem Rep.aggv {ds : List D} {cs : List V} (h : Rep o (.agg ds) cs) : Reps o ds cs := by cases h; assumption
theorem Reps.consv {d : D} {ds : List D} {cs : List V} (h : Reps o (d :: ds) cs) : ∃ c c', cs = c ++ c' ∧ Rep o d c ∧ Reps o ds c' := by cases h; exact ⟨_, _, rfl, ‹_›, ‹_›⟩
theorem Reps.nilv {cs : List V} (h : Reps o [] cs) : cs = [] := by cases h; rfl

/-- Loads from old memory. -/
theorem ld_old {s : St} {b off sz : Nat} {C c : List V} (hs : s.old = o) (hC : o b = some (.cells C none)) (hc : cut C off sz = some c) (h0 : 0 < sz) :
    (loadV (some sz) (.ptr (some ⟨.old b, off⟩)) s = some (.agg c)) ∧ (loadV none (.ptr (some ⟨.old b, off⟩)) s = c[0]?) ∧ (∀ f, f < sz → loadV none (.ptr (some ⟨.old b, off + f⟩)) s = c[f]?) ∧
    (∀ f n, f + n ≤ sz → loadV (some n) (.ptr (some ⟨.old b, off + f⟩)) s = some (.agg ((c.drop f).take n))) := by
  have hrow : s.row (.old b) = some (C, none) := by simp only [St.row, St.get, hs, hC]
  have hcut : off + sz ≤ C.length ∧ c = (C.drop off).take sz := by
    unfold cut at hc; split at hc
    · cases hc; exact ⟨by assumption, rfl⟩
    · cases hc
  obtain ⟨h1, rfl⟩ := hcut
  have l1 : ∀ f, f < sz → loadV none (.ptr (some ⟨.old b, off + f⟩)) s = ((C.drop off).take sz)[f]? := by
    intro f hf
    rw [loadV_ptr]
    simp only [readCells, hrow, Option.getD_none]
    rw [cut_one', List.getElem?_take, if_pos hf, List.getElem?_drop]
  refine ⟨?_, by have := l1 0 h0; rwa [Nat.add_zero] at this, l1, fun f n hf => ?_⟩
  · rw [loadV_ptr]
    simp only [readCells, hrow, Option.getD_some, cut, if_pos h1]
    rfl
  · rw [loadV_ptr]
    simp only [readCells, hrow, Option.getD_some, cut]
    rw [if_pos (by omega)]
    show some (V.agg _) = _
    rw [List.drop_take, List.take_take, List.drop_drop, Nat.min_eq_left (by omega)]
theorem ldo_alloc (n : Option Nat) (b off : Nat) (s : St) (x : O) : loadV n (.ptr (some ⟨.old b, off⟩)) (s.alloc x) = loadV n (.ptr (some ⟨.old b, off⟩)) s := rfl
theorem ldo_set (n : Option Nat) (b off k : Nat) (s : St) (x : O) : loadV n (.ptr (some ⟨.old b, off⟩)) (s.set k x) = loadV n (.ptr (some ⟨.old b, off⟩)) s := rfl
end
end Go.IM
