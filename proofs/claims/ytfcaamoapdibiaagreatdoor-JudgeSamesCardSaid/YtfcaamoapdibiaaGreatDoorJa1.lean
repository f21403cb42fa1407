/- Layer 11: handed-in data: types, expressions, programs; lists that are compared. -/
import Derived.Test.YtfcaamoapdibiaaGreatDoorJa0
set_option linter.unusedSimpArgs false
set_option linter.unusedVariables false
namespace Go.Proofs.YtfcaamoapdibiaaGreatDoor
open Go Go.IM

theorem mem_agg {ds es : List D} {sz : Nat} {x : D} (h : D.sl sz es ∈ ds) (hx : x ∈ es) : SizeOf.sizeOf x < SizeOf.sizeOf (D.agg ds) := by
  have h1 := List.sizeOf_lt_of_mem hx
  have h2 := List.sizeOf_lt_of_mem h
  simp only [D.agg.sizeOf_spec, D.sl.sizeOf_spec] at *
  omega
theorem beqDs_drop {es es' : List D} {i : Nat} (h : i < es.length) (h' : i < es'.length) : beqDs (es.drop i) (es'.drop i) = (beqD es[i] es'[i] && beqDs (es.drop (i + 1)) (es'.drop (i + 1))) := by
  rw [List.drop_eq_getElem_cons h, List.drop_eq_getElem_cons h', beqDs]
theorem beqDs_len : ∀ {es es' : List D}, beqDs es es' = true → es.length = es'.length
  | [], [], _ => rfl
  | [], _ :: _, h => by simp [beqDs] at h
  | _ :: _, [], h => by simp [beqDs] at h
  | _ :: es, _ :: es', h => by
    simp only [beqDs, Bool.and_eq_true] at h
    simp [beqDs_len h.2]
theorem beqDs_ne {es es' : List D} (h : ¬ es.length = es'.length) : beqDs es es' = false := by
  cases e : beqDs es es' with
  | false => rfl
  | true => exact absurd (beqDs_len e) h
theorem litEq_refl {v : V} (h : (∃ s, v = .str s) ∨ (∃ k n, v = .int k n) ∨ (∃ b, v = .bool b)) : litEq v v = true := by
  rcases h with ⟨s, rfl⟩ | ⟨k, n, rfl⟩ | ⟨b, rfl⟩ <;> simp [litEq]
mutual
theorem beqD_refl {P : Program} {t : TypeId} : ∀ {d : D}, HasTy P t d → beqD d d = true
  | .lit v, h => by
    rw [beqD]
    cases h with
    | bool _ => exact litEq_refl (.inr (.inr ⟨_, rfl⟩))
    | int _ _ => exact litEq_refl (.inr (.inl ⟨_, _, rfl⟩))
    | str _ _ => exact litEq_refl (.inl ⟨_, rfl⟩)
  | .agg ds, h => by
    rw [beqD]
    cases h with
    | agg _ hf => exact beqDs_refl (fun d hd => by
        have : ∀ {l : List Field} {ds : List D}, HasTys P l ds → ∀ d ∈ ds, ∃ t, HasTy P t d := by
          intro l
          induction l with
          | nil => intro ds h d hd; cases h; cases hd
          | cons f l ih =>
            intro ds h d hd
            cases h with
            | cons h1 h2 =>
              rcases List.mem_cons.1 hd with rfl | hd
              · exact ⟨_, h1⟩
              · exact ih h2 d hd
        exact this hf d hd)
  | .sl sz es, h => by
    rw [beqD]
    cases h with
    | sl _ _ he => exact beqDs_refl fun d hd => ⟨_, he d hd⟩
theorem beqDs_refl {P : Program} : ∀ {ds : List D}, (∀ d ∈ ds, ∃ t, HasTy P t d) → beqDs ds ds = true
  | [], _ => rfl
  | d :: ds, h => by
    obtain ⟨t, ht⟩ := h d (List.mem_cons_self ..)
    rw [beqDs, beqD_refl ht, beqDs_refl fun x hx => h x (List.mem_cons_of_mem _ hx)]
    rfl
end
theorem wrap_len {a : Nat} (h : a + 1 ≤ maxLen) : wrapI .i64 ((a : Int) + 1) = I ((a + 1 : Nat) : Int) := by
  unfold maxLen at h
  rw [wrap64 (by omega) (by omega)]; rfl
theorem beqDs_cons (x y : D) (xs ys : List D) : beqDs (x :: xs) (y :: ys) = (beqD x y && beqDs xs ys) := by rw [beqDs]
theorem beqDs_nil : beqDs [] [] = true := by rw [beqDs]
theorem beqD_agg (a b : List D) : beqD (.agg a) (.agg b) = beqDs a b := by rw [beqD]
theorem beqD_sl (n m : Nat) (a b : List D) : beqD (.sl n a) (.sl m b) = beqDs a b := by rw [beqD]
theorem beqD_lit (a b : V) : beqD (.lit a) (.lit b) = litEq a b := by rw [beqD]
theorem b_seq (a b : ByteArray) : binI .eql (.str a) (.str b) = some (.bool (a.toList == b.toList)) := rfl
theorem b_sne (a b : ByteArray) : binI .neq (.str a) (.str b) = some (.bool !(a.toList == b.toList)) := rfl
theorem sl_beq {o : Nat → Option O} {sz : Nat} {es : List D} {v : V} (h : SlD o sz es v) : beqV v v = true := by
  have := h.again ⟨fun _ => none, 0, fun _ => none⟩
  unfold againV at this
  by_cases hb : beqV v v = true
  · exact hb
  · rw [if_neg hb] at this; cases this
theorem one_s (s : ByteArray) : (V.str s).one = true := rfl
theorem one_i (k : IntKind) (n : Int) : (V.int k n).one = true := rfl
theorem one_b (b : Bool) : (V.bool b).one = true := rfl
theorem bEq (a b : Bool) : eqI (.key (.one .b)) (.bool a) (.bool b) = some (a == b) := rfl
theorem cl46 : Tryz.prog.cellsOf 46 = 2 := by kernel_rfl
theorem cl52 : Tryz.prog.cellsOf 52 = 5 := by kernel_rfl
theorem cl32 : Tryz.prog.cellsOf 32 = 17 := by kernel_rfl
theorem cl75 : Tryz.prog.cellsOf 75 = 4 := by kernel_rfl
theorem cl3 : Tryz.prog.cellsOf 3 = 1 := by kernel_rfl
theorem cl29 : Tryz.prog.cellsOf 29 = 5 := by kernel_rfl
theorem cl26 : Tryz.prog.cellsOf 26 = 1 := by kernel_rfl
theorem cl50 : Tryz.prog.cellsOf 50 = 3 := by kernel_rfl
section
variable {o : Nat → Option O}
/-- RTy, opened. -/
structure WRTy (o : Nat → Option O) (s0 : ByteArray) (s1 : ByteArray) (n2 : Int) (L3 : List D) (v3 : V) (L4 : List D) (v4 : V) : Prop where
  e3 : SlD o 1 L3 v3
  t3 : ∀ d ∈ L3, HasTy Tryz.prog 3 d
  m3 : L3.length ≤ maxLen
  e4 : SlD o 5 L4 v4
  t4 : ∀ d ∈ L4, HasTy Tryz.prog 29 d
  m4 : L4.length ≤ maxLen
theorem vRTy {d : D} {c : List V} (h : HasTy Tryz.prog 29 d) (r : Rep o d c) : ∃ (s0 : ByteArray) (s1 : ByteArray) (n2 : Int) (L3 : List D) (v3 : V) (L4 : List D) (v4 : V), d = .agg [.lit (.str s0), .lit (.str s1), .lit (.int .i64 n2), .sl 1 L3, .sl 5 L4] ∧ c = [.str s0, .str s1, .int .i64 n2, v3, v4] ∧ WRTy o s0 s1 n2 L3 v3 L4 v4 := by
  obtain ⟨ds, rfl, ht⟩ := h.struct (L := [9, 9, 3, 26, 27]) (by kernel_rfl)
  match ds, ht with
  | [d0, d1, d2, d3, d4], ⟨h0, h1, h2, h3, h4, _⟩ =>
    have r := r.aggv
    obtain ⟨c0, r', rfl, r0, r⟩ := r.consv
    obtain ⟨c1, r', rfl, r1, r⟩ := r.consv
    obtain ⟨c2, r', rfl, r2, r⟩ := r.consv
    obtain ⟨c3, r', rfl, r3, r⟩ := r.consv
    obtain ⟨c4, r', rfl, r4, r⟩ := r.consv
    cases r.nilv
    obtain ⟨x0, rfl, _⟩ := h0.strv (by kernel_rfl)
    cases r0.litv
    obtain ⟨x1, rfl, _⟩ := h1.strv (by kernel_rfl)
    cases r1.litv
    obtain ⟨x2, rfl, _⟩ := h2.intv (k := .i64) (by kernel_rfl)
    cases r2.litv
    obtain ⟨x3, rfl, m3, t3⟩ := h3.slice (e := 3) (by kernel_rfl)
    rw [cl3] at r3
    obtain ⟨y3, rfl, e3⟩ := r3.slv
    obtain ⟨x4, rfl, m4, t4⟩ := h4.slice (e := 29) (by kernel_rfl)
    rw [cl29] at r4
    obtain ⟨y4, rfl, e4⟩ := r4.slv
    exact ⟨x0, x1, x2, x3, y3, x4, y4, by rw [cl29, cl3], rfl, ⟨e3, t3, m3, e4, t4, m4⟩⟩
/-- Pat, opened. -/
structure WPat (o : Nat → Option O) (s0 : ByteArray) (s1 : ByteArray) (n2 : Int) (L3 : List D) (v3 : V) : Prop where
  e3 : SlD o 4 L3 v3
  t3 : ∀ d ∈ L3, HasTy Tryz.prog 75 d
  m3 : L3.length ≤ maxLen
theorem vPat {d : D} {c : List V} (h : HasTy Tryz.prog 75 d) (r : Rep o d c) : ∃ (s0 : ByteArray) (s1 : ByteArray) (n2 : Int) (L3 : List D) (v3 : V), d = .agg [.lit (.str s0), .lit (.str s1), .lit (.int .i64 n2), .sl 4 L3] ∧ c = [.str s0, .str s1, .int .i64 n2, v3] ∧ WPat o s0 s1 n2 L3 v3 := by
  obtain ⟨ds, rfl, ht⟩ := h.struct (L := [9, 9, 3, 25]) (by kernel_rfl)
  match ds, ht with
  | [d0, d1, d2, d3], ⟨h0, h1, h2, h3, _⟩ =>
    have r := r.aggv
    obtain ⟨c0, r', rfl, r0, r⟩ := r.consv
    obtain ⟨c1, r', rfl, r1, r⟩ := r.consv
    obtain ⟨c2, r', rfl, r2, r⟩ := r.consv
    obtain ⟨c3, r', rfl, r3, r⟩ := r.consv
    cases r.nilv
    obtain ⟨x0, rfl, _⟩ := h0.strv (by kernel_rfl)
    cases r0.litv
    obtain ⟨x1, rfl, _⟩ := h1.strv (by kernel_rfl)
    cases r1.litv
    obtain ⟨x2, rfl, _⟩ := h2.intv (k := .i64) (by kernel_rfl)
    cases r2.litv
    obtain ⟨x3, rfl, m3, t3⟩ := h3.slice (e := 75) (by kernel_rfl)
    rw [cl75] at r3
    obtain ⟨y3, rfl, e3⟩ := r3.slv
    exact ⟨x0, x1, x2, x3, y3, by rw [cl75], rfl, ⟨e3, t3, m3⟩⟩
/-- Ty, opened. -/
structure WTy (o : Nat → Option O) (s0 : ByteArray) (s1 : ByteArray) (L2 : List D) (v2 : V) : Prop where
  e2 : SlD o 3 L2 v2
  t2 : ∀ d ∈ L2, HasTy Tryz.prog 50 d
  m2 : L2.length ≤ maxLen
theorem vTy {d : D} {c : List V} (h : HasTy Tryz.prog 50 d) (r : Rep o d c) : ∃ (s0 : ByteArray) (s1 : ByteArray) (L2 : List D) (v2 : V), d = .agg [.lit (.str s0), .lit (.str s1), .sl 3 L2] ∧ c = [.str s0, .str s1, v2] ∧ WTy o s0 s1 L2 v2 := by
  obtain ⟨ds, rfl, ht⟩ := h.struct (L := [9, 9, 48]) (by kernel_rfl)
  match ds, ht with
  | [d0, d1, d2], ⟨h0, h1, h2, _⟩ =>
    have r := r.aggv
    obtain ⟨c0, r', rfl, r0, r⟩ := r.consv
    obtain ⟨c1, r', rfl, r1, r⟩ := r.consv
    obtain ⟨c2, r', rfl, r2, r⟩ := r.consv
    cases r.nilv
    obtain ⟨x0, rfl, _⟩ := h0.strv (by kernel_rfl)
    cases r0.litv
    obtain ⟨x1, rfl, _⟩ := h1.strv (by kernel_rfl)
    cases r1.litv
    obtain ⟨x2, rfl, m2, t2⟩ := h2.slice (e := 50) (by kernel_rfl)
    rw [cl50] at r2
    obtain ⟨y2, rfl, e2⟩ := r2.slv
    exact ⟨x0, x1, x2, y2, by rw [cl50], rfl, ⟨e2, t2, m2⟩⟩
/-- Con, opened. -/
structure WCon (o : Nat → Option O) (s0 : ByteArray) (b1 : Bool) (s2_0 : ByteArray) (s2_1 : ByteArray) (L2_2 : List D) (v2_2 : V) : Prop where
  w2 : WTy o s2_0 s2_1 L2_2 v2_2
  h2 : HasTy Tryz.prog 50 (.agg [.lit (.str s2_0), .lit (.str s2_1), .sl 3 L2_2])
  r2 : Rep o (.agg [.lit (.str s2_0), .lit (.str s2_1), .sl 3 L2_2]) [.str s2_0, .str s2_1, v2_2]
theorem vCon {d : D} {c : List V} (h : HasTy Tryz.prog 52 d) (r : Rep o d c) : ∃ (s0 : ByteArray) (b1 : Bool) (s2_0 : ByteArray) (s2_1 : ByteArray) (L2_2 : List D) (v2_2 : V), d = .agg [.lit (.str s0), .lit (.bool b1), .agg [.lit (.str s2_0), .lit (.str s2_1), .sl 3 L2_2]] ∧ c = [.str s0, .bool b1, .str s2_0, .str s2_1, v2_2] ∧ WCon o s0 b1 s2_0 s2_1 L2_2 v2_2 := by
  obtain ⟨ds, rfl, ht⟩ := h.struct (L := [9, 4, 50]) (by kernel_rfl)
  match ds, ht with
  | [d0, d1, d2], ⟨h0, h1, h2, _⟩ =>
    have r := r.aggv
    obtain ⟨c0, r', rfl, r0, r⟩ := r.consv
    obtain ⟨c1, r', rfl, r1, r⟩ := r.consv
    obtain ⟨c2, r', rfl, r2, r⟩ := r.consv
    cases r.nilv
    obtain ⟨x0, rfl, _⟩ := h0.strv (by kernel_rfl)
    cases r0.litv
    obtain ⟨x1, rfl⟩ := h1.boolv (by kernel_rfl)
    cases r1.litv
    obtain ⟨z2_0, z2_1, z2_2, z2_3, rfl, rfl, w2⟩ := vTy h2 r2
    exact ⟨x0, x1, z2_0, z2_1, z2_2, z2_3, rfl, rfl, ⟨w2, h2, r2⟩⟩
/-- Data, opened. -/
structure WData (o : Nat → Option O) (s0 : ByteArray) (L1 : List D) (v1 : V) : Prop where
  e1 : SlD o 5 L1 v1
  t1 : ∀ d ∈ L1, HasTy Tryz.prog 52 d
  m1 : L1.length ≤ maxLen
theorem vData {d : D} {c : List V} (h : HasTy Tryz.prog 46 d) (r : Rep o d c) : ∃ (s0 : ByteArray) (L1 : List D) (v1 : V), d = .agg [.lit (.str s0), .sl 5 L1] ∧ c = [.str s0, v1] ∧ WData o s0 L1 v1 := by
  obtain ⟨ds, rfl, ht⟩ := h.struct (L := [9, 23]) (by kernel_rfl)
  match ds, ht with
  | [d0, d1], ⟨h0, h1, _⟩ =>
    have r := r.aggv
    obtain ⟨c0, r', rfl, r0, r⟩ := r.consv
    obtain ⟨c1, r', rfl, r1, r⟩ := r.consv
    cases r.nilv
    obtain ⟨x0, rfl, _⟩ := h0.strv (by kernel_rfl)
    cases r0.litv
    obtain ⟨x1, rfl, m1, t1⟩ := h1.slice (e := 52) (by kernel_rfl)
    rw [cl52] at r1
    obtain ⟨y1, rfl, e1⟩ := r1.slv
    exact ⟨x0, x1, y1, by rw [cl52], rfl, ⟨e1, t1, m1⟩⟩
/-- Ann, opened. -/
structure WAnn (o : Nat → Option O) (s0 : ByteArray) (s1 : ByteArray) (s2 : ByteArray) (s3 : ByteArray) (n4 : Int) (n5 : Int) (L6 : List D) (v6 : V) (L7 : List D) (v7 : V) (s8_0 : ByteArray) (s8_1 : ByteArray) (n8_2 : Int) (L8_3 : List D) (v8_3 : V) (L8_4 : List D) (v8_4 : V) (L9 : List D) (v9 : V) (L10 : List D) (v10 : V) (L11 : List D) (v11 : V) (L12 : List D) (v12 : V) : Prop where
  e6 : SlD o 17 L6 v6
  t6 : ∀ d ∈ L6, HasTy Tryz.prog 32 d
  m6 : L6.length ≤ maxLen
  e7 : SlD o 4 L7 v7
  t7 : ∀ d ∈ L7, HasTy Tryz.prog 75 d
  m7 : L7.length ≤ maxLen
  w8 : WRTy o s8_0 s8_1 n8_2 L8_3 v8_3 L8_4 v8_4
  h8 : HasTy Tryz.prog 29 (.agg [.lit (.str s8_0), .lit (.str s8_1), .lit (.int .i64 n8_2), .sl 1 L8_3, .sl 5 L8_4])
  r8 : Rep o (.agg [.lit (.str s8_0), .lit (.str s8_1), .lit (.int .i64 n8_2), .sl 1 L8_3, .sl 5 L8_4]) [.str s8_0, .str s8_1, .int .i64 n8_2, v8_3, v8_4]
  e9 : SlD o 1 L9 v9
  t9 : ∀ d ∈ L9, HasTy Tryz.prog 3 d
  m9 : L9.length ≤ maxLen
  e10 : SlD o 1 L10 v10
  t10 : ∀ d ∈ L10, HasTy Tryz.prog 3 d
  m10 : L10.length ≤ maxLen
  e11 : SlD o 1 L11 v11
  t11 : ∀ d ∈ L11, HasTy Tryz.prog 3 d
  m11 : L11.length ≤ maxLen
  e12 : SlD o 1 L12 v12
  t12 : ∀ d ∈ L12, HasTy Tryz.prog 26 d
  m12 : L12.length ≤ maxLen
theorem vAnn {d : D} {c : List V} (h : HasTy Tryz.prog 32 d) (r : Rep o d c) : ∃ (s0 : ByteArray) (s1 : ByteArray) (s2 : ByteArray) (s3 : ByteArray) (n4 : Int) (n5 : Int) (L6 : List D) (v6 : V) (L7 : List D) (v7 : V) (s8_0 : ByteArray) (s8_1 : ByteArray) (n8_2 : Int) (L8_3 : List D) (v8_3 : V) (L8_4 : List D) (v8_4 : V) (L9 : List D) (v9 : V) (L10 : List D) (v10 : V) (L11 : List D) (v11 : V) (L12 : List D) (v12 : V), d = .agg [.lit (.str s0), .lit (.str s1), .lit (.str s2), .lit (.str s3), .lit (.int .i64 n4), .lit (.int .i64 n5), .sl 17 L6, .sl 4 L7, .agg [.lit (.str s8_0), .lit (.str s8_1), .lit (.int .i64 n8_2), .sl 1 L8_3, .sl 5 L8_4], .sl 1 L9, .sl 1 L10, .sl 1 L11, .sl 1 L12] ∧ c = [.str s0, .str s1, .str s2, .str s3, .int .i64 n4, .int .i64 n5, v6, v7, .str s8_0, .str s8_1, .int .i64 n8_2, v8_3, v8_4, v9, v10, v11, v12] ∧ WAnn o s0 s1 s2 s3 n4 n5 L6 v6 L7 v7 s8_0 s8_1 n8_2 L8_3 v8_3 L8_4 v8_4 L9 v9 L10 v10 L11 v11 L12 v12 := by
  obtain ⟨ds, rfl, ht⟩ := h.struct (L := [9, 9, 9, 9, 3, 3, 24, 25, 29, 26, 26, 26, 30]) (by kernel_rfl)
  match ds, ht with
  | [d0, d1, d2, d3, d4, d5, d6, d7, d8, d9, d10, d11, d12], ⟨h0, h1, h2, h3, h4, h5, h6, h7, h8, h9, h10, h11, h12, _⟩ =>
    have r := r.aggv
    obtain ⟨c0, r', rfl, r0, r⟩ := r.consv
    obtain ⟨c1, r', rfl, r1, r⟩ := r.consv
    obtain ⟨c2, r', rfl, r2, r⟩ := r.consv
    obtain ⟨c3, r', rfl, r3, r⟩ := r.consv
    obtain ⟨c4, r', rfl, r4, r⟩ := r.consv
    obtain ⟨c5, r', rfl, r5, r⟩ := r.consv
    obtain ⟨c6, r', rfl, r6, r⟩ := r.consv
    obtain ⟨c7, r', rfl, r7, r⟩ := r.consv
    obtain ⟨c8, r', rfl, r8, r⟩ := r.consv
    obtain ⟨c9, r', rfl, r9, r⟩ := r.consv
    obtain ⟨c10, r', rfl, r10, r⟩ := r.consv
    obtain ⟨c11, r', rfl, r11, r⟩ := r.consv
    obtain ⟨c12, r', rfl, r12, r⟩ := r.consv
    cases r.nilv
    obtain ⟨x0, rfl, _⟩ := h0.strv (by kernel_rfl)
    cases r0.litv
    obtain ⟨x1, rfl, _⟩ := h1.strv (by kernel_rfl)
    cases r1.litv
    obtain ⟨x2, rfl, _⟩ := h2.strv (by kernel_rfl)
    cases r2.litv
    obtain ⟨x3, rfl, _⟩ := h3.strv (by kernel_rfl)
    cases r3.litv
    obtain ⟨x4, rfl, _⟩ := h4.intv (k := .i64) (by kernel_rfl)
    cases r4.litv
    obtain ⟨x5, rfl, _⟩ := h5.intv (k := .i64) (by kernel_rfl)
    cases r5.litv
    obtain ⟨x6, rfl, m6, t6⟩ := h6.slice (e := 32) (by kernel_rfl)
    rw [cl32] at r6
    obtain ⟨y6, rfl, e6⟩ := r6.slv
    obtain ⟨x7, rfl, m7, t7⟩ := h7.slice (e := 75) (by kernel_rfl)
    rw [cl75] at r7
    obtain ⟨y7, rfl, e7⟩ := r7.slv
    obtain ⟨z8_0, z8_1, z8_2, z8_3, z8_4, z8_5, z8_6, rfl, rfl, w8⟩ := vRTy h8 r8
    obtain ⟨x9, rfl, m9, t9⟩ := h9.slice (e := 3) (by kernel_rfl)
    rw [cl3] at r9
    obtain ⟨y9, rfl, e9⟩ := r9.slv
    obtain ⟨x10, rfl, m10, t10⟩ := h10.slice (e := 3) (by kernel_rfl)
    rw [cl3] at r10
    obtain ⟨y10, rfl, e10⟩ := r10.slv
    obtain ⟨x11, rfl, m11, t11⟩ := h11.slice (e := 3) (by kernel_rfl)
    rw [cl3] at r11
    obtain ⟨y11, rfl, e11⟩ := r11.slv
    obtain ⟨x12, rfl, m12, t12⟩ := h12.slice (e := 26) (by kernel_rfl)
    rw [cl26] at r12
    obtain ⟨y12, rfl, e12⟩ := r12.slv
    exact ⟨x0, x1, x2, x3, x4, x5, x6, y6, x7, y7, z8_0, z8_1, z8_2, z8_3, z8_4, z8_5, z8_6, x9, y9, x10, y10, x11, y11, x12, y12, by rw [cl26, cl3, cl32, cl75], rfl, ⟨e6, t6, m6, e7, t7, m7, w8, h8, r8, e9, t9, m9, e10, t10, m10, e11, t11, m11, e12, t12, m12⟩⟩
/-- RProg, opened. -/
structure WRProg (o : Nat → Option O) (L0 : List D) (v0 : V) (L1 : List D) (v1 : V) (s2_0 : ByteArray) (s2_1 : ByteArray) (s2_2 : ByteArray) (s2_3 : ByteArray) (n2_4 : Int) (n2_5 : Int) (L2_6 : List D) (v2_6 : V) (L2_7 : List D) (v2_7 : V) (s2_8_0 : ByteArray) (s2_8_1 : ByteArray) (n2_8_2 : Int) (L2_8_3 : List D) (v2_8_3 : V) (L2_8_4 : List D) (v2_8_4 : V) (L2_9 : List D) (v2_9 : V) (L2_10 : List D) (v2_10 : V) (L2_11 : List D) (v2_11 : V) (L2_12 : List D) (v2_12 : V) : Prop where
  e0 : SlD o 2 L0 v0
  t0 : ∀ d ∈ L0, HasTy Tryz.prog 46 d
  m0 : L0.length ≤ maxLen
  e1 : SlD o 5 L1 v1
  t1 : ∀ d ∈ L1, HasTy Tryz.prog 52 d
  m1 : L1.length ≤ maxLen
  w2 : WAnn o s2_0 s2_1 s2_2 s2_3 n2_4 n2_5 L2_6 v2_6 L2_7 v2_7 s2_8_0 s2_8_1 n2_8_2 L2_8_3 v2_8_3 L2_8_4 v2_8_4 L2_9 v2_9 L2_10 v2_10 L2_11 v2_11 L2_12 v2_12
  h2 : HasTy Tryz.prog 32 (.agg [.lit (.str s2_0), .lit (.str s2_1), .lit (.str s2_2), .lit (.str s2_3), .lit (.int .i64 n2_4), .lit (.int .i64 n2_5), .sl 17 L2_6, .sl 4 L2_7, .agg [.lit (.str s2_8_0), .lit (.str s2_8_1), .lit (.int .i64 n2_8_2), .sl 1 L2_8_3, .sl 5 L2_8_4], .sl 1 L2_9, .sl 1 L2_10, .sl 1 L2_11, .sl 1 L2_12])
  r2 : Rep o (.agg [.lit (.str s2_0), .lit (.str s2_1), .lit (.str s2_2), .lit (.str s2_3), .lit (.int .i64 n2_4), .lit (.int .i64 n2_5), .sl 17 L2_6, .sl 4 L2_7, .agg [.lit (.str s2_8_0), .lit (.str s2_8_1), .lit (.int .i64 n2_8_2), .sl 1 L2_8_3, .sl 5 L2_8_4], .sl 1 L2_9, .sl 1 L2_10, .sl 1 L2_11, .sl 1 L2_12]) [.str s2_0, .str s2_1, .str s2_2, .str s2_3, .int .i64 n2_4, .int .i64 n2_5, v2_6, v2_7, .str s2_8_0, .str s2_8_1, .int .i64 n2_8_2, v2_8_3, v2_8_4, v2_9, v2_10, v2_11, v2_12]
theorem vRProg {d : D} {c : List V} (h : HasTy Tryz.prog 34 d) (r : Rep o d c) : ∃ (L0 : List D) (v0 : V) (L1 : List D) (v1 : V) (s2_0 : ByteArray) (s2_1 : ByteArray) (s2_2 : ByteArray) (s2_3 : ByteArray) (n2_4 : Int) (n2_5 : Int) (L2_6 : List D) (v2_6 : V) (L2_7 : List D) (v2_7 : V) (s2_8_0 : ByteArray) (s2_8_1 : ByteArray) (n2_8_2 : Int) (L2_8_3 : List D) (v2_8_3 : V) (L2_8_4 : List D) (v2_8_4 : V) (L2_9 : List D) (v2_9 : V) (L2_10 : List D) (v2_10 : V) (L2_11 : List D) (v2_11 : V) (L2_12 : List D) (v2_12 : V), d = .agg [.sl 2 L0, .sl 5 L1, .agg [.lit (.str s2_0), .lit (.str s2_1), .lit (.str s2_2), .lit (.str s2_3), .lit (.int .i64 n2_4), .lit (.int .i64 n2_5), .sl 17 L2_6, .sl 4 L2_7, .agg [.lit (.str s2_8_0), .lit (.str s2_8_1), .lit (.int .i64 n2_8_2), .sl 1 L2_8_3, .sl 5 L2_8_4], .sl 1 L2_9, .sl 1 L2_10, .sl 1 L2_11, .sl 1 L2_12]] ∧ c = [v0, v1, .str s2_0, .str s2_1, .str s2_2, .str s2_3, .int .i64 n2_4, .int .i64 n2_5, v2_6, v2_7, .str s2_8_0, .str s2_8_1, .int .i64 n2_8_2, v2_8_3, v2_8_4, v2_9, v2_10, v2_11, v2_12] ∧ WRProg o L0 v0 L1 v1 s2_0 s2_1 s2_2 s2_3 n2_4 n2_5 L2_6 v2_6 L2_7 v2_7 s2_8_0 s2_8_1 n2_8_2 L2_8_3 v2_8_3 L2_8_4 v2_8_4 L2_9 v2_9 L2_10 v2_10 L2_11 v2_11 L2_12 v2_12 := by
  obtain ⟨ds, rfl, ht⟩ := h.struct (L := [22, 23, 32]) (by kernel_rfl)
  match ds, ht with
  | [d0, d1, d2], ⟨h0, h1, h2, _⟩ =>
    have r := r.aggv
    obtain ⟨c0, r', rfl, r0, r⟩ := r.consv
    obtain ⟨c1, r', rfl, r1, r⟩ := r.consv
    obtain ⟨c2, r', rfl, r2, r⟩ := r.consv
    cases r.nilv
    obtain ⟨x0, rfl, m0, t0⟩ := h0.slice (e := 46) (by kernel_rfl)
    rw [cl46] at r0
    obtain ⟨y0, rfl, e0⟩ := r0.slv
    obtain ⟨x1, rfl, m1, t1⟩ := h1.slice (e := 52) (by kernel_rfl)
    rw [cl52] at r1
    obtain ⟨y1, rfl, e1⟩ := r1.slv
    obtain ⟨z2_0, z2_1, z2_2, z2_3, z2_4, z2_5, z2_6, z2_7, z2_8, z2_9, z2_10, z2_11, z2_12, z2_13, z2_14, z2_15, z2_16, z2_17, z2_18, z2_19, z2_20, z2_21, z2_22, z2_23, z2_24, rfl, rfl, w2⟩ := vAnn h2 r2
    exact ⟨x0, y0, x1, y1, z2_0, z2_1, z2_2, z2_3, z2_4, z2_5, z2_6, z2_7, z2_8, z2_9, z2_10, z2_11, z2_12, z2_13, z2_14, z2_15, z2_16, z2_17, z2_18, z2_19, z2_20, z2_21, z2_22, z2_23, z2_24, by rw [cl46, cl52], rfl, ⟨e0, t0, m0, e1, t1, m1, w2, h2, r2⟩⟩
theorem zRTy {d : D} {c : List V} (h : HasTy Tryz.prog 29 d) (r : Rep o d c) : (∀ (k : Nat) (s : St), stC 5 k 0 (.agg c) s (some (.cells [.str (ByteArray.mk #[]), .str (ByteArray.mk #[]), .int .i64 0, .slice none 0 (some 0), .slice none 0 (some 0)] none)) = some (s.set k (.cells c none))) ∧ c.all V.one = true ∧ cut c 0 5 = some c := by
  obtain ⟨s0, s1, n2, L3, v3, L4, v4, rfl, rfl, w⟩ := vRTy h r
  have h1 : ([.str s0, .str s1, .int .i64 n2, v3, v4] : List V).all V.one = true := by simp only [List.all_cons, List.all_nil, one_s, one_i, one_b, Bool.and_true, w.e3.one, w.e4.one]
  refine ⟨fun k s => ?_, h1, rfl⟩
  rw [stC_some, cells_agg, if_pos ⟨rfl, by decide, h1⟩]
  rfl
theorem zPat {d : D} {c : List V} (h : HasTy Tryz.prog 75 d) (r : Rep o d c) : (∀ (k : Nat) (s : St), stC 4 k 0 (.agg c) s (some (.cells [.str (ByteArray.mk #[]), .str (ByteArray.mk #[]), .int .i64 0, .slice none 0 (some 0)] none)) = some (s.set k (.cells c none))) ∧ c.all V.one = true ∧ cut c 0 4 = some c := by
  obtain ⟨s0, s1, n2, L3, v3, rfl, rfl, w⟩ := vPat h r
  have h1 : ([.str s0, .str s1, .int .i64 n2, v3] : List V).all V.one = true := by simp only [List.all_cons, List.all_nil, one_s, one_i, one_b, Bool.and_true, w.e3.one]
  refine ⟨fun k s => ?_, h1, rfl⟩
  rw [stC_some, cells_agg, if_pos ⟨rfl, by decide, h1⟩]
  rfl
theorem zTy {d : D} {c : List V} (h : HasTy Tryz.prog 50 d) (r : Rep o d c) : (∀ (k : Nat) (s : St), stC 3 k 0 (.agg c) s (some (.cells [.str (ByteArray.mk #[]), .str (ByteArray.mk #[]), .slice none 0 (some 0)] none)) = some (s.set k (.cells c none))) ∧ c.all V.one = true ∧ cut c 0 3 = some c := by
  obtain ⟨s0, s1, L2, v2, rfl, rfl, w⟩ := vTy h r
  have h1 : ([.str s0, .str s1, v2] : List V).all V.one = true := by simp only [List.all_cons, List.all_nil, one_s, one_i, one_b, Bool.and_true, w.e2.one]
  refine ⟨fun k s => ?_, h1, rfl⟩
  rw [stC_some, cells_agg, if_pos ⟨rfl, by decide, h1⟩]
  rfl
theorem zCon {d : D} {c : List V} (h : HasTy Tryz.prog 52 d) (r : Rep o d c) : (∀ (k : Nat) (s : St), stC 5 k 0 (.agg c) s (some (.cells [.str (ByteArray.mk #[]), .bool false, .str (ByteArray.mk #[]), .str (ByteArray.mk #[]), .slice none 0 (some 0)] none)) = some (s.set k (.cells c none))) ∧ c.all V.one = true ∧ cut c 0 5 = some c := by
  obtain ⟨s0, b1, s2_0, s2_1, L2_2, v2_2, rfl, rfl, w⟩ := vCon h r
  have h1 : ([.str s0, .bool b1, .str s2_0, .str s2_1, v2_2] : List V).all V.one = true := by simp only [List.all_cons, List.all_nil, one_s, one_i, one_b, Bool.and_true, w.w2.e2.one]
  refine ⟨fun k s => ?_, h1, rfl⟩
  rw [stC_some, cells_agg, if_pos ⟨rfl, by decide, h1⟩]
  rfl
theorem zData {d : D} {c : List V} (h : HasTy Tryz.prog 46 d) (r : Rep o d c) : (∀ (k : Nat) (s : St), stC 2 k 0 (.agg c) s (some (.cells [.str (ByteArray.mk #[]), .slice none 0 (some 0)] none)) = some (s.set k (.cells c none))) ∧ c.all V.one = true ∧ cut c 0 2 = some c := by
  obtain ⟨s0, L1, v1, rfl, rfl, w⟩ := vData h r
  have h1 : ([.str s0, v1] : List V).all V.one = true := by simp only [List.all_cons, List.all_nil, one_s, one_i, one_b, Bool.and_true, w.e1.one]
  refine ⟨fun k s => ?_, h1, rfl⟩
  rw [stC_some, cells_agg, if_pos ⟨rfl, by decide, h1⟩]
  rfl
theorem zAnn {d : D} {c : List V} (h : HasTy Tryz.prog 32 d) (r : Rep o d c) : (∀ (k : Nat) (s : St), stC 17 k 0 (.agg c) s (some (.cells [.str (ByteArray.mk #[]), .str (ByteArray.mk #[]), .str (ByteArray.mk #[]), .str (ByteArray.mk #[]), .int .i64 0, .int .i64 0, .slice none 0 (some 0), .slice none 0 (some 0), .str (ByteArray.mk #[]), .str (ByteArray.mk #[]), .int .i64 0, .slice none 0 (some 0), .slice none 0 (some 0), .slice none 0 (some 0), .slice none 0 (some 0), .slice none 0 (some 0), .slice none 0 (some 0)] none)) = some (s.set k (.cells c none))) ∧ c.all V.one = true ∧ cut c 0 17 = some c := by
  obtain ⟨s0, s1, s2, s3, n4, n5, L6, v6, L7, v7, s8_0, s8_1, n8_2, L8_3, v8_3, L8_4, v8_4, L9, v9, L10, v10, L11, v11, L12, v12, rfl, rfl, w⟩ := vAnn h r
  have h1 : ([.str s0, .str s1, .str s2, .str s3, .int .i64 n4, .int .i64 n5, v6, v7, .str s8_0, .str s8_1, .int .i64 n8_2, v8_3, v8_4, v9, v10, v11, v12] : List V).all V.one = true := by simp only [List.all_cons, List.all_nil, one_s, one_i, one_b, Bool.and_true, w.e6.one, w.e7.one, w.w8.e3.one, w.w8.e4.one, w.e9.one, w.e10.one, w.e11.one, w.e12.one]
  refine ⟨fun k s => ?_, h1, rfl⟩
  rw [stC_some, cells_agg, if_pos ⟨rfl, by decide, h1⟩]
  rfl
theorem zRProg {d : D} {c : List V} (h : HasTy Tryz.prog 34 d) (r : Rep o d c) : (∀ (k : Nat) (s : St), stC 19 k 0 (.agg c) s (some (.cells [.slice none 0 (some 0), .slice none 0 (some 0), .str (ByteArray.mk #[]), .str (ByteArray.mk #[]), .str (ByteArray.mk #[]), .str (ByteArray.mk #[]), .int .i64 0, .int .i64 0, .slice none 0 (some 0), .slice none 0 (some 0), .str (ByteArray.mk #[]), .str (ByteArray.mk #[]), .int .i64 0, .slice none 0 (some 0), .slice none 0 (some 0), .slice none 0 (some 0), .slice none 0 (some 0), .slice none 0 (some 0), .slice none 0 (some 0)] none)) = some (s.set k (.cells c none))) ∧ c.all V.one = true ∧ cut c 0 19 = some c := by
  obtain ⟨L0, v0, L1, v1, s2_0, s2_1, s2_2, s2_3, n2_4, n2_5, L2_6, v2_6, L2_7, v2_7, s2_8_0, s2_8_1, n2_8_2, L2_8_3, v2_8_3, L2_8_4, v2_8_4, L2_9, v2_9, L2_10, v2_10, L2_11, v2_11, L2_12, v2_12, rfl, rfl, w⟩ := vRProg h r
  have h1 : ([v0, v1, .str s2_0, .str s2_1, .str s2_2, .str s2_3, .int .i64 n2_4, .int .i64 n2_5, v2_6, v2_7, .str s2_8_0, .str s2_8_1, .int .i64 n2_8_2, v2_8_3, v2_8_4, v2_9, v2_10, v2_11, v2_12] : List V).all V.one = true := by simp only [List.all_cons, List.all_nil, one_s, one_i, one_b, Bool.and_true, w.e0.one, w.e1.one, w.w2.e6.one, w.w2.e7.one, w.w2.w8.e3.one, w.w2.w8.e4.one, w.w2.e9.one, w.w2.e10.one, w.w2.e11.one, w.w2.e12.one]
  refine ⟨fun k s => ?_, h1, rfl⟩
  rw [stC_some, cells_agg, if_pos ⟨rfl, by decide, h1⟩]
  rfl
/-- Comparing data of a type: the contract of a function. -/
def EqS (o : Nat → Option O) (f : Nat) (T : TypeId) (d d' : D) : Prop := ∀ (c c' : List V) (C : Ch) (s : St) (Q : V → St → Prop), HasTy Tryz.prog T d → HasTy Tryz.prog T d' → Rep o d c → Rep o d' c' → Holds o s C →
  (∀ s', Holds o s' C → Q (.bool (beqD d d')) s') → WP (call PF f [.agg c, .agg c'] s) Q
/-- Comparing lists. -/
def EqL (o : Nat → Option O) (f sz : Nat) (es es' : List D) : Prop := ∀ (v v' : V) (C : Ch) (s : St) (Q : V → St → Prop), SlD o sz es v → SlD o sz es' v' → Holds o s C →
  (∀ s', Holds o s' C → Q (.bool (beqDs es es')) s') → WP (call PF f [v, v'] s) Q
def EqLF (o : Nat → Option O) (f sz g : Nat) (es es' : List D) : Prop := ∀ (v v' : V) (C : Ch) (s : St) (Q : V → St → Prop), SlD o sz es v → SlD o sz es' v' → Holds o s C →
  (∀ s', Holds o s' C → Q (.bool (beqDs es es')) s') → WP (call PF f [v, v', .func g [] []] s) Q
end
end Go.Proofs.YtfcaamoapdibiaaGreatDoor
