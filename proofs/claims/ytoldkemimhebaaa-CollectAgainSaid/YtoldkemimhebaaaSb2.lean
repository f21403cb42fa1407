/- Texts Im17, Im18, Im19, PgA, PgD, PgP, PgQ, PgS, PgV, PgY, PgZ, Pg0. -/
import Derived.Test.YtoldkemimhebaaaRows
import Derived.Test.YtoldkemimhebaaaSb1

set_option linter.unusedSimpArgs false
set_option linter.unusedVariables false
namespace Go.IM
abbrev tt : Bool := true
abbrev ff : Bool := false
abbrev Ch := List (Nat × Option O)
def Ch.ids (C : Ch) : List Nat := C.filterMap fun p => p.2.map fun _ => p.1
structure Holds (old : Nat → Option O) (s : St) (C : Ch) : Prop where
  old : s.old = old
  nodup : C.ids.Nodup
  at_ : ∀ k x, (k, some x) ∈ C → s.new k = some x
  lt : ∀ k ∈ C.ids, k < s.next
namespace Holds
variable {o : Nat → Option O} {s : St} {C D F : Ch} {k j : Nat} {x y : O}
theorem ids_mem {C : Ch} {k : Nat} : k ∈ C.ids ↔ ∃ x, (k, some x) ∈ C := by
  unfold Ch.ids
  rw [List.mem_filterMap]
  constructor
  · rintro ⟨⟨a, b⟩, h, e⟩
    cases b with
    | none => cases e
    | some x => cases e; exact ⟨x, h⟩
  · rintro ⟨x, h⟩
    exact ⟨_, h, rfl⟩
@[simp] theorem ids_nil : Ch.ids [] = [] := rfl
@[simp] theorem ids_some (k : Nat) (x : O) (C : Ch) : Ch.ids ((k, some x) :: C) = k :: C.ids := rfl
@[simp] theorem ids_none (k : Nat) (C : Ch) : Ch.ids ((k, none) :: C) = C.ids := rfl
@[simp] theorem ids_append (C D : Ch) : Ch.ids (C ++ D) = C.ids ++ D.ids := List.filterMap_append
theorem perm (h : Holds o s C) (p : C.Perm D) : Holds o s D where
  old := h.old
  nodup := (p.filterMap _).nodup_iff.1 h.nodup
  at_ := fun k x m => h.at_ k x (p.mem_iff.2 m)
  lt := fun k m => h.lt k ((p.filterMap _).mem_iff.2 m)
theorem tl {c : Nat × Option O} (h : Holds o s (c :: C)) : Holds o s C where
  old := h.old
  nodup := by
    obtain ⟨k, _ | x⟩ := c
    · exact h.nodup
    · exact (List.nodup_cons.1 h.nodup).2
  at_ := fun k x m => h.at_ k x (List.mem_cons_of_mem _ m)
  lt := fun k m => h.lt k (by obtain ⟨j, _ | x⟩ := c; exact m; exact List.mem_cons_of_mem _ m)
theorem dropL (h : Holds o s (C ++ D)) : Holds o s D := by
  induction C with
  | nil => exact h
  | cons c C ih => exact ih h.tl
theorem r1 {a b : Nat × Option O} (h : Holds o s (a :: b :: C)) : Holds o s (b :: a :: C) := h.perm (List.Perm.swap _ _ _)
theorem r2 {a b c : Nat × Option O} (h : Holds o s (a :: b :: c :: C)) : Holds o s (c :: a :: b :: C) := h.perm ((List.Perm.cons _ (List.Perm.swap _ _ _)).trans (List.Perm.swap _ _ _))
theorem r3 {a b c d : Nat × Option O} (h : Holds o s (a :: b :: c :: d :: C)) : Holds o s (d :: a :: b :: c :: C) := by
  have : Holds o s (a :: d :: b :: c :: C) := h.perm (List.Perm.cons _ ((List.Perm.cons _ (List.Perm.swap _ _ _)).trans (List.Perm.swap _ _ _)))
  exact this.r1
theorem r4 {a b c d e : Nat × Option O} (h : Holds o s (a :: b :: c :: d :: e :: C)) : Holds o s (e :: a :: b :: c :: d :: C) := by
  have h1 : Holds o s (a :: e :: b :: c :: d :: C) := h.perm (List.Perm.cons _ (by
    refine (List.Perm.cons _ ((List.Perm.cons _ (List.Perm.swap _ _ _)).trans (List.Perm.swap _ _ _))).trans (List.Perm.swap _ _ _)))
  exact h1.r1
theorem rb (h : Holds o s (C ++ (D ++ F))) : Holds o s (D ++ (C ++ F)) := h.perm (by
  rw [← List.append_assoc, ← List.append_assoc]
  exact List.Perm.append_right _ List.perm_append_comm)
theorem nilEntry (h : Holds o s C) (k : Nat) : Holds o s ((k, none) :: C) where
  old := h.old
  nodup := h.nodup
  at_ := fun j x m => by
    rcases List.mem_cons.1 m with e | m
    · cases e
    · exact h.at_ j x m
  lt := h.lt
theorem g0 {C : Ch} (h : Holds o s ((k, some x) :: C)) : s.new k = some x := h.at_ _ _ (List.mem_cons_self ..)
theorem l0 {C : Ch} (h : Holds o s ((k, some x) :: C)) : k < s.next := h.lt k (List.mem_cons_self ..)
theorem n0 {C : Ch} (h : Holds o s ((k, some x) :: C)) : k ∉ C.ids := (List.nodup_cons.1 h.nodup).1
section
variable {a b c d : Nat} {p q r t : O}
theorem ne (h : Holds o s ((a, some p) :: C)) (m : b ∈ C.ids) : a ≠ b ∧ b ≠ a := ⟨fun e => h.n0 (e ▸ m), fun e => h.n0 (e ▸ m)⟩
theorem f1 (h : Holds o s ((a, some p) :: C)) : s.new a = some p ∧ a < s.next := ⟨h.g0, h.l0⟩
theorem f2 (h : Holds o s ((a, some p) :: (b, some q) :: C)) : (s.new a = some p ∧ a < s.next) ∧ (s.new b = some q ∧ b < s.next) ∧ (a ≠ b ∧ b ≠ a) :=
  ⟨h.f1, h.tl.f1, h.ne (List.mem_cons_self ..)⟩
theorem f3 (h : Holds o s ((a, some p) :: (b, some q) :: (c, some r) :: C)) : ((s.new a = some p ∧ a < s.next) ∧ (s.new b = some q ∧ b < s.next) ∧ (a ≠ b ∧ b ≠ a)) ∧ (s.new c = some r ∧ c < s.next) ∧ (a ≠ c ∧ c ≠ a) ∧ (b ≠ c ∧ c ≠ b) :=
  ⟨h.f2, h.tl.tl.f1, h.ne (List.mem_cons_of_mem _ (List.mem_cons_self ..)), h.tl.ne (List.mem_cons_self ..)⟩
theorem f4 (h : Holds o s ((a, some p) :: (b, some q) :: (c, some r) :: (d, some t) :: C)) : (((s.new a = some p ∧ a < s.next) ∧ (s.new b = some q ∧ b < s.next) ∧ (a ≠ b ∧ b ≠ a)) ∧ (s.new c = some r ∧ c < s.next) ∧ (a ≠ c ∧ c ≠ a) ∧ (b ≠ c ∧ c ≠ b)) ∧
    (s.new d = some t ∧ d < s.next) ∧ (a ≠ d ∧ d ≠ a) ∧ (b ≠ d ∧ d ≠ b) ∧ (c ≠ d ∧ d ≠ c) :=
  ⟨h.f3, h.tl.tl.tl.f1, h.ne (List.mem_cons_of_mem _ (List.mem_cons_of_mem _ (List.mem_cons_self ..))), h.tl.ne (List.mem_cons_of_mem _ (List.mem_cons_self ..)), h.tl.tl.ne (List.mem_cons_self ..)⟩
end
theorem alloc (h : Holds o s C) (x : O) : Holds o (s.alloc x) ((s.next, some x) :: C) where
  old := h.old
  nodup := List.nodup_cons.2 ⟨fun m => Nat.lt_irrefl _ (h.lt _ m), h.nodup⟩
  at_ := fun k y m => by
    rcases List.mem_cons.1 m with e | m
    · cases e; simp
    · have : k < s.next := h.lt k (ids_mem.2 ⟨y, m⟩)
      rw [alloc_new _ _ (by omega)]; exact h.at_ k y m
  lt := fun k m => by
    rcases List.mem_cons.1 m with e | m
    · subst e; simp
    · have := h.lt k m; simp; omega
theorem set0 (h : Holds o s ((k, some x) :: C)) (y : O) : Holds o (s.set k y) ((k, some y) :: C) where
  old := h.old
  nodup := h.nodup
  at_ := fun j z m => by
    rcases List.mem_cons.1 m with e | m
    · cases e; simp
    · rw [set_new _ _ (fun e => h.n0 (by rw [← e]; exact ids_mem.2 ⟨z, m⟩))]; exact h.tl.at_ j z m
  lt := h.lt
theorem set1 {c : Nat × Option O} (h : Holds o s (c :: (k, some x) :: C)) (y : O) : Holds o (s.set k y) (c :: (k, some y) :: C) := (h.r1.set0 y).r1
theorem set2 {c d : Nat × Option O} (h : Holds o s (c :: d :: (k, some x) :: C)) (y : O) : Holds o (s.set k y) (c :: d :: (k, some y) :: C) :=
  (h.r2.set0 y).perm ((List.Perm.swap _ _ _).trans (List.Perm.cons _ (List.Perm.swap _ _ _)))
theorem set3 {c d e : Nat × Option O} (h : Holds o s (c :: d :: e :: (k, some x) :: C)) (y : O) : Holds o (s.set k y) (c :: d :: e :: (k, some y) :: C) :=
  (h.r3.set0 y).perm ((List.Perm.swap _ _ _).trans (List.Perm.cons _ ((List.Perm.swap _ _ _).trans (List.Perm.cons _ (List.Perm.swap _ _ _)))))
theorem kill (h : Holds o s ((k, some x) :: C)) : Holds o (s.kill k) C where
  old := h.old
  nodup := h.tl.nodup
  at_ := fun j z m => by rw [kill_new _ (fun e => h.n0 (by rw [← e]; exact ids_mem.2 ⟨z, m⟩))]; exact h.tl.at_ j z m
  lt := h.tl.lt
end Holds
def WP (r : Res) (Q : V → St → Prop) : Prop := ∃ v s, r = some (v, s) ∧ Q v s
theorem WP_some (v : V) (s : St) (Q : V → St → Prop) : WP (some (v, s)) Q ↔ Q v s :=
  ⟨fun ⟨_, _, e, q⟩ => by cases e; exact q, fun q => ⟨_, _, rfl, q⟩⟩
theorem WP.mono {r : Res} {Q Q' : V → St → Prop} (h : WP r Q) (k : ∀ v s, Q v s → Q' v s) : WP r Q' := by
  obtain ⟨v, s, e, q⟩ := h
  exact ⟨v, s, e, k _ _ q⟩
theorem wp_in {C : CallT} {d : Option Nat} {r : List II} {e : Env} {K : Env → St → Res} {x : Res} {Q : V → St → Prop}
    (h : WP x fun v s' => WP (goOps C r (put e d v) s' K) Q) : WP (contO C d r e K x) Q := by
  obtain ⟨v, s', rfl, h⟩ := h
  exact h
theorem wp_round {F : Nat → Option IFn} {a : IC} {e : Env} {s : St} {K : Kt} {Q : V → St → Prop}
    (h : ∀ LL : Env → St → Kt → Res, LL = loop F (.loop a) → WP (go (loop F) (call F) a e s (roundK LL K)) Q) : WP (loop F (.loop a) e s K) Q := by
  rw [loop, loop_eq F noY (.loop a)]; exact h _ rfl
theorem wp_roundY {F : Nat → Option IFn} {Y : Yt} {a : IC} {e : Env} {s : St} {K : Kt} {Q : V → St → Prop}
    (h : ∀ LL : Env → St → Kt → Res, LL = loopY F Y (.loop a) → WP (go (loopY F Y) (callY F Y) a e s (roundK LL K)) Q) : WP (loopY F Y (.loop a) e s K) Q := by
  rw [loop_eq F Y (.loop a)]; exact h _ rfl
theorem wp_range {F : Nat → Option IFn} {Y : Yt} {f : Arg} {ps : List Nat} {a b : IC} {e : Env} {s : St} {K : Kt} {Q : V → St → Prop} {g : Nat} {pre caps : List V} (hf : ev e f = .func g pre caps)
    (h : WP (callY F (withY Y s.next (roundI (loopY F Y, callY F Y) ps a b e s.next)) g (pre ++ [.func (yBase + s.next) [] []] ++ caps) (s.alloc (.loop .ready))) fun v s' => WP (rangeEnd s.next e K (v, s')) Q) (h0 : g < yBase := by decide) :
    WP (loopY F Y (.range f ps a b) e s K) Q := by
  obtain ⟨v, s', hc, h⟩ := h
  obtain ⟨u, s2, he, hq⟩ := h
  refine ⟨u, s2, ?_, hq⟩
  rw [range_eq, rangeI, hf]
  simp only [if_pos h0, hc, Option.bind_some, he]
theorem wp_yield {F : Nat → Option IFn} {Y : Yt} {k : Nat} {r : List V → St → Res} {args : List V} {s : St} {Q : V → St → Prop} (h : WP (r args s) Q) : WP (callY F (withY Y k r) (yBase + k) args s) Q := by
  rw [call_yield]
  unfold withY
  rw [if_pos rfl]
  exact h
theorem wp_callY {F : Nat → Option IFn} {Y : Yt} {f : Nat} {args : List V} {s : St} {Q : V → St → Prop} (h : WP (call F f args s) Q) : WP (callY F Y f args s) Q := by
  obtain ⟨v, s', hc, h⟩ := h
  exact ⟨v, s', callY_mono (Yle.no Y) _ _ _ _ hc, h⟩
theorem wp_res {f : Nat} {F : Nat → Option IFn} {args : List V} {s : St} {v : V} {s' : St} {Q : V → St → Prop} (h : call F f args s = some (v, s')) (q : Q v s') : WP (call F f args s) Q := ⟨_, _, h, q⟩

theorem new_alloc (s : St) (o : O) (k : Nat) : (s.alloc o).new k = if k = s.next then some o else s.new k := rfl
theorem new_set (s : St) (o : O) (j k : Nat) : (s.set j o).new k = if k = j then some o else s.new k := rfl
theorem lt_ne0 {k n : Nat} (h : k < n) : (k = n) = False := by simp; omega
theorem lt_ne1 {k n c : Nat} (h : k < n) : (k = n + c) = False := by simp; omega
theorem lt_ne0' {k n : Nat} (h : k < n) : (n = k) = False := by simp; omega
theorem lt_ne1' {k n c : Nat} (h : k < n) : (n + c = k) = False := by simp; omega
theorem add_ne (n c : Nat) : (n = n + (c + 1)) = False := by simp
theorem add_ne' (n c : Nat) : (n + (c + 1) = n) = False := by simp
theorem add_add_eq (n c d : Nat) : (n + c = n + d) = (c = d) := by simp
theorem add_add_lit (n c d : Nat) : n + c + d = n + (c + d) := Nat.add_assoc ..
def ldC (off : Nat) : Option O → Option V
  | some (.cells cs _) => cs[off]?
  | _ => none
theorem ldC_some (off : Nat) (cs : List V) (g : Option Nat) : ldC off (some (.cells cs g)) = cs[off]? := rfl
def ldN (n off : Nat) : Option O → Option V
  | some (.cells cs _) => (cut cs off n).map .agg
  | _ => none
theorem ldN_some (n off : Nat) (cs : List V) (g : Option Nat) : ldN n off (some (.cells cs g)) = (cut cs off n).map .agg := rfl
theorem cut_one' (cs : List V) (i : Nat) : (cut cs i 1).bind (packI none) = cs[i]? := by
  by_cases h : i < cs.length
  · rw [List.getElem?_eq_getElem h, cut_one (v := cs[i]) (by simp [h])]; rfl
  · rw [List.getElem?_eq_none (by omega)]
    simp [cut, show ¬ i + 1 ≤ cs.length by omega]
theorem ld_new (k off : Nat) (s : St) : loadV none (.ptr (some ⟨.new k, off⟩)) s = ldC off (s.new k) := by
  rw [loadV_ptr]
  show (readCells s ⟨.new k, off⟩ 1).bind (packI none) = _
  unfold readCells St.row St.get ldC
  show ((match match s.new k with | some (O.cells cs g) => some (cs, g) | x => none with | some (cs, _) => cut cs off 1 | none => none)).bind (packI none) = _
  cases s.new k with
  | none => rfl
  | some o => cases o with
    | cells cs g => exact cut_one' cs off
    | map es c => rfl
    | loop st => rfl
theorem ldn_new (n k off : Nat) (s : St) : loadV (some n) (.ptr (some ⟨.new k, off⟩)) s = ldN n off (s.new k) := by
  rw [loadV_ptr]
  show (readCells s ⟨.new k, off⟩ n).bind (packI (some n)) = _
  unfold readCells St.row St.get ldN
  show ((match match s.new k with | some (O.cells cs g) => some (cs, g) | x => none with | some (cs, _) => cut cs off n | none => none)).bind (packI (some n)) = _
  cases s.new k with
  | none => rfl
  | some o => cases o with
    | cells cs g => show (cut cs off n).bind _ = (cut cs off n).map _; cases cut cs off n <;> rfl
    | map es c => rfl
    | loop st => rfl
def stC (n k off : Nat) (v : V) (s : St) : Option O → Option St
  | some (.cells cs g) => if v.cells.length = n ∧ off + n ≤ cs.length ∧ v.cells.all V.one = true then some (s.set k (.cells (over cs off v.cells) g)) else none
  | _ => none
theorem st_new (n k off : Nat) (v : V) (s : St) : storeI n (.ptr (some ⟨.new k, off⟩)) v s = stC n k off v s (s.new k) := by
  simp only [storeI, writeCells, stC]
  cases s.new k with
  | none => simp
  | some o => cases o with
    | cells cs g =>
      by_cases h : v.cells.length = n
      · subst h; simp
      · simp [h]
    | map es c => simp
    | loop st => simp
theorem stC_some (n k off : Nat) (v : V) (s : St) (cs : List V) (g : Option Nat) : stC n k off v s (some (.cells cs g)) =
    if v.cells.length = n ∧ off + n ≤ cs.length ∧ v.cells.all V.one = true then some (s.set k (.cells (over cs off v.cells) g)) else none := rfl
theorem over_one (cs : List V) (i : Nat) (v : V) (h : i < cs.length) : over cs i [v] = cs.set i v := by
  unfold over
  rw [List.set_eq_take_append_cons_drop]
  simp [h]
def stC1 (k off : Nat) (v : List V) (s : St) : Option O → Option St
  | some (.cells cs g) => if v.length = 1 ∧ off < cs.length ∧ v.all V.one = true then some (s.set k (.cells (cs.set off (v.headD .any)) g)) else none
  | _ => none
theorem st_new1 (k off : Nat) (v : V) (s : St) : storeI 1 (.ptr (some ⟨.new k, off⟩)) v s = stC1 k off v.cells s (s.new k) := by
  rw [st_new]
  cases s.new k with
  | none => rfl
  | some o => cases o with
    | cells cs g =>
      simp only [stC, stC1]
      by_cases h1 : v.cells.length = 1
      · obtain ⟨x, hx⟩ := List.length_eq_one_iff.1 h1
        rw [hx]
        by_cases h2 : off < cs.length
        · rw [over_one _ _ _ h2]; simp [h2, show off + 1 ≤ cs.length by omega]
        · simp [h2, show ¬ off + 1 ≤ cs.length by omega]
      · simp [h1]
    | map es c => rfl
    | loop st => rfl
theorem stC1_some (k off : Nat) (v : V) (s : St) (cs : List V) (g : Option Nat) : stC1 k off [v] s (some (.cells cs g)) = if off < cs.length ∧ v.one = true then some (s.set k (.cells (cs.set off v) g)) else none := by
  simp [stC1]
theorem st_new2 (k off : Nat) (v : V) (s : St) : storeI 2 (.ptr (some ⟨.new k, off⟩)) v s = stC 2 k off v s (s.new k) := st_new ..
theorem st_new3 (k off : Nat) (v : V) (s : St) : storeI 3 (.ptr (some ⟨.new k, off⟩)) v s = stC 3 k off v s (s.new k) := st_new ..
theorem st_new4 (k off : Nat) (v : V) (s : St) : storeI 4 (.ptr (some ⟨.new k, off⟩)) v s = stC 4 k off v s (s.new k) := st_new ..
theorem st_new5 (k off : Nat) (v : V) (s : St) : storeI 5 (.ptr (some ⟨.new k, off⟩)) v s = stC 5 k off v s (s.new k) := st_new ..
theorem st_new11 (k off : Nat) (v : V) (s : St) : storeI 11 (.ptr (some ⟨.new k, off⟩)) v s = stC 11 k off v s (s.new k) := st_new ..
theorem zero_lt_succ' (n : Nat) : (0 < n + 1) = True := by simp
abbrev I (n : Int) : V := .int .i64 n
theorem cells_int (k : IntKind) (n : Int) : (V.int k n).cells = [.int k n] := rfl
theorem cells_bool (b : Bool) : (V.bool b).cells = [.bool b] := rfl
theorem cells_str (b : ByteArray) : (V.str b).cells = [.str b] := rfl
theorem cells_ptr (a : Option Ad) : (V.ptr a).cells = [.ptr a] := rfl
theorem cells_slice (a : Option Ad) (n : Nat) (c : Option Nat) : (V.slice a n c).cells = [.slice a n c] := rfl
theorem cells_map (a : Option Id) : (V.map a).cells = [.map a] := rfl
theorem cells_func (f : Nat) (p c : List V) : (V.func f p c).cells = [.func f p c] := rfl
theorem cells_nilFunc : V.nilFunc.cells = [.nilFunc] := rfl
theorem cells_agg (l : List V) : (V.agg l).cells = l := rfl
theorem one_int (k : IntKind) (n : Int) : (V.int k n).one = true := rfl
theorem one_bool (b : Bool) : (V.bool b).one = true := rfl
theorem one_str (b : ByteArray) : (V.str b).one = true := rfl
theorem one_ptr (a : Option Ad) : (V.ptr a).one = true := rfl
theorem one_slice (a : Option Ad) (n : Nat) (c : Option Nat) : (V.slice a n c).one = true := rfl
theorem one_map (a : Option Id) : (V.map a).one = true := rfl
theorem one_func (f : Nat) (p c : List V) : (V.func f p c).one = true := rfl
theorem one_nilFunc : V.nilFunc.one = true := rfl
theorem wrap_add1 {a : Nat} (h : a < 2 ^ 62) : wrapI .i64 ((a : Int) + 1) = I ((a + 1 : Nat) : Int) := by rw [wrap64 (by omega) (by omega)]; rfl
theorem wrap_sub1 {a : Nat} (h : a < 2 ^ 62) (h1 : 0 < a) : wrapI .i64 ((a : Int) - 1) = I ((a - 1 : Nat) : Int) := by
  rw [wrap64 (by omega) (by omega)]; show V.int _ _ = V.int _ _; congr 1; omega
theorem wrap_add {a b : Nat} (h : a < 2 ^ 62) (h' : b < 2 ^ 62) : wrapI .i64 ((a : Int) + (b : Int)) = I ((a + b : Nat) : Int) := by rw [wrap64 (by omega) (by omega)]; rfl
theorem wrap_nat {n : Int} {a : Nat} (e : n = a) (h : a < 2 ^ 62) : wrapI .i64 n = I (a : Int) := by rw [wrap64 (by omega) (by omega), e]
def rowV (k n : Nat) : V := if n = 0 then .slice none 0 (some 0) else .slice (some ⟨.new k, 0⟩) n none
def rowO (sz n : Nat) (cs : List V) : Option O := if n = 0 then none else some (.cells cs (some sz))
@[simp] theorem rowV_zero (k : Nat) : rowV k 0 = .slice none 0 (some 0) := rfl
@[simp] theorem rowV_succ (k n : Nat) : rowV k (n + 1) = .slice (some ⟨.new k, 0⟩) (n + 1) none := rfl
@[simp] theorem rowO_zero (sz : Nat) (cs : List V) : rowO sz 0 cs = none := rfl
@[simp] theorem rowO_succ (sz n : Nat) (cs : List V) : rowO sz (n + 1) cs = some (.cells cs (some sz)) := rfl
theorem rowV_cells (k n : Nat) : (rowV k n).cells = [rowV k n] := by cases n <;> rfl
theorem rowV_one (k n : Nat) : (rowV k n).one = true := by cases n <;> rfl
theorem rowV_len (k n : Nat) : lenV (rowV k n) = some (.int .i64 n) := by cases n <;> rfl
theorem rowV_pos {k n : Nat} (h : 0 < n) : rowV k n = .slice (some ⟨.new k, 0⟩) n none := by cases n; omega; rfl
theorem rowO_pos {sz n : Nat} {cs : List V} (h : 0 < n) : rowO sz n cs = some (.cells cs (some sz)) := by cases n; omega; rfl
def pgV (k n : Nat) : V := if n = 0 then (if k = 0 then .slice none 0 (some 0) else .slice (some ⟨.new (k - 1), 0⟩) 0 (some 0)) else rowV k n
theorem pgV_cells (k n : Nat) : (pgV k n).cells = [pgV k n] := by unfold pgV; split; · split <;> rfl
                                                                  · exact rowV_cells ..
theorem pgV_one (k n : Nat) : (pgV k n).one = true := by unfold pgV; split; · split <;> rfl
                                                         · exact rowV_one ..
theorem pgV_len (k n : Nat) : lenV (pgV k n) = some (.int .i64 n) := by
  unfold pgV; split
  · rename_i h; subst h; split <;> rfl
  · exact rowV_len ..
theorem pgV_pos {k n : Nat} (h : 0 < n) : pgV k n = rowV k n := if_neg (by omega)
theorem pgV_none (k : Nat) {n : Nat} (h : n = 0 → k = 0) : pgV k n = rowV k n := by
  unfold pgV; split
  · rename_i h0; subst h0; rw [if_pos (h rfl)]; rfl
  · rfl
theorem pgV_succ (k n : Nat) : pgV k (n + 1) = rowV k (n + 1) := pgV_pos (by omega)
theorem pgV_zero : pgV 0 0 = .slice none 0 (some 0) := rfl
def cV (gr : Bool) (k n : Nat) : V := if gr then .slice (some ⟨.new k, 0⟩) n none else .slice (some ⟨.new k, 0⟩) n (some n)
def cG (gr : Bool) (sz : Nat) : Option Nat := if gr then some sz else none
theorem cV_ff (k n : Nat) : cV false k n = .slice (some ⟨.new k, 0⟩) n (some n) := rfl
theorem cG_ff (sz : Nat) : cG false sz = none := rfl
theorem cV_cells (gr : Bool) (k n : Nat) : (cV gr k n).cells = [cV gr k n] := by cases gr <;> rfl
theorem cV_one (gr : Bool) (k n : Nat) : (cV gr k n).one = true := by cases gr <;> rfl
theorem cV_len (gr : Bool) (k n : Nat) : lenV (cV gr k n) = some (.int .i64 n) := by cases gr <;> rfl
theorem againV_row (k n : Nat) (s : St) : againV (rowV k n) (rowV k n) s = some (.any, s) := by cases n <;> simp [rowV, againV, beqV]
theorem againV_cV (gr : Bool) (k n : Nat) (s : St) : againV (cV gr k n) (cV gr k n) s = some (.any, s) := by cases gr <;> simp [cV, againV, beqV]
theorem againV_pg (k n : Nat) (s : St) : againV (pgV k n) (pgV k n) s = some (.any, s) := by
  unfold pgV; split
  · split <;> simp [againV, beqV]
  · exact againV_row ..
theorem new_cells {s : St} {sz t m : Nat} {cp : Option Nat} {new : List V} {g : Option Nat} (h : s.new t = some (.cells new g)) (hm : m * sz ≤ new.length) :
    newCells s sz (.slice (some ⟨.new t, 0⟩) m cp) = some (new.take (m * sz), m) := by
  by_cases h0 : m = 0
  · subst h0; simp [newCells]
  · simp [newCells, readCells_new h, cut, hm, h0]
theorem new_cells' {s : St} {sz t m : Nat} {cp : Option Nat} {new : List V} {g : Option Nat} (h : s.new t = some (.cells new g)) (hm : new.length = m * sz) :
    newCells s sz (.slice (some ⟨.new t, 0⟩) m cp) = some (new, m) := by
  rw [new_cells h (by omega), List.take_of_length_le (by omega)]
theorem new_row {s : St} {sz t m : Nat} {new : List V} (h : m = 0 ∨ s.new t = some (.cells new (some sz))) (hm : new.length = m * sz) :
    newCells s sz (rowV t m) = some (new, m) := by
  cases m with
  | zero => simp at hm; subst hm; rfl
  | succ m => rcases h with h | h; omega; exact new_cells' h hm
theorem wp_append {C : CallT} {d : Option Nat} {r : List II} {e : Env} {K : Env → St → Res} {Q : V → St → Prop} {o : Nat → Option O} {s : St} {F : Ch} {sz bytes k n m : Nat} {cs new : List V} {y : V}
    (h : Holds o s ((k, rowO sz n cs) :: F)) (hl : cs.length = n * sz) (hy : newCells s sz y = some (new, m)) (hn : new.length = m * sz) (hone : new.all V.one = true) (hsz : 0 < sz)
    (hb : (n + m) * bytes ≤ maxRow) (hb' : n + m ≤ maxRow)
    (q : ∀ k' s', Holds o s' ((k', rowO sz (n + m) (cs ++ new)) :: F) → WP (goOps C r (put e d (rowV k' (n + m))) s' K) Q) :
    WP (contO C d r e K (appendI sz bytes (rowV k n) y s)) Q := by
  by_cases hm : m = 0
  · subst hm
    have hnew : new = [] := by simpa using hn
    subst hnew
    have e1 : appendI sz bytes (rowV k n) y s = some (rowV k n, s) := by
      unfold appendI; rw [hy]; cases n <;> simp [rowV]
    rw [e1]
    exact q k s (by simpa using h)
  · cases n with
    | zero =>
      have hcs : cs = [] := by simpa using hl
      subst hcs
      have e1 : appendI sz bytes (rowV k 0) y s = some (rowV s.next m, s.alloc (.cells new (some sz))) := by
        unfold appendI; rw [hy]
        simp only [rowV_zero, Option.bind_some, hm, if_false]
        rw [if_pos ⟨by simpa using hb, by simpa using hb', hsz⟩, rowV_pos (by omega)]
      rw [e1]
      have := q s.next (s.alloc (.cells new (some sz))) (by
        rw [Nat.zero_add, rowO_pos (by omega)]; exact h.tl.alloc _)
      rw [Nat.zero_add] at this
      exact this
    | succ n =>
      rw [rowO_succ] at h
      have e1 : appendI sz bytes (rowV k (n + 1)) y s = some (rowV s.next (n + 1 + m), (s.kill k).alloc (.cells (cs ++ new) (some sz))) := by
        unfold appendI; rw [hy]
        have h1 : ¬ ((n + 1 + m) * sz ≤ cs.length) := by
          rw [hl]
          have : (n + 1) * sz < (n + 1 + m) * sz := Nat.mul_lt_mul_of_pos_right (by omega) hsz
          omega
        simp only [rowV_succ, Option.bind_some, hm, if_false, h.g0]
        rw [if_neg (fun h2 => h1 h2.2.2.2), if_pos (by simp only [true_and]; exact ⟨hl.symm, hb, hb', hone⟩), rowV_pos (by omega)]
      rw [e1]
      exact q _ _ (by rw [rowO_pos (by omega)]; exact h.kill.alloc _)
theorem tab_len {α : Type} {enc : α → List V} {sz : Nat} (he : ∀ x, (enc x).length = sz) : ∀ l : List α, (l.flatMap enc).length = l.length * sz
  | [] => by simp
  | x :: l => by simp [List.flatMap_cons, he, tab_len he l, Nat.add_mul]; omega
theorem tab_drop {α : Type} {enc : α → List V} {sz : Nat} (he : ∀ x, (enc x).length = sz) (sl : List V) : ∀ (l : List α) (i : Nat), i ≤ l.length → (l.flatMap enc ++ sl).drop (i * sz) = (l.drop i).flatMap enc ++ sl
  | l, 0, _ => by simp
  | [], i + 1, h => by simp at h
  | x :: l, i + 1, h => by
    have : (i + 1) * sz = (enc x).length + i * sz := by rw [he, Nat.add_mul]; omega
    rw [List.flatMap_cons, List.append_assoc, this, ← List.drop_drop, List.drop_left, List.drop_succ_cons, tab_drop he sl l i (by simpa using h)]
theorem tab_cut {α : Type} {enc : α → List V} {sz : Nat} (he : ∀ x, (enc x).length = sz) (l : List α) (sl : List V) {i : Nat} {x : α} (h : l[i]? = some x) : cut (l.flatMap enc ++ sl) (i * sz) sz = some (enc x) := by
  have hi : i < l.length := (List.getElem?_eq_some_iff.1 h).1
  have hx : l[i] = x := (List.getElem?_eq_some_iff.1 h).2
  have hle : i * sz + sz ≤ (l.flatMap enc ++ sl).length := by
    rw [List.length_append, tab_len he]
    have : (i + 1) * sz ≤ l.length * sz := Nat.mul_le_mul_right _ hi
    rw [Nat.add_mul] at this; omega
  unfold cut
  rw [if_pos hle, tab_drop he sl l i (by omega), List.drop_eq_getElem_cons hi, List.flatMap_cons, hx, List.append_assoc, List.take_append_of_le_length (by rw [he]; omega), List.take_of_length_le (by rw [he]; omega)]
theorem tab_get {α : Type} {enc : α → List V} {sz : Nat} (he : ∀ x, (enc x).length = sz) (l : List α) (sl : List V) {i f : Nat} {x : α} (h : l[i]? = some x) (hf : f < sz) : (l.flatMap enc ++ sl)[i * sz + f]? = (enc x)[f]? := by
  have hi : i < l.length := (List.getElem?_eq_some_iff.1 h).1
  have hx : l[i] = x := (List.getElem?_eq_some_iff.1 h).2
  have e : (l.flatMap enc ++ sl)[i * sz + f]? = ((l.flatMap enc ++ sl).drop (i * sz))[f]? := by rw [List.getElem?_drop]
  rw [e, tab_drop he sl l i (by omega), List.drop_eq_getElem_cons hi, List.flatMap_cons, hx, List.append_assoc, List.getElem?_append_left (by rw [he]; exact hf)]
theorem tab_set {α : Type} {enc : α → List V} {sz : Nat} (he : ∀ x, (enc x).length = sz) (sl : List V) (y : α) : ∀ (l : List α) (i f : Nat) (vs : List V) (x : α), l[i]? = some x → f + vs.length ≤ sz → over (enc x) f vs = enc y →
    over (l.flatMap enc ++ sl) (i * sz + f) vs = (l.set i y).flatMap enc ++ sl
  | [], i, f, vs, x, h, _, _ => by simp at h
  | z :: l, 0, f, vs, x, h, hf, ho => by
    simp at h; subst h
    rw [List.set_cons_zero, List.flatMap_cons, List.flatMap_cons, ← ho]
    have hz := he z
    unfold over
    simp only [Nat.zero_mul, Nat.zero_add, List.append_assoc]
    rw [List.take_append_of_le_length (by omega), List.drop_append_of_le_length (by omega)]
  | z :: l, i + 1, f, vs, x, h, hf, ho => by
    have ih := tab_set he sl y l i f vs x (by simpa using h) hf ho
    have hz := he z
    rw [List.set_cons_succ, List.flatMap_cons, List.flatMap_cons, List.append_assoc, List.append_assoc, ← ih]
    unfold over
    have e1 : (i + 1) * sz + f = (enc z).length + (i * sz + f) := by rw [hz, Nat.add_mul]; omega
    rw [e1, List.take_length_add_append, Nat.add_assoc, List.drop_length_add_append]
    simp only [List.append_assoc]
def KeyOk {α : Type} [DecidableEq α] (kt : KT) (enc : α → V) : Prop := ∀ a b, keyEq kt (enc a) (enc b) = some (decide (a = b))
def MapIs {α : Type} [DecidableEq α] (enc : α → V) (f : α → Option V) (x : O) : Prop :=
  ∃ (l : List (α × V × Nat)) (c : Nat), x = .map (l.map fun e => (enc e.1, e.2.1, e.2.2)) c ∧ ∀ a, (l.find? fun e => decide (e.1 = a)).map (·.2.1) = f a
section
variable {α : Type} [DecidableEq α] {kt : KT} {enc : α → V} {f : α → Option V} {x : O} {s : St} {k : Nat}
theorem mapIs_nil : MapIs enc (fun _ => none) (.map [] 0) := ⟨[], 0, rfl, fun _ => rfl⟩
theorem findI_tab (hk : KeyOk kt enc) (a : α) : ∀ (l : List (α × V × Nat)) (i : Nat), findI kt (enc a) (l.map fun e => (enc e.1, e.2.1, e.2.2)) i =
    some (match l.findIdx? (fun e => decide (e.1 = a)) with | some j => (l[j]?).map fun e => (i + j, e.2.1) | none => none)
  | [], i => rfl
  | e :: l, i => by
    simp only [List.map_cons, findI, hk a e.1, Option.bind_some, List.findIdx?_cons]
    by_cases h : a = e.1
    · simp [h]
    · rw [findI_tab hk a l (i + 1)]
      have h' : ¬ e.1 = a := fun x => h x.symm
      simp only [h, h', decide_false, Bool.false_eq_true, if_false]
      cases List.findIdx? (fun e => decide (e.1 = a)) l with
      | none => rfl
      | some j => simp [Nat.add_assoc, Nat.add_comm 1]
theorem find_idx {β : Type} (p : β → Bool) : ∀ l : List β, l.find? p = (l.findIdx? p).bind fun j => l[j]?
  | [] => rfl
  | x :: l => by
    simp only [List.find?_cons, List.findIdx?_cons]
    cases h : p x with
    | true => simp
    | false => rw [find_idx p l]; cases List.findIdx? p l <;> simp
theorem lookup_map (hk : KeyOk kt enc) (hx : MapIs enc f x) (h : s.new k = some x) (z : V) (ok : Bool) (a : α) :
    lookupI kt z ok (.map (some (.new k))) (enc a) s = some (if ok then .tuple [(f a).getD z, .bool (f a).isSome] else (f a).getD z) := by
  obtain ⟨l, c, rfl, hf⟩ := hx
  have e := findI_tab hk a l 0
  rw [← hf a, find_idx]
  simp only [lookupI, St.get, h, Option.bind_some, hk a a, decide_true, Option.isNone_some, Bool.false_eq_true, if_false, e]
  cases hi : List.findIdx? (fun e => decide (e.1 = a)) l with
  | none => simp
  | some j =>
    have hj := (List.findIdx?_eq_some_iff_findIdx_eq.1 hi).1
    simp [hj]
theorem mapSet_map (hk : KeyOk kt enc) (hx : MapIs enc f x) (h : s.new k = some x) (a : α) (v : V) :
    ∃ x', mapSetI kt (.map (some (.new k))) (enc a) v s = some (s.set k x') ∧ MapIs enc (fun b => if b = a then some v else f b) x' := by
  obtain ⟨l, c, rfl, hf⟩ := hx
  have e := findI_tab hk a l 0
  cases hi : List.findIdx? (fun e => decide (e.1 = a)) l with
  | none =>
    rw [hi] at e
    refine ⟨_, by simp only [mapSetI, h, hk a a, decide_true, Option.isNone_some, Bool.false_eq_true, if_false, e, Option.map_some]; rfl, l ++ [(a, v, c)], c + 1, by simp, fun b => ?_⟩
    show _ = if b = a then some v else f b
    rw [← hf b]
    by_cases hb : b = a
    · subst hb
      have : l.find? (fun e => decide (e.1 = b)) = none := by rw [find_idx, hi]; rfl
      simp [List.find?_append, this]
    · have : ¬ a = b := fun x => hb x.symm
      simp [List.find?_append, hb, this]
  | some j =>
    have hj := (List.findIdx?_eq_some_iff_findIdx_eq.1 hi).1
    rw [hi] at e
    simp only [List.getElem?_eq_getElem hj, Option.map_some, Nat.zero_add] at e
    refine ⟨_, by simp only [mapSetI, h, hk a a, decide_true, Option.isNone_some, Bool.false_eq_true, if_false, e, Option.map_some]; rfl, l.modify j (fun q => (a, v, q.2.2)), c, ?_, fun b => ?_⟩
    · congr 1
      apply List.ext_getElem?
      intro i
      simp only [List.getElem?_modify, List.getElem?_map]
      split <;> cases l[i]? <;> simp
    · show _ = if b = a then some v else f b
      rw [← hf b]
      have hja : l[j].1 = a := by simpa using (List.findIdx?_eq_some_iff_getElem.1 hi).2.1
      have hmin : ∀ i, (h : i < j) → ¬ l[i].1 = a := fun i h => by simpa using (List.findIdx?_eq_some_iff_getElem.1 hi).2.2 i h
      have hsplit : l.modify j (fun q => (a, v, q.2.2)) = l.take j ++ (a, v, l[j].2.2) :: l.drop (j + 1) := by
        rw [List.modify_eq_take_cons_drop hj]
      have hl : l = l.take j ++ l[j] :: l.drop (j + 1) := by rw [← List.drop_eq_getElem_cons hj, List.take_append_drop]
      rw [hsplit]
      conv => rhs; rw [hl]
      rw [List.find?_append, List.find?_append]
      by_cases hb : b = a
      · subst hb
        have : (l.take j).find? (fun e => decide (e.1 = b)) = none := by
          rw [List.find?_eq_none]
          intro q hq
          obtain ⟨i, hi', rfl⟩ := List.mem_iff_getElem.1 hq
          simp at hi'
          simpa using hmin i (by omega)
        simp [this]
      · have h1 : ¬ a = b := fun x => hb x.symm
        have h2 : ¬ l[j].1 = b := by rw [hja]; exact h1
        simp only [List.find?_cons, h1, h2, decide_false, hb, if_false]
end
theorem keyOk_int : KeyOk (.one .i) (fun n : Int => V.int .i64 n) := fun a b => by
  simp only [keyEq, cellEq, if_true]; congr 1
theorem ix_row {sz k n i : Nat} {kk : IntKind} (h : i < n) : ixV sz (rowV k n) (.int kk (i : Int)) = some (.ptr (some ⟨.new k, i * sz⟩)) := by
  rw [rowV_pos (by omega), ix_cell h, Nat.zero_add]
theorem ix_cV {gr : Bool} {sz k n i : Nat} {kk : IntKind} (h : i < n) : ixV sz (cV gr k n) (.int kk (i : Int)) = some (.ptr (some ⟨.new k, i * sz⟩)) := by
  cases gr
  · rw [cV_ff, ix_cell h, Nat.zero_add]
  · show ixV sz (.slice (some ⟨.new k, 0⟩) n none) _ = _
    rw [ix_cell h, Nat.zero_add]
theorem ix_pg {sz k n i : Nat} {kk : IntKind} (h : i < n) : ixV sz (pgV k n) (.int kk (i : Int)) = some (.ptr (some ⟨.new k, i * sz⟩)) := by
  rw [pgV_pos (by omega)]; exact ix_row h
theorem wp_append1 {C : CallT} {d : Option Nat} {r : List II} {e : Env} {K : Env → St → Res} {Q : V → St → Prop} {o : Nat → Option O} {s : St} {F : Ch} {sz bytes k n : Nat} {cs sl new : List V} {y : V}
    (h : Holds o s ((k, rowO sz n (cs ++ sl)) :: F)) (hl : cs.length = n * sz) (hsl : ∃ j, sl.length = j * sz) (h0 : n = 0 → sl = []) (hy : newCells s sz y = some (new, 1)) (hn : new.length = sz) (hone : new.all V.one = true) (hsz : 0 < sz)
    (hb : (n + 1) * bytes ≤ maxRow) (hb' : n + 1 ≤ maxRow)
    (q : ∀ k' s' sl', (∃ j, sl'.length = j * sz) → Holds o s' ((k', rowO sz (n + 1) ((cs ++ new) ++ sl')) :: F) → WP (goOps C r (put e d (rowV k' (n + 1))) s' K) Q) :
    WP (contO C d r e K (appendI sz bytes (rowV k n) y s)) Q := by
  obtain ⟨j, hj⟩ := hsl
  by_cases hs : sl = []
  · subst hs
    rw [List.append_nil] at h
    exact wp_append h hl hy (by omega) hone hsz hb hb' fun k' s' h' => q k' s' [] ⟨0, by simp⟩ (by rw [List.append_nil]; exact h')
  · have hn0 : 0 < n := by
      rcases Nat.eq_zero_or_pos n with h1 | h1
      · exact absurd (h0 h1) hs
      · exact h1
    have hj1 : sz ≤ sl.length := by
      rw [hj]
      have : 0 < j := by
        rcases Nat.eq_zero_or_pos j with h1 | h1
        · rw [h1] at hj; simp at hj; exact absurd hj hs
        · exact h1
      exact Nat.le_mul_of_pos_left _ this
    rw [rowO_pos hn0] at h
    have hin : (n + 1) * sz ≤ (cs ++ sl).length := by rw [List.length_append, hl, Nat.add_mul]; omega
    have hw := writeCells_new (s := s) (off := n * sz) (vs := new) h.g0 (by rw [hn, ← Nat.succ_mul]; exact hin) hone
    have ho : over (cs ++ sl) (n * sz) new = (cs ++ new) ++ sl.drop sz := by
      unfold over
      rw [← hl, List.take_left, ← hn, List.drop_length_add_append]
    have e1 : appendI sz bytes (rowV k n) y s = some (rowV k (n + 1), s.set k (.cells (cs ++ new ++ sl.drop sz) (some sz))) := by
      unfold appendI; rw [hy, rowV_pos hn0]
      simp only [Option.bind_some, Nat.one_ne_zero, if_false, h.g0]
      rw [if_pos (by simp only [true_and]; exact ⟨hn0, hin⟩), hw, ho, rowV_pos (by omega)]
      rfl
    rw [e1]
    refine q k _ _ ⟨j - 1, ?_⟩ (by rw [rowO_pos (by omega)]; exact h.set0 _)
    rw [List.length_drop, hj, Nat.sub_mul, Nat.one_mul]
end Go.IM
namespace Go.IM
theorem Holds.mem {o : Nat → Option O} {s : St} {C : Ch} {k : Nat} {x : O} (h : Holds o s C) (m : (k, some x) ∈ C) : s.new k = some x ∧ k < s.next := ⟨h.at_ k x m, h.lt k (Holds.ids_mem.2 ⟨x, m⟩)⟩
end Go.IM
namespace Go.IM
def Ch.cnt (C : Ch) (k : Nat) : Nat := C.ids.count k
def cnt1 (j : Nat) (y : Bool) (k : Nat) : Nat := if y ∧ j = k then 1 else 0
theorem cnt_nil (k : Nat) : Ch.cnt [] k = 0 := rfl
theorem cnt_cons (j : Nat) (y : Option O) (C : Ch) (k : Nat) : Ch.cnt ((j, y) :: C) k = cnt1 j y.isSome k + Ch.cnt C k := by
  cases y with
  | none => simp [Ch.cnt, cnt1]
  | some x =>
    simp only [Ch.cnt, Holds.ids_some, List.count_cons, cnt1, Option.isSome_some, true_and]
    by_cases h : j = k <;> simp [h] <;> omega
theorem cnt_append (C D : Ch) (k : Nat) : Ch.cnt (C ++ D) k = Ch.cnt C k + Ch.cnt D k := by simp [Ch.cnt, List.count_append]
theorem cnt1_ff (j k : Nat) : cnt1 j false k = 0 := by simp [cnt1]
theorem mem_some_none (k j : Nat) (x : O) : ((k, some x) = (j, none)) = False := by simp
theorem Holds.of {o : Nat → Option O} {s : St} {C D : Ch} (h : Holds o s C) (hc : ∀ k, D.cnt k ≤ C.cnt k) (hm : ∀ k x, (k, some x) ∈ D → (k, some x) ∈ C) : Holds o s D where
  old := h.old
  nodup := List.nodup_iff_count.2 fun k => Nat.le_trans (hc k) (List.nodup_iff_count.1 h.nodup k)
  at_ := fun k x m => h.at_ k x (hm k x m)
  lt := fun k m => by
    obtain ⟨x, hx⟩ := Holds.ids_mem.1 m
    exact h.lt k (Holds.ids_mem.2 ⟨x, hm k x hx⟩)
end Go.IM
namespace Go.IM
theorem slice_row {sz k n m : Nat} {kk : IntKind} (h : 0 < m) (h' : m ≤ n) : sliceI sz (rowV k n) none (some (.int kk (m : Int))) none = some (rowV k m) := by
  rw [rowV_pos (by omega), rowV_pos h]
  simp [sliceI, asNat, h']
end Go.IM
namespace Go.IM
theorem wp_mapSet {C : CallT} {d : Option Nat} {r : List II} {e : Env} {K : Env → St → Res} {Q : V → St → Prop} {s : St} {k : Nat} {α : Type} [DecidableEq α] {kt : KT} {enc : α → V} {f : α → Option V} {x : O} {a : α} {v : V}
    (hk : KeyOk kt enc) (hx : MapIs enc f x) (h : s.new k = some x)
    (q : ∀ x', MapIs enc (fun b => if b = a then some v else f b) x' → WP (goOps C r (put e d .any) (s.set k x') K) Q) :
    WP (contO C d r e K ((mapSetI kt (.map (some (.new k))) (enc a) v s).map fun s1 => (.any, s1))) Q := by
  obtain ⟨x', e1, hm⟩ := mapSet_map hk hx h a v
  rw [e1]
  exact q x' hm
end Go.IM
namespace Go.IM
theorem ldN_cons (n off : Nat) (c : V) (l : List V) (g : Option Nat) : ldN n off (some (.cells (c :: l) g)) = if off + n ≤ (c :: l).length then some (.agg (((c :: l).drop off).take n)) else none := by
  simp only [ldN, cut]; split <;> rfl
end Go.IM
namespace Go.IM
theorem stC_cons (n k off : Nat) (v : V) (s : St) (c : V) (cs : List V) (g : Option Nat) : stC n k off v s (some (.cells (c :: cs) g)) =
    if v.cells.length = n ∧ off + n ≤ (c :: cs).length ∧ v.cells.all V.one = true then some (s.set k (.cells (over (c :: cs) off v.cells) g)) else none := rfl
theorem ldN_tab {α : Type} {enc : α → List V} {sz : Nat} (he : ∀ x, (enc x).length = sz) (l : List α) (g : Option Nat) {i : Nat} {x : α} (h : l[i]? = some x) : ldN sz (i * sz) (some (.cells (l.flatMap enc) g)) = some (.agg (enc x)) := by
  have := tab_cut he l [] h
  rw [List.append_nil] at this
  rw [ldN_some, this]; rfl
theorem stC_tab {α : Type} {enc : α → List V} {sz : Nat} (he : ∀ x, (enc x).length = sz) (h1 : ∀ x, (enc x).all V.one = true) (l : List α) (g : Option Nat) {i : Nat} (h : i < l.length) (y : α) (k : Nat) (s : St) :
    stC sz k (i * sz) (.agg (enc y)) s (some (.cells (l.flatMap enc) g)) = some (s.set k (.cells ((l.set i y).flatMap enc) g)) := by
  have h2 := tab_set he [] y l i 0 (enc y) l[i] (by simp [h]) (by rw [he]; omega) (by
    unfold over
    have := he y; have := he l[i]
    simp only [List.take_zero, List.nil_append, Nat.zero_add]
    rw [List.drop_eq_nil_of_le (by omega), List.append_nil])
  simp only [List.append_nil, Nat.add_zero] at h2
  have hle : i * sz + sz ≤ (l.flatMap enc).length := by
    rw [tab_len he]
    have : (i + 1) * sz ≤ l.length * sz := Nat.mul_le_mul_right _ h
    rw [Nat.add_mul] at this; omega
  rw [stC_some, cells_agg, if_pos ⟨he y, hle, h1 y⟩, h2]
end Go.IM
namespace Go.IM
theorem eqI_row (k n : Nat) : eqI .slice (rowV k n) (.slice none 0 (some 0)) = some (decide (n = 0)) := by cases n <;> simp [rowV, eqI]
theorem wp_append0 {C : CallT} {d : Option Nat} {r : List II} {e : Env} {K : Env → St → Res} {Q : V → St → Prop} {o : Nat → Option O} {s : St} {F : Ch} {sz bytes t m : Nat} {g : Option Nat} {new : List V} {y : V}
    (h : Holds o s ((t, some (.cells [] g)) :: F)) (hy : newCells s sz y = some (new, m)) (hm : 0 < m) (hsz : 0 < sz) (hb : m * bytes ≤ maxRow) (hb' : m ≤ maxRow)
    (q : ∀ k s', Holds o s' ((k, some (.cells new (some sz))) :: F) → WP (goOps C r (put e d (rowV k m)) s' K) Q) :
    WP (contO C d r e K (appendI sz bytes (.slice (some ⟨.new t, 0⟩) 0 (some 0)) y s)) Q := by
  have e1 : appendI sz bytes (.slice (some ⟨.new t, 0⟩) 0 (some 0)) y s = some (rowV s.next m, s.alloc (.cells new (some sz))) := by
    unfold appendI; rw [hy]
    have h0 : ¬ m = 0 := by omega
    have h1 : ¬ (0 + m ≤ 0) := by omega
    simp only [Option.bind_some, h0, if_false, h1]
    rw [if_pos ⟨by rw [Nat.zero_add]; exact hb, by omega, hsz⟩, Nat.zero_mul, readCells_new h.g0]
    simp [cut, rowV_pos hm]
  rw [e1]
  exact q _ _ (h.tl.alloc _)
end Go.IM
namespace Go.IM
theorem againV_pair (k k' : IntKind) (a b : Int) (s : St) : againV (.agg [.int k a, .int k' b]) (.agg [.int k a, .int k' b]) s = some (.any, s) := by simp [againV, beqV, beqVs]
end Go.IM
namespace Go.IM
theorem wp_append_cap {C : CallT} {d : Option Nat} {r : List II} {e : Env} {K : Env → St → Res} {Q : V → St → Prop} {o : Nat → Option O} {s : St} {F : Ch} {sz bytes k n m : Nat} {g : Option Nat} {cs new : List V} {y : V}
    (h : Holds o s ((k, some (.cells cs g)) :: F)) (hl : cs.length = n * sz) (hy : newCells s sz y = some (new, m)) (hm : 0 < m) (hsz : 0 < sz)
    (hb : (n + m) * bytes ≤ maxRow) (hb' : n + m ≤ maxRow)
    (q : ∀ k' s', Holds o s' ((k', some (.cells (cs ++ new) (some sz))) :: F) → WP (goOps C r (put e d (rowV k' (n + m))) s' K) Q) :
    WP (contO C d r e K (appendI sz bytes (.slice (some ⟨.new k, 0⟩) n (some n)) y s)) Q := by
  have e1 : appendI sz bytes (.slice (some ⟨.new k, 0⟩) n (some n)) y s = some (rowV s.next (n + m), s.alloc (.cells (cs ++ new) (some sz))) := by
    unfold appendI; rw [hy]
    have h0 : ¬ m = 0 := by omega
    have h1 : ¬ (n + m ≤ n) := by omega
    simp only [Option.bind_some, h0, if_false, h1]
    rw [if_pos ⟨hb, hb', hsz⟩, readCells_new h.g0]
    simp [cut, hl, rowV_pos (show 0 < n + m by omega)]
    rw [← hl, List.take_length]
  rw [e1]
  exact q _ _ ((h.alloc _).r1.tl)
end Go.IM
namespace Go.IM
end Go.IM
namespace Go.IM
theorem cnt_sublist {C D : Ch} (h : C.Sublist D) (k : Nat) : C.cnt k ≤ D.cnt k := (h.filterMap _).count_le k
theorem flatMap_sublist {α β : Type} (f : α → List β) {l l' : List α} (h : l.Sublist l') : (l.flatMap f).Sublist (l'.flatMap f) := by
  induction h with
  | slnil => exact List.Sublist.slnil
  | cons a _ ih => exact ih.trans (by rw [List.flatMap_cons]; exact List.sublist_append_right _ _)
  | cons_cons a _ ih => rw [List.flatMap_cons, List.flatMap_cons]; exact (List.Sublist.refl _).append ih
theorem Holds.subl {o : Nat → Option O} {s : St} {X Y F : Ch} (h : Holds o s (X ++ F)) (hs : Y.Sublist X) : Holds o s (Y ++ F) := by
  refine h.of (fun k => ?_) fun k x m => ?_
  · have := cnt_sublist hs k; simp only [cnt_append]; omega
  · simp only [List.mem_append] at m ⊢
    exact m.imp (fun m => hs.subset m) id
end Go.IM
namespace Go.IM
def SlAt (C : Ch) (v : V) (n : Nat) (cs : List V) : Prop := (n = 0 ∧ ∃ a c, v = .slice a 0 c) ∨ (0 < n ∧ ∃ k c g, v = .slice (some ⟨.new k, 0⟩) n c ∧ (k, some (.cells cs g)) ∈ C)
theorem SlAt.row {C : Ch} {k sz n : Nat} {cs : List V} (m : (k, rowO sz n cs) ∈ C) : SlAt C (rowV k n) n cs := by
  cases n with
  | zero => exact .inl ⟨rfl, none, some 0, rfl⟩
  | succ n => exact .inr ⟨by omega, k, none, some sz, rfl, m⟩
theorem SlAt.len {C : Ch} {v : V} {n : Nat} {cs : List V} (h : SlAt C v n cs) : lenV v = some (.int .i64 n) := by
  rcases h with ⟨rfl, a, c, rfl⟩ | ⟨_, k, c, g, rfl, _⟩ <;> rfl
theorem SlAt.mono {C D : Ch} {v : V} {n : Nat} {cs : List V} (h : SlAt C v n cs) (hs : ∀ x ∈ C, x ∈ D) : SlAt D v n cs := by
  rcases h with h | ⟨h0, k, c, g, h, m⟩
  · exact .inl h
  · exact .inr ⟨h0, k, c, g, h, hs _ m⟩
theorem SlAt.get {C : Ch} {v : V} {n : Nat} {cs : List V} (h : SlAt C v n cs) {o : Nat → Option O} {s : St} (hC : Holds o s C) {i : Nat} (hi : i < n) (sz : Nat) : ∃ k g, ixV sz v (.int .i64 (i : Int)) = some (.ptr (some ⟨.new k, i * sz⟩)) ∧ s.new k = some (.cells cs g) := by
  rcases h with ⟨rfl, _⟩ | ⟨_, k, c, g, rfl, m⟩
  · omega
  · exact ⟨k, g, by rw [ix_cell hi, Nat.zero_add], (hC.mem m).1⟩
theorem SlAt.at_ {C : Ch} {v : V} {n : Nat} {cs : List V} (h : SlAt C v n cs) {i : Nat} (hi : i < n) (sz : Nat) : ∃ k g, ixV sz v (.int .i64 (i : Int)) = some (.ptr (some ⟨.new k, i * sz⟩)) ∧ (k, some (.cells cs g)) ∈ C := by
  rcases h with ⟨rfl, _⟩ | ⟨_, k, c, g, rfl, m⟩
  · omega
  · exact ⟨k, g, by rw [ix_cell hi, Nat.zero_add], m⟩
theorem SlAt.nil {C : Ch} {cs : List V} : SlAt C (.slice none 0 (some 0)) 0 cs := .inl ⟨rfl, _, _, rfl⟩
end Go.IM
namespace Go.IM
def seqM {α : Type} (enc : α → V) (l : List (α × V)) : O := .map ((l.zipIdx.map fun p => (p.1.1, p.1.2, p.2)).map fun e : α × V × Nat => (enc e.1, e.2.1, e.2.2)) l.length
section
variable {α : Type} [DecidableEq α] {kt : KT} {enc : α → V} {s : St} {k : Nat}
omit [DecidableEq α] in
theorem seq_nil : seqM enc [] = .map [] 0 := rfl
theorem seq_find (l : List (α × V)) (a : α) : ∀ n : Nat, (((l.zipIdx n).map fun p => (p.1.1, p.1.2, p.2)).find? fun e : α × V × Nat => decide (e.1 = a)).map (·.2.1) = (l.find? fun e => decide (e.1 = a)).map (·.2) := by
  induction l with
  | nil => intro n; rfl
  | cons x l ih =>
    intro n
    simp only [List.zipIdx_cons, List.map_cons, List.find?_cons]
    cases h : decide (x.1 = a) with
    | true => rfl
    | false => exact ih (n + 1)
theorem seq_is (l : List (α × V)) : MapIs enc (fun a => (l.find? fun e => decide (e.1 = a)).map (·.2)) (seqM enc l) := ⟨_, _, rfl, fun a => seq_find l a 0⟩
omit [DecidableEq α] in
theorem seq_snoc (l : List (α × V)) (x : α × V) : (l ++ [x]).zipIdx.map (fun p => (p.1.1, p.1.2, p.2)) = l.zipIdx.map (fun p => (p.1.1, p.1.2, p.2)) ++ [(x.1, x.2, l.length)] := by
  rw [List.zipIdx_append]; simp
theorem mapEnt_new (hk : KeyOk kt enc) {l : List (α × V)} (h : s.new k = some (seqM enc l)) {a : α} (ha : ∀ e ∈ l, e.1 ≠ a) (z : V) :
    mapEntI kt z (.map (some (.new k))) (enc a) s = some (.tuple [z, .int .i64 (l.length : Nat)], s.set k (seqM enc (l ++ [(a, z)]))) := by
  have e := findI_tab hk a (l.zipIdx.map fun p => (p.1.1, p.1.2, p.2)) 0
  have hn : (l.zipIdx.map fun p => (p.1.1, p.1.2, p.2)).findIdx? (fun e : α × V × Nat => decide (e.1 = a)) = none := by
    rw [List.findIdx?_eq_none_iff]
    intro x hx
    obtain ⟨p, hp, rfl⟩ := List.mem_map.1 hx
    have := ha p.1 (List.fst_mem_of_mem_zipIdx hp)
    simpa using this
  rw [hn] at e
  unfold seqM at h
  simp only [mapEntI, h, hk a a, decide_true, Option.isNone_some, Bool.false_eq_true, if_false, e, Option.map_some]
  unfold seqM
  rw [seq_snoc, List.map_append]
  simp
omit [DecidableEq α] in
theorem entSet_new {l : List (α × V)} {a : α} {z : V} (h : s.new k = some (seqM enc (l ++ [(a, z)]))) (v : V) :
    entSetI (.map (some (.new k))) (.int .i64 (l.length : Nat)) v s = some (s.set k (seqM enc (l ++ [(a, v)]))) := by
  have hf : ((l.zipIdx.map fun p => (p.1.1, p.1.2, p.2)).map fun e : α × V × Nat => (enc e.1, e.2.1, e.2.2)).findIdx? (fun e => (e.2.2 : Int) == ((l.length : Nat) : Int)) = none := by
    rw [List.findIdx?_eq_none_iff]
    intro x hx
    simp only [List.map_map] at hx
    obtain ⟨p, hp, rfl⟩ := List.mem_map.1 hx
    have := List.snd_lt_of_mem_zipIdx hp
    simp; omega
  have hl : ((l.zipIdx.map fun p => (p.1.1, p.1.2, p.2)).map fun e : α × V × Nat => (enc e.1, e.2.1, e.2.2)).length = l.length := by simp
  unfold seqM at h
  rw [seq_snoc, List.map_append] at h
  simp only [entSetI, h, List.findIdx?_append, hf]
  unfold seqM
  rw [seq_snoc, List.map_append]
  have hm : ∀ (A : List (V × V × Nat)) (x : V × V × Nat) (g : V × V × Nat → V × V × Nat), (A ++ [x]).modify A.length g = A ++ [g x] := by
    intro A x g
    induction A with
    | nil => rfl
    | cons y A ih => simpa using ih
  have hm2 := hm ((l.zipIdx.map fun p => (p.1.1, p.1.2, p.2)).map fun e : α × V × Nat => (enc e.1, e.2.1, e.2.2)) (enc a, z, l.length) (fun e => (e.1, v, e.2.2))
  rw [hl] at hm2
  simp only [List.map_cons, List.map_nil, List.findIdx?_cons, beq_self_eq_true, if_true, Option.map_some, Option.none_or, hl, Nat.zero_add, hm2, List.length_append, List.length_cons, List.length_nil]
end
end Go.IM

set_option linter.defProp false
namespace Go.IM
theorem fillI_nil (e : Env) (cells : List V) : fillI e cells [] = some cells := rfl
theorem fillI_cons (e : Env) (cells : List V) (off size : Nat) (x : Arg) (rest : List (Nat × Nat × Arg)) : fillI e cells ((off, size, x) :: rest) =
    if (ev e x).cells.length = size ∧ off + size ≤ cells.length ∧ (ev e x).cells.all V.one then fillI e (over cells off (ev e x).cells) rest else none := rfl
theorem over_eq (cs : List V) (off : Nat) (vs : List V) : over cs off vs = cs.take off ++ vs ++ cs.drop (off + vs.length) := rfl
theorem resultsI_nil (e : Env) (s : St) : resultsI e s [] = some [] := rfl
theorem resultsI_n (e : Env) (s : St) (t : Nat) (l : List (Nat × Option (Option Nat))) : resultsI e s ((t, none) :: l) = (resultsI e s l).map fun vs => e.getD t .any :: vs := rfl
theorem resultsI_s (e : Env) (s : St) (t : Nat) (n : Option Nat) (l : List (Nat × Option (Option Nat))) : resultsI e s ((t, some n) :: l) = (evalLook (.load n (.t t)) e s).bind fun v => (resultsI e s l).map fun vs => v :: vs := rfl
theorem packRes_one (v : V) : packRes [v] = v := rfl
theorem packRes_two (a b : V) (l : List V) : packRes (a :: b :: l) = .tuple (a :: b :: l) := rfl
theorem packRes_nil : packRes [] = .tuple [] := rfl
theorem boxV_eq (v : V) (s : St) : boxV v s = if v.cells.all V.one then some (.ptr (some ⟨.new s.next, 0⟩), s.alloc (.cells v.cells none)) else none := rfl
def GP := And.intro @go_skip (And.intro @go_seq (And.intro @go_region (And.intro @go_cond (And.intro @go_block (And.intro @go_exit (And.intro @go_ret (And.intro @go_loop (And.intro @goOps_plain (And.intro @goOps_guard (And.intro @go_oa (And.intro @go_ob (And.intro @go_oc (And.intro @go_oe (And.intro @go_sk (And.intro @go_sx (@go_sr))))))))))))))))
def GR := And.intro @goOps_nil (And.intro @MK_run (And.intro @seqK_n (And.intro @seqK_x (And.intro @seqK_r (And.intro @blockK_n (And.intro @blockK_x (And.intro @blockK_r (And.intro @roundK_n (And.intro @roundK_x (And.intro @roundK_r (And.intro @contO_some (And.intro @guardO_tt (And.intro @guardO_ff (And.intro @guardO_tf (And.intro @guardO_ft (And.intro @guardO_tuple (And.intro @condO_t (And.intro @condO_f (And.intro @x_mov (And.intro @x_pick (And.intro @x_build (And.intro @x_bin (And.intro @x_eql (And.intro @x_un (And.intro @x_conv (And.intro @x_mkFunc (And.intro @x_nilCheck (And.intro @x_lenSlice (And.intro @x_slice (And.intro @x_fieldAddr (And.intro @x_field (And.intro @x_extract (And.intro @x_indexAddr (And.intro @x_load (And.intro @x_again (And.intro @look_load (And.intro @look_lookup (And.intro @look_len (And.intro @x_alloc (And.intro @x_box (And.intro @x_buildSlice (And.intro @x_mkMap (And.intro @x_mkSlice (And.intro @x_callv (And.intro @x_lookup (And.intro @x_lenMap (And.intro @x_store (And.intro @x_mapEnt (And.intro @x_entSet (And.intro @x_mapSet (And.intro @x_append (And.intro @execI_call (And.intro @put_some (And.intro @put_none (And.intro @ev_t (And.intro @ev_c (And.intro @binI_int (And.intro @intI_add (And.intro @intI_sub (And.intro @intI_mul (And.intro @intI_eql (And.intro @intI_neq (And.intro @intI_lss (And.intro @intI_leq (And.intro @intI_gtr (And.intro @intI_geq (And.intro @unI_not (And.intro @eqI_nil (And.intro @eqI_ptr (And.intro @withS_some (And.intro @pickV_bool (And.intro @convV_int (And.intro @nilV_ptr (And.intro @nilV_func (And.intro @lenV_slice (And.intro @fldV_ptr (And.intro @partV_agg (And.intro @extV_tuple (And.intro @callvV_func (And.intro @finR_n (And.intro @finR_r (And.intro @resultsI_nil (And.intro @resultsI_n (And.intro @resultsI_s (And.intro @packRes_one (And.intro @packRes_two (And.intro @packRes_nil (And.intro @againV_slice (And.intro @againV_ptr (And.intro @againV_map (And.intro @againV_int (And.intro @againV_bool (And.intro @fillI_nil (And.intro @fillI_cons (And.intro @over_eq (And.intro @boxV_eq (And.intro @cells_int (And.intro @cells_bool (And.intro @cells_str (And.intro @cells_ptr (And.intro @cells_slice (And.intro @cells_map (And.intro @cells_func (And.intro @cells_nilFunc (And.intro @cells_agg (And.intro @one_int (And.intro @one_bool (And.intro @one_str (And.intro @one_ptr (And.intro @one_slice (And.intro @one_map (And.intro @one_func (And.intro @one_nilFunc (And.intro @alloc_next (And.intro @set_next (And.intro @kill_next (And.intro @getD_sp (And.intro @set_sp (And.intro @mask_sp (And.intro @initS_sp (And.intro @look_nil (And.intro @look_eq (And.intro @look_gt (And.intro @look_lt (And.intro @ins_nil (And.intro @ins_eq (And.intro @ins_gt (And.intro @ins_lt (And.intro @mrg_nil (And.intro @mrg_any (And.intro @mrg_eq (And.intro @mrg_gt (And.intro @mrg_lt (And.intro @ixs_nil (And.intro @ixs_cons (@ev_ai))))))))))))))))))))))))))))))))))))))))))))))))))))))))))))))))))))))))))))))))))))))))))))))))))))))))))))))))))))))))))))))))))))))))
def GB := And.intro GR (And.intro @WP_some (And.intro @ld_new (And.intro @ldn_new (And.intro @ldC_some (And.intro @ldN_cons (And.intro @st_new1 (And.intro @stC1_some (And.intro @st_new2 (And.intro @st_new3 (And.intro @st_new4 (And.intro @st_new5 (And.intro @st_new11 (And.intro @stC_cons (And.intro @zero_lt_succ' (And.intro @new_alloc (And.intro @new_set (And.intro @lt_ne0 (And.intro @lt_ne1 (And.intro @lt_ne0' (And.intro @lt_ne1' (And.intro @add_ne (And.intro @add_ne' (And.intro @add_add_eq (And.intro @add_add_lit (And.intro @cV_len (And.intro @pgV_len (And.intro @rowV_len (And.intro @cV_cells (And.intro @pgV_cells (And.intro @rowV_cells (And.intro @cV_one (And.intro @pgV_one (And.intro @rowV_one (And.intro @againV_cV (And.intro @againV_pg (And.intro @againV_row (And.intro @againV_pair (@eqI_row))))))))))))))))))))))))))))))))))))))
end Go.IM

set_option linter.defProp false
namespace Go.IM
def GL := And.intro (@List.set_cons_succ.{0}) (And.intro (@List.set_cons_zero.{0}) (And.intro (@List.getD_cons_succ.{0}) (And.intro (@List.getD_cons_zero.{0}) (And.intro (@List.map_cons.{0, 0}) (And.intro (@List.map_nil.{0, 0}) (And.intro (@Option.map_some.{0, 0}) (And.intro (@Option.map_none.{0, 0}) (And.intro (@Option.bind_none.{0, 0}) (And.intro (@Option.bind_some.{0, 0}) (And.intro (@Option.isNone_none.{0}) (And.intro (@Option.isNone_some.{0}) (And.intro (@List.getElem?_cons_zero.{0}) (And.intro (@List.getElem?_cons_succ.{0}) (And.intro @decide_true (And.intro @decide_false (And.intro (@if_true.{1}) (And.intro (@if_false.{1}) (And.intro @Bool.not_true (And.intro @Bool.not_false (And.intro @Bool.false_eq_true (And.intro (@ne_eq.{1}) (And.intro @not_false_eq_true (And.intro @not_true_eq_false (And.intro @Bool.true_and (And.intro @Bool.false_and (And.intro @Bool.and_true (And.intro @Bool.and_false (And.intro @Bool.true_or (And.intro @Bool.false_or (And.intro @Bool.or_true (And.intro @Bool.or_false (And.intro (@List.length_cons.{0}) (And.intro (@List.length_nil.{0}) (And.intro (@List.replicate_succ.{0}) (And.intro (@List.replicate_zero.{0}) (And.intro (@List.cons_append.{0}) (And.intro (@List.nil_append.{0}) (And.intro (@Option.getD_none.{0}) (And.intro (@Option.getD_some.{0}) (And.intro @Nat.zero_add (And.intro @Nat.add_zero (And.intro @Nat.mul_one (And.intro (@List.all_cons.{0}) (And.intro (@List.all_nil.{0}) (And.intro (@List.take_succ_cons.{0}) (And.intro (@List.take_zero.{0}) (And.intro (@List.drop_succ_cons.{0}) (And.intro (@List.drop_zero.{0}) (And.intro @Nat.le_refl (And.intro @true_and (And.intro @and_true (And.intro @and_self (And.intro (@List.append_nil.{0}) (And.intro (@bne_self_eq_false.{0}) (And.intro (@beq_self_eq_true.{0}) (And.intro (@List.length_append.{0}) (@List.set_nil.{0})))))))))))))))))))))))))))))))))))))))))))))))))))))))))
end Go.IM

set_option linter.unusedSimpArgs false
set_option linter.unusedVariables false
namespace Go.Proofs.Ytoldkemimhebaaa
open Go Go.IM
def c56 : IFn := ⟨15, [(6, none)],
  (.seq (.region [oa 6 (.mov (.c (.bool false)))] (kp 15 [0,1,2]))
  (.seq (.region [oa 7 (.mov (.t 0)), oa 8 (.mov (.t 1)), oa 9 (.bin .leq (.t 7) (.t 8)), oa 10 (.mov (.t 9)), oc 11 (.mov (.t 1)) 10 tt, oc 12 (.mov (.t 2)) 10 tt, oc 13 (.bin .leq (.t 11) (.t 12)) 10 tt, oa 14 (.pick (.t 10) (.t 13) (.c (.bool false))), oa 6 (.mov (.t 14))] (kp 15 [6]))
  (sr 15 [6])))⟩
theorem F56 : shutF Try.prog 56 = some c56 := by kernel_rfl
def c17 : IFn := ⟨11, [(2, none), (3, none)],
  (.seq (.region [oa 2 (.mov (.c (.ptr none))), oa 3 (.mov (ai 0))] (kp 11 [0]))
  (.seq (.seq (.region [oa 4 (.mov (.t 0)), oa 5 (.call 56 [(ai 1), (.t 4), (ai 400)]), oa 6 (.un .not (.t 5))] (kp 11 [0,6]))
  (.cond (.t 6)
  (.seq (.region [oa 2 (.mov (.c (.ptr none))), oa 3 (.mov (ai 2))] (kp 11 [2,3]))
  (sr 11 [2,3]))
  (sk 11 [0])))
  (.seq (.region [oa 7 (.mov (.t 0)), oa 8 (.mkSlice 1 [(.bool false)] (.t 7) (.t 7)), oa 9 (.build [(.slice none 0 (some 0))] [(0, 1, (.t 8))]), oa 10 (.box (.t 9)), oa 2 (.mov (.t 10)), oa 3 (.mov (ai 0))] (kp 11 [2,3]))
  (sr 11 [2,3]))))⟩
theorem F17 : shutF Try.prog 17 = some c17 := by kernel_rfl
def c18 : IFn := ⟨14, [(2, none), (3, none)],
  (.seq (.region [oa 2 (.mov (.c (.ptr none))), oa 3 (.mov (ai 0))] (kp 14 [0]))
  (.seq (.seq (.region [oa 4 (.mov (.t 0)), oa 5 (.bin .lss (.t 4) (ai 1)), oa 6 (.mov (.t 5)), oc 7 (.mov (.t 0)) 6 ff, oc 8 (.bin .gtr (.t 7) (ai 400)) 6 ff, oa 9 (.pick (.t 6) (.c (.bool true)) (.t 8))] (kp 14 [0,9]))
  (.cond (.t 9)
  (.seq (.region [oa 2 (.mov (.c (.ptr none))), oa 3 (.mov (ai 2))] (kp 14 [2,3]))
  (sr 14 [2,3]))
  (sk 14 [0])))
  (.seq (.region [oa 10 (.mov (.t 0)), oa 11 (.mkSlice 1 [(.bool false)] (.t 10) (.t 10)), oa 12 (.build [(.slice none 0 (some 0))] [(0, 1, (.t 11))]), oa 13 (.box (.t 12)), oa 2 (.mov (.t 13)), oa 3 (.mov (ai 0))] (kp 14 [2,3]))
  (sr 14 [2,3]))))⟩
theorem F18 : shutF Try.prog 18 = some c18 := by kernel_rfl
def c22 : IFn := ⟨21, [(2, none), (3, none)],
  (.seq (.region [oa 2 (.mov (.c (.ptr none))), oa 3 (.mov (ai 0))] (kp 21 [0]))
  (.seq (.seq (.region [oa 5 (.mov (.t 0)), oa 6 (.eql false .ptr (.t 5) (.c (.ptr none))), oa 7 (.mov (.t 6)), oc 8 (.mov (.t 0)) 7 ff, oc 9 (.nilCheck (.t 8)) 7 ff, oc 10 (.fieldAddr 0 (.t 9)) 7 ff, oc 11 (.load none (.t 10)) 7 ff, oc 12 (.lenSlice (.t 11)) 7 ff, oc 13 (.bin .eql (.t 12) (ai 0)) 7 ff, oa 14 (.pick (.t 7) (.c (.bool true)) (.t 13))] (kp 21 [0,14]))
  (.cond (.t 14)
  (.seq (.region [oa 2 (.mov (.c (.ptr none))), oa 3 (.mov (ai 6))] (kp 21 [2,3]))
  (sr 21 [2,3]))
  (sk 21 [0])))
  (.seq (.region [oa 15 (.mov (.t 0)), oa 16 (.build [(.ptr none), (.slice none 0 (some 0)), (.int .i64 (0))] [(0, 1, (.t 15))]), oa 17 (.box (.t 16)), oa 4 (.mov (.t 17))] (kp 21 [4]))
  (.seq (.region [oa 18 (.mov (.t 4)), oa 19 (.call 57 [(.t 18), (ai 0)])] (kp 21 [4]))
  (.seq (.region [oa 20 (.mov (.t 4)), oa 2 (.mov (.t 20)), oa 3 (.mov (ai 0))] (kp 21 [2,3]))
  (sr 21 [2,3]))))))⟩
theorem F22 : shutF Try.prog 22 = some c22 := by kernel_rfl
noncomputable abbrev PF : Nat → Option IFn := shutF Try.prog
section
variable (s : St)
set_option maxRecDepth 10000
theorem s56 (a b c : Int) : call PF 56 [.int .i64 a, .int .i64 b, .int .i64 c] s = some (.bool (decide (a ≤ b) && decide (b ≤ c)), s) := by
  rw [call_run F56]
  by_cases h : a ≤ b
  · simp -implicitDefEqProofs only [↓GP, GR, GL, Nat.reduceAdd, Nat.reduceSub, Nat.reduceEqDiff, Nat.reduceMul, Nat.reduceLeDiff, Int.reduceBNe, Int.reduceBEq, Nat.reduceLT, reduceCtorEq, c56, h]
  · simp -implicitDefEqProofs only [↓GP, GR, GL, Nat.reduceAdd, Nat.reduceSub, Nat.reduceEqDiff, Nat.reduceMul, Nat.reduceLeDiff, Int.reduceBNe, Int.reduceBEq, Nat.reduceLT, reduceCtorEq, c56, h]
theorem s17 (n : Int) (h1 : 1 ≤ n) (h2 : n ≤ 400) : call PF 17 [.int .i64 n] s = some (.tuple [.ptr (some ⟨.new (s.next + 1), 0⟩), .int .i64 0], (s.alloc (.cells (zeros [.bool false] n.toNat) none)).alloc (.cells [.slice (some ⟨.new s.next, 0⟩) n.toNat (some n.toNat)] none)) := by
  rw [call_run F17]
  have h' : (decide (1 ≤ n) && decide (n ≤ 400)) = true := by simp [h1, h2]
  have hm := mkV_int (s := s) (bytes := 1) (z := [.bool false]) (k := .i64) (k' := .i64) (l := n) (c := n) (by omega) (by omega) (by omega) (by omega)
  simp -implicitDefEqProofs only [↓GP, GR, GL, Nat.reduceAdd, Nat.reduceSub, Nat.reduceEqDiff, Nat.reduceMul, Nat.reduceLeDiff, Int.reduceBNe, Int.reduceBEq, Nat.reduceLT, reduceCtorEq, c17, s56, h', hm]
theorem s18 (n : Int) (h1 : 1 ≤ n) (h2 : n ≤ 400) : call PF 18 [.int .i64 n] s = some (.tuple [.ptr (some ⟨.new (s.next + 1), 0⟩), .int .i64 0], (s.alloc (.cells (zeros [.bool false] n.toNat) none)).alloc (.cells [.slice (some ⟨.new s.next, 0⟩) n.toNat (some n.toNat)] none)) := by
  rw [call_run F18]
  have h1' : ¬ n < 1 := by omega
  have h2' : ¬ n > 400 := by omega
  have hm := mkV_int (s := s) (bytes := 1) (z := [.bool false]) (k := .i64) (k' := .i64) (l := n) (c := n) (by omega) (by omega) (by omega) (by omega)
  simp -implicitDefEqProofs only [↓GP, GR, GL, Nat.reduceAdd, Nat.reduceSub, Nat.reduceEqDiff, Nat.reduceMul, Nat.reduceLeDiff, Int.reduceBNe, Int.reduceBEq, Nat.reduceLT, reduceCtorEq, c18, h1', h2', hm]
theorem count_both : ∀ bs : List Bool, bs.count true + bs.count false = bs.length
  | [] => rfl
  | b :: bs => by
    have := count_both bs
    cases b <;> simp <;> omega
def PoolAt (s : St) (p r : Nat) (bs : List Bool) : Prop :=
  s.new p = some (.cells [.slice (some ⟨.new r, 0⟩) bs.length (some bs.length)] none) ∧ s.new r = some (.cells (bs.map .bool) none)
variable {s}
end
end Go.Proofs.Ytoldkemimhebaaa

set_option linter.unusedSimpArgs false
set_option linter.unusedVariables false
namespace Go.Proofs.Ytoldkemimhebaaa
open Go Go.IM
structure Obj where
  at_ : Nat
  kind : Nat
  ws : List (Int × Int)
structure Reg where
  size : Nat
  life : Nat
  fill : Nat
  pages : List Nat
  objs : List Obj
def takeP (u : List Bool) : Option Nat := u.findIdx? (! ·)
def freeP (u : List Bool) (l : List Nat) : List Bool := l.foldl (fun u n => u.set n false) u
theorem freeP_len (u : List Bool) : ∀ l, (freeP u l).length = u.length := by
  intro l
  induction l generalizing u with
  | nil => rfl
  | cons n l ih => exact (ih (u.set n false)).trans (by simp)
def place (u : List Bool) (r : Reg) (need : Nat) : Option (Nat × List Bool × Reg) :=
  match r.pages.getLast? with
  | some p => if r.fill + need ≤ 32 then some (p * 32 + r.fill, u, { r with fill := r.fill + need }) else (takeP u).map fun n => (n * 32, u.set n true, { r with pages := r.pages ++ [n], fill := need })
  | none => (takeP u).map fun n => (n * 32, u.set n true, { r with pages := r.pages ++ [n], fill := need })
def Reg.add (r : Reg) (x : Obj) : Reg := { r with objs := r.objs ++ [x] }
def encW (w : Int × Int) : List V := [I w.1, I w.2]
theorem encW_len (w : Int × Int) : (encW w).length = 2 := rfl
def poolC (p r : Nat) (u : List Bool) : Ch := [(p, some (.cells [.slice (some ⟨.new r, 0⟩) u.length (some u.length)] none)), (r, some (.cells (u.map .bool) none))]
def poolG (gr : Bool) (p r : Nat) (u : List Bool) : Ch := [(p, some (.cells [cV gr r u.length] none)), (r, some (.cells (u.map .bool) (cG gr 1)))]
structure PObj where
  id : Nat
  wid : Nat
  b : Obj
structure PReg where
  id : Nat
  pgk : Nat
  obk : Nat
  plk : Nat
  pl : O
  size : Nat
  life : Nat
  fill : Nat
  pages : List Nat
  objs : List PObj
abbrev ptrN (k : Nat) : V := .ptr (some ⟨.new k, 0⟩)
abbrev slN (k n : Nat) : V := .slice (some ⟨.new k, 0⟩) n (some n)
def PObj.O (x : PObj) : O := .cells [I x.b.at_, I x.b.kind, slN x.wid x.b.ws.length] none
def PObj.W (x : PObj) : IM.O := .cells (x.b.ws.flatMap encW) none
def PObj.ch (x : PObj) : Ch := [(x.id, some x.O), (x.wid, some x.W)]
def PReg.m (r : PReg) : Reg := ⟨r.size, r.life, r.fill, r.pages, r.objs.map (·.b)⟩
def pagesO (l : List Nat) : Option O := rowO 1 l.length (l.map fun n : Nat => I n)
def PReg.obO (l : List PObj) : Option O := rowO 1 l.length (l.map fun x => ptrN x.id)
theorem pagesO_nil : pagesO [] = none := rfl
theorem pObO_nil : PReg.obO [] = none := rfl
def PReg.hd (r : PReg) : O := .cells [I r.life, I r.size, rowV r.pgk r.pages.length, I r.fill, rowV r.obk r.objs.length, .map (some (.new r.plk))] none
def PReg.ch (r : PReg) : Ch := (r.id, some r.hd) :: (r.pgk, pagesO r.pages) :: (r.obk, PReg.obO r.objs) :: (r.plk, some r.pl) :: r.objs.flatMap PObj.ch
def PReg.ok (r : PReg) : Prop := MapIs (fun n : Int => I n) (fun a => (r.objs.find? fun x => decide ((x.b.at_ : Int) = a)).map fun x => ptrN x.id) r.pl
structure PHeap where
  id : Nat
  rowk : Nat
  lives : Nat
  regs : List PReg
  sl : List V
def PHeap.hd (pool : Nat) (h : PHeap) : O := .cells [ptrN pool, rowV h.rowk h.regs.length, I h.lives] none
def PHeap.row (h : PHeap) : Option O := rowO 1 h.regs.length (h.regs.map (fun r => ptrN r.id) ++ h.sl)
def PHeap.ch (pool : Nat) (h : PHeap) : Ch := (h.id, some (h.hd pool)) :: (h.rowk, h.row) :: h.regs.flatMap PReg.ch
structure RegOk (n : Nat) (r : Reg) : Prop where
  size : r.size ≤ 31
  life : r.life ≤ 100000
  fill : r.fill ≤ 32
  pages : ∀ p ∈ r.pages, p < n
  npages : r.pages.length ≤ 400
  nobjs : r.objs.length ≤ 100000
  ws : ∀ x ∈ r.objs, x.ws.length ≤ 31
  at_ : ∀ x ∈ r.objs, x.at_ < 2000000
  kind : ∀ x ∈ r.objs, x.kind < 256
structure RegB (n sz lf fl : Nat) (pgs : List Nat) : Prop where
  size : sz ≤ 31
  life : lf ≤ 100000
  fill : fl ≤ 32
  pages : ∀ p ∈ pgs, p < n
  npages : pgs.length ≤ 400
theorem RegOk.b {n : Nat} {r : Reg} (h : RegOk n r) : RegB n r.size r.life r.fill r.pages := ⟨h.size, h.life, h.fill, h.pages, h.npages⟩
structure PHeapOk (n : Nat) (h : PHeap) : Prop where
  lives : h.lives ≤ 100000
  nregs : h.regs.length ≤ 100000
  one : h.regs ≠ []
  regs : ∀ r ∈ h.regs, RegOk n r.m
  ok : ∀ r ∈ h.regs, r.ok
structure RObj where
  wid : Nat
  b : Obj
  gr : Bool
structure RReg where
  pgk : Nat
  obk : Nat
  size : Nat
  life : Nat
  fill : Nat
  pages : List Nat
  objs : List RObj
def RObj.enc (x : RObj) : List V := [I x.b.at_, I x.b.kind, cV x.gr x.wid x.b.ws.length]
def RObj.ch (x : RObj) : Ch := [(x.wid, some (.cells (x.b.ws.flatMap encW) (cG x.gr 2)))]
def RReg.m (r : RReg) : Reg := ⟨r.size, r.life, r.fill, r.pages, r.objs.map (·.b)⟩
def RReg.obO (l : List RObj) : Option O := rowO 3 l.length (l.flatMap RObj.enc)
theorem rObO_nil : RReg.obO [] = none := rfl
def RReg.enc (r : RReg) : List V := [I r.size, I r.life, pgV r.pgk r.pages.length, I r.fill, rowV r.obk r.objs.length]
def RReg.ch (r : RReg) : Ch := (r.pgk, pagesO r.pages) :: (r.obk, RReg.obO r.objs) :: r.objs.flatMap RObj.ch
structure RHeap where
  id : Nat
  rowk : Nat
  grown : Bool
  lives : Nat
  regs : List RReg
  sl : List V
def RHeap.rv (h : RHeap) : V := if h.grown then rowV h.rowk h.regs.length else slN h.rowk h.regs.length
def RHeap.hd (pool : Nat) (h : RHeap) : O := .cells [ptrN pool, h.rv, I h.lives] none
def RHeap.row (h : RHeap) : O := .cells (h.regs.flatMap RReg.enc ++ h.sl) (if h.grown then some 5 else none)
def RHeap.ch (pool : Nat) (h : RHeap) : Ch := (h.id, some (h.hd pool)) :: (h.rowk, some h.row) :: h.regs.flatMap RReg.ch
structure RHeapOk (n : Nat) (h : RHeap) : Prop where
  lives : h.lives ≤ 100000
  nregs : h.regs.length ≤ 100000
  one : h.regs ≠ []
  regs : ∀ r ∈ h.regs, RegOk n r.m
  sl : ∃ j, h.sl.length = j * 5
structure PairG where
  id : Nat
  wk : Nat
  hp : PHeap
  hr : RHeap
  ws : List (Int × Int)
def PairG.hd (G : PairG) : O := .cells [ptrN G.hp.id, ptrN G.hr.id, rowV G.wk G.ws.length] none
def PairG.pc (G : PairG) : Ch := [(G.id, some G.hd), (G.wk, rowO 2 G.ws.length (G.ws.flatMap encW))]
def PairG.ch (p q : Nat) (G : PairG) : Ch := G.pc ++ (G.hp.ch p ++ G.hr.ch q)
def World (p r q t : Nat) (u : List Bool) (G : PairG) (F : Ch) : Ch := poolC p r u ++ (poolC q t u ++ (G.ch p q ++ F))
set_option linter.defProp false
def HA := And.intro @cV_ff (And.intro @cG_ff (And.intro @I.eq_1 (And.intro @ptrN.eq_1 (And.intro @slN.eq_1 (And.intro @alloc_next (And.intro @set_next (And.intro @World.eq_1 (And.intro @PairG.ch.eq_1 (And.intro @PairG.pc.eq_1 (And.intro @PairG.hd.eq_1 (And.intro @poolG.eq_1 (And.intro @poolC.eq_1 (And.intro @PReg.ch.eq_1 (And.intro @PHeap.ch.eq_1 (And.intro @PObj.ch.eq_1 (And.intro @RReg.ch.eq_1 (And.intro @RHeap.ch.eq_1 (And.intro @RObj.ch.eq_1 (And.intro @pagesO_nil (And.intro @pObO_nil (And.intro @rObO_nil (And.intro @List.flatMap_append.{0,0} (And.intro @List.flatMap_cons.{0,0} (And.intro @List.flatMap_nil.{0,0} (And.intro @List.append_eq.{0} (And.intro @List.append_assoc.{0} (And.intro @List.cons_append.{0} (@List.nil_append.{0}))))))))))))))))))))))))))))
def HB := And.intro @cnt_append (And.intro @cnt_cons (And.intro @cnt_nil (And.intro @cnt1_ff (And.intro @Option.isSome_some.{0} (@Option.isSome_none.{0})))))
def HC := And.intro @List.mem_append.{0} (And.intro @List.mem_cons.{0} (And.intro @List.not_mem_nil.{0} (And.intro @mem_some_none (And.intro @or_false (@false_or)))))
end Go.Proofs.Ytoldkemimhebaaa

set_option linter.unusedSimpArgs false
set_option linter.unusedVariables false
namespace Go.Proofs.Ytoldkemimhebaaa
open Go Go.IM
def l120_0 : IC := (.seq (.seq (.region [oa 9 (.bin .lss (.t 8) (.t 7))] (kp 19 [0,1,7,8,9]))
  (.seq (.cond (.t 9)
  (sk 19 [0,1,7,8])
  (sx 19 [] 0))
  (.seq (.block 1
  (.seq (.region [oa 10 (.mov (.t 8)), oa 5 (.mov (.t 10))] (kp 19 [0,1,5,7,8]))
  (.seq (.region [oa 11 (.mov (.t 1)), oa 12 (.mov (.t 0)), oa 13 (.mov (.t 5)), oa 14 (.indexAddr 1 (.t 12) (.t 13)), oa 15 (.load none (.t 14)), oa 16 (.eql false (.key (.one .b)) (.t 11) (.t 15))] (kp 19 [0,1,5,7,8,16]))
  (.cond (.t 16)
  (.seq (.region [oa 17 (.mov (.t 5)), oa 4 (.mov (.t 17))] (kp 19 [4]))
  (sr 19 [4]))
  (sk 19 [0,1,7,8])))))
  (.region [oa 18 (.bin .add (.t 8) (ai 1)), oa 8 (.mov (.t 18))] (kp 19 [0,1,7,8])))))
  (sk 19 [0,1,7,8]))
def c120 : IFn := ⟨19, [(4, none)],
  (.seq (.region [oa 4 (.mov (ai 0))] (kp 19 [0,1]))
  (.seq (.seq (.region [oa 6 (.mov (.t 0)), oa 7 (.lenSlice (.t 6)), oa 8 (.mov (ai 0))] (kp 19 [0,1,7,8]))
  (.block 0
  (.seq (sk 19 [0,1,7,8])
  (.loop l120_0))))
  (.seq (.region [oa 4 (.mov (ai (-1)))] (kp 19 [4]))
  (sr 19 [4]))))⟩
theorem F120 : shutF Try.prog 120 = some c120 := by kernel_rfl
def c112 : IFn := ⟨21, [(2, none), (3, none)],
  (.seq (.region [oa 2 (.mov (ai 0)), oa 3 (.mov (.c (.bool false)))] (kp 21 [0]))
  (.seq (.region [oa 5 (.mov (.t 0)), oa 6 (.nilCheck (.t 5)), oa 7 (.fieldAddr 0 (.t 6)), oa 8 (.load none (.t 7)), oa 9 (.call 120 [(.t 8), (.c (.bool false))]), oa 4 (.mov (.t 9))] (kp 21 [0,4]))
  (.seq (.seq (.region [oa 10 (.mov (.t 4)), oa 11 (.bin .geq (.t 10) (ai 0))] (kp 21 [0,4,11]))
  (.cond (.t 11)
  (.region [oa 12 (.mov (.t 0)), oa 13 (.nilCheck (.t 12)), oa 14 (.fieldAddr 0 (.t 13)), oa 15 (.load none (.t 14)), oa 16 (.mov (.t 4)), oa 17 (.indexAddr 1 (.t 15) (.t 16)), ob (.store 1 (.t 17) (.c (.bool true)))] (kp 21 [4]))
  (sk 21 [4])))
  (.seq (.region [oa 18 (.mov (.t 4)), oa 19 (.mov (.t 4)), oa 20 (.bin .geq (.t 19) (ai 0)), oa 2 (.mov (.t 18)), oa 3 (.mov (.t 20))] (kp 21 [2,3]))
  (sr 21 [2,3])))))⟩
theorem F112 : shutF Try.prog 112 = some c112 := by kernel_rfl
def c57 : IFn := ⟨28, [],
  (.seq (.region [oa 4 (.mov (.t 0)), oa 5 (.nilCheck (.t 4)), oa 6 (.fieldAddr 2 (.t 5)), oa 7 (.load none (.t 6)), oa 8 (.bin .add (.t 7) (ai 1)), oa 9 (.nilCheck (.t 4)), oa 10 (.fieldAddr 2 (.t 9)), ob (.store 1 (.t 10) (.t 8))] (kp 28 [0,1]))
  (.region [oa 11 (.mov (.t 0)), oa 12 (.mov (.t 0)), oa 13 (.nilCheck (.t 12)), oa 14 (.fieldAddr 1 (.t 13)), oa 15 (.load none (.t 14)), oa 16 (.mov (.t 0)), oa 17 (.nilCheck (.t 16)), oa 18 (.fieldAddr 2 (.t 17)), oa 19 (.load none (.t 18)), oa 20 (.mov (.t 1)), oa 21 .mkMap, oa 22 (.build [(.int .i64 (0)), (.int .i64 (0)), (.slice none 0 (some 0)), (.int .i64 (0)), (.slice none 0 (some 0)), (.map none)] [(0, 1, (.t 19)), (1, 1, (.t 20)), (5, 1, (.t 21))]), oa 23 (.box (.t 22)), oa 24 (.buildSlice 1 [(.ptr none)] [(0, 1, (.t 23))]), oa 25 (.append 1 8 (.t 15) (.t 24)), oa 26 (.nilCheck (.t 11)), oa 27 (.fieldAddr 1 (.t 26)), ob (.store 1 (.t 27) (.t 25))] (kp 28 [])))⟩
theorem F57 : shutF Try.prog 57 = some c57 := by kernel_rfl
def c71 : IFn := ⟨12, [(2, none)],
  (.seq (.region [oa 2 (.mov (.c (.bool false)))] (kp 12 [0]))
  (.seq (.region [oa 3 (.mov (.t 0)), oa 4 (.eql false .ptr (.t 3) (.c (.ptr none))), oa 5 (.mov (.t 4)), oc 6 (.mov (.t 0)) 5 ff, oc 7 (.nilCheck (.t 6)) 5 ff, oc 8 (.fieldAddr 0 (.t 7)) 5 ff, oc 9 (.load none (.t 8)) 5 ff, oc 10 (.eql false .ptr (.t 9) (.c (.ptr none))) 5 ff, oa 11 (.pick (.t 5) (.c (.bool true)) (.t 10)), oa 2 (.mov (.t 11))] (kp 12 [2]))
  (sr 12 [2])))⟩
theorem F71 : shutF Try.prog 71 = some c71 := by kernel_rfl
def c104 : IFn := ⟨12, [(4, none)],
  (.seq (.region [oa 4 (.mov (ai 0))] (kp 12 [0,1]))
  (.seq (.block 0
  (.seq (.region [oa 6 (.mov (.t 0)), oa 7 (.call 71 [(.t 6)]), oa 5 (.mov (.t 7))] (kp 12 [1,5]))
  (.cond (.t 5)
  (.seq (.region [oa 4 (.mov (ai 6))] (kp 12 [4]))
  (sr 12 [4]))
  (.seq (.region [oa 9 (.mov (.t 1)), oa 10 (.callv (.t 9) []), oa 11 (.un .not (.t 10)), oa 8 (.mov (.t 11))] (kp 12 [8]))
  (.cond (.t 8)
  (.seq (.region [oa 4 (.mov (ai 2))] (kp 12 [4]))
  (sr 12 [4]))
  (sk 12 []))))))
  (.seq (.region [oa 4 (.mov (ai 0))] (kp 12 [4]))
  (sr 12 [4]))))⟩
theorem F104 : shutF Try.prog 104 = some c104 := by kernel_rfl
def c110 : IFn := ⟨11, [(2, none)],
  (.seq (.region [oa 2 (.mov (.c (.bool false)))] (kp 11 [0,1]))
  (.seq (.region [oa 3 (.load none (.t 0)), oa 4 (.load none (.t 1)), oa 5 (.nilCheck (.t 4)), oa 6 (.fieldAddr 1 (.t 5)), oa 7 (.load none (.t 6)), oa 8 (.lenSlice (.t 7)), oa 9 (.bin .sub (.t 8) (ai 1)), oa 10 (.call 56 [(ai 0), (.t 3), (.t 9)]), oa 2 (.mov (.t 10))] (kp 11 [2]))
  (sr 11 [2])))⟩
theorem F110 : shutF Try.prog 110 = some c110 := by kernel_rfl
def c105 : IFn := ⟨4, [(1, none)],
  (.seq (.region [oa 1 (.mov (.c (.bool false)))] (kp 4 [0]))
  (.seq (.region [oa 2 (.load none (.t 0)), oa 3 (.call 56 [(ai 0), (.t 2), (ai 31)]), oa 1 (.mov (.t 3))] (kp 4 [1]))
  (sr 4 [1])))⟩
theorem F105 : shutF Try.prog 105 = some c105 := by kernel_rfl
def c111 : IFn := ⟨9, [(2, none)],
  (.seq (.region [oa 2 (.mov (.c (.bool false)))] (kp 9 [0,1]))
  (.seq (.region [oa 3 (.fieldAddr 1 (.t 0)), oa 4 (.load none (.t 3)), oa 5 (.bin .gtr (.t 4) (ai 0)), oa 6 (.mov (.t 5)), oc 7 (.load none (.t 1)) 6 tt, oa 8 (.pick (.t 6) (.t 7) (.c (.bool false))), oa 2 (.mov (.t 8))] (kp 9 [2]))
  (sr 9 [2])))⟩
theorem F111 : shutF Try.prog 111 = some c111 := by kernel_rfl
def c72 : IFn := ⟨20, [(4, none), (5, none)],
  (.seq (.region [oa 2 (.box (.t 0)), oa 3 (.box (.t 1)), oa 4 (.mov (.c (.ptr none))), oa 5 (.mov (ai 0))] (kp 20 [2,3]))
  (.seq (.seq (.region [oa 7 (.load none (.t 2)), oa 8 (.mkFunc 110 [] [(.t 3), (.t 2)]), oa 9 (.call 104 [(.t 7), (.t 8)]), oa 6 (.mov (.t 9))] (kp 20 [2,3,6]))
  (.seq (.region [oa 10 (.mov (.t 6)), oa 11 (.bin .neq (.t 10) (ai 0))] (kp 20 [2,3,6,11]))
  (.cond (.t 11)
  (.seq (.region [oa 12 (.mov (.t 6)), oa 4 (.mov (.c (.ptr none))), oa 5 (.mov (.t 12))] (kp 20 [4,5]))
  (sr 20 [4,5]))
  (sk 20 [2,3]))))
  (.seq (.region [oa 13 (.load none (.t 2)), oa 14 (.nilCheck (.t 13)), oa 15 (.fieldAddr 1 (.t 14)), oa 16 (.load none (.t 15)), oa 17 (.load none (.t 3)), oa 18 (.indexAddr 1 (.t 16) (.t 17)), oa 19 (.load none (.t 18)), oa 4 (.mov (.t 19)), oa 5 (.mov (ai 0))] (kp 20 [4,5]))
  (sr 20 [4,5]))))⟩
theorem F72 : shutF Try.prog 72 = some c72 := by kernel_rfl
def c59 : IFn := ⟨31, [(4, none), (5, none)],
  (.seq (.region [oa 3 (.box (.t 1)), oa 4 (.mov (ai 0)), oa 5 (.mov (ai 0))] (kp 31 [0,3]))
  (.seq (.region [oa 7 (.mov (.t 0)), oa 8 (.mkFunc 105 [] [(.t 3)]), oa 9 (.call 104 [(.t 7), (.t 8)]), oa 6 (.mov (.t 9))] (kp 31 [0,3,6]))
  (.seq (.seq (.region [oa 10 (.mov (.t 6)), oa 11 (.bin .eql (.t 10) (ai 0)), oa 12 (.mov (.t 11)), oc 13 (.mov (.t 0)) 12 tt, oc 14 (.nilCheck (.t 13)) 12 tt, oc 15 (.fieldAddr 2 (.t 14)) 12 tt, oc 16 (.load none (.t 15)) 12 tt, oc 17 (.bin .geq (.t 16) (ai 100000)) 12 tt, oa 18 (.pick (.t 12) (.t 17) (.c (.bool false)))] (kp 31 [0,3,6,18]))
  (.cond (.t 18)
  (.region [oa 6 (.mov (ai 4))] (kp 31 [0,3,6]))
  (sk 31 [0,3,6])))
  (.seq (.seq (.region [oa 19 (.mov (.t 6)), oa 20 (.bin .neq (.t 19) (ai 0))] (kp 31 [0,3,6,20]))
  (.cond (.t 20)
  (.seq (.region [oa 21 (.mov (.t 6)), oa 4 (.mov (ai 0)), oa 5 (.mov (.t 21))] (kp 31 [4,5]))
  (sr 31 [4,5]))
  (sk 31 [0,3])))
  (.seq (.region [oa 22 (.mov (.t 0)), oa 23 (.load none (.t 3)), oa 24 (.call 57 [(.t 22), (.t 23)])] (kp 31 [0]))
  (.seq (.region [oa 25 (.mov (.t 0)), oa 26 (.nilCheck (.t 25)), oa 27 (.fieldAddr 1 (.t 26)), oa 28 (.load none (.t 27)), oa 29 (.lenSlice (.t 28)), oa 30 (.bin .sub (.t 29) (ai 1)), oa 4 (.mov (.t 30)), oa 5 (.mov (ai 0))] (kp 31 [4,5]))
  (sr 31 [4,5])))))))⟩
theorem F59 : shutF Try.prog 59 = some c59 := by kernel_rfl
section
variable {o : Nat → Option O} {s : St} {C F : Ch} {Q : V → St → Prop}
set_option maxRecDepth 10000
theorem index_loop {r : Nat} {u : List Bool} {cp : Option Nat}  {K : Kt} (hr : s.new r = some (.cells (u.map .bool) none)) (hb : u.length ≤ 400) :
    ∀ (m i : Nat), i + m = u.length →
    loop PF (.loop l120_0) (sp 19 [(0, .slice (some ⟨.new r, 0⟩) u.length cp), (1, .bool false), (7, I u.length), (8, I i)]) s K =
      match (u.drop i).findIdx? (! ·) with
      | some j => K .ret (sp 19 [(4, I (i + j : Nat))]) s
      | none => K (.exit 0) (sp 19 []) s
  | 0, i, hi => by
    have hlt : ¬ ((i : Int) < (u.length : Int)) := by omega
    refine round fun LL hLL => ?_
    simp -implicitDefEqProofs only [↓GP, GB, GL, Nat.reduceAdd, Nat.reduceSub, Nat.reduceEqDiff, Nat.reduceMul, Nat.reduceLeDiff, Int.reduceBNe, Int.reduceBEq, Nat.reduceLT, reduceCtorEq, l120_0, hlt]
    rw [List.drop_eq_nil_of_le (by omega)]
    rfl
  | m + 1, i, hi => by
    have hlt : ((i : Int) < (u.length : Int)) := by omega
    have hi' : i < u.length := by omega
    have hd : u.drop i = u[i] :: u.drop (i + 1) := List.drop_eq_getElem_cons hi'
    have hix := ix_cell (sz := 1) (k := r) (off := 0) (c := cp) (kk := .i64) hi'
    have hg : (u.map V.bool)[i]? = some (.bool u[i]) := by simp [hi']
    have hw := wrap_add1 (a := i) (by omega)
    refine round fun LL hLL => ?_
    cases hbi : u[i] with
    | false =>
      rw [hbi] at hg hd
      have he : eqI (.key (.one .b)) (.bool false) (.bool false) = some true := rfl
      simp -implicitDefEqProofs only [↓GP, GB, GL, Nat.reduceAdd, Nat.reduceSub, Nat.reduceEqDiff, Nat.reduceMul, Nat.reduceLeDiff, Int.reduceBNe, Int.reduceBEq, Nat.reduceLT, reduceCtorEq, l120_0, hlt, hix, hr, hg, he]
      rw [hd]
      rfl
    | true =>
      rw [hbi] at hg hd
      have he : eqI (.key (.one .b)) (.bool false) (.bool true) = some false := rfl
      simp -implicitDefEqProofs only [↓GP, GB, GL, Nat.reduceAdd, Nat.reduceSub, Nat.reduceEqDiff, Nat.reduceMul, Nat.reduceLeDiff, Int.reduceBNe, Int.reduceBEq, Nat.reduceLT, reduceCtorEq, l120_0, hlt, hix, hr, hg, he, hw]
      rw [hLL, index_loop hr hb m (i + 1) (by omega), hd]
      simp only [List.findIdx?_cons, Bool.not_true, Bool.false_eq_true, if_false]
      cases (u.drop (i + 1)).findIdx? (! ·) with
      | none => rfl
      | some j => simp only [Option.map_some]; rw [show i + 1 + j = i + (j + 1) by omega]
theorem s120 {r : Nat} {u : List Bool} {cp : Option Nat} (hr : s.new r = some (.cells (u.map .bool) none)) (hb : u.length ≤ 400) :
    call PF 120 [.slice (some ⟨.new r, 0⟩) u.length cp, .bool false] s = some (I (match takeP u with | some n => (n : Int) | none => -1), s) := by
  rw [call_run F120]; simp -implicitDefEqProofs only [↓GP, GB, GL, Nat.reduceAdd, Nat.reduceSub, Nat.reduceEqDiff, Nat.reduceMul, Nat.reduceLeDiff, Int.reduceBNe, Int.reduceBEq, Nat.reduceLT, reduceCtorEq, c120]
  refine (index_loop hr hb u.length 0 (by omega)).trans ?_
  rw [List.drop_zero]
  show (match takeP u with | some j => _ | none => _) = _
  cases takeP u with
  | none => simp -implicitDefEqProofs only [↓GP, GB, GL, Nat.reduceAdd, Nat.reduceSub, Nat.reduceEqDiff, Nat.reduceMul, Nat.reduceLeDiff, Int.reduceBNe, Int.reduceBEq, Nat.reduceLT, reduceCtorEq]
  | some j => simp -implicitDefEqProofs only [↓GP, GB, GL, Nat.reduceAdd, Nat.reduceSub, Nat.reduceEqDiff, Nat.reduceMul, Nat.reduceLeDiff, Int.reduceBNe, Int.reduceBEq, Nat.reduceLT, reduceCtorEq]
theorem s112_none {p r : Nat} {u : List Bool} (h : Holds o s (poolC p r u ++ F)) (hb : u.length ≤ 400) (ht : takeP u = none) : call PF 112 [ptrN p] s = some (.tuple [I (-1), .bool false], s) := by
  have f := Holds.f2 h
  have e := s120 (cp := some u.length) f.2.1.1 hb
  rw [ht] at e
  rw [call_run F112]; simp -implicitDefEqProofs only [↓GP, GB, GL, Nat.reduceAdd, Nat.reduceSub, Nat.reduceEqDiff, Nat.reduceMul, Nat.reduceLeDiff, Int.reduceBNe, Int.reduceBEq, Nat.reduceLT, reduceCtorEq, c112, f, e, Int.reduceNeg, ge_iff_le, Int.reduceLE]
theorem set_map (u : List Bool) (n : Nat) (b : Bool) : (u.map V.bool).set n (.bool b) = (u.set n b).map V.bool := by
  apply List.ext_getElem?; intro i; simp only [List.getElem?_set, List.getElem?_map, List.length_map]
  split
  · split <;> rfl
  · rfl
theorem s112 {p r n : Nat} {u : List Bool} (h : Holds o s (poolC p r u ++ F)) (hb : u.length ≤ 400) (ht : takeP u = some n)
    (q : ∀ s', Holds o s' (poolC p r (u.set n true) ++ F) → Q (.tuple [I n, .bool true]) s') : WP (call PF 112 [ptrN p] s) Q := by
  have f := Holds.f2 h
  have e := s120 (cp := some u.length) f.2.1.1 hb
  rw [ht] at e
  have hn : n < u.length := by
    obtain ⟨h1, _⟩ := List.findIdx?_eq_some_iff_getElem.1 ht
    exact h1
  have h0 : ((n : Int) ≥ 0) := by omega
  have hix := ix_cell (sz := 1) (k := r) (off := 0) (c := some u.length) (kk := .i64) hn
  have hl : n < (u.map V.bool).length := by simpa using hn
  rw [call_run F112]; simp -implicitDefEqProofs only [↓GP, GB, GL, Nat.reduceAdd, Nat.reduceSub, Nat.reduceEqDiff, Nat.reduceMul, Nat.reduceLeDiff, Int.reduceBNe, Int.reduceBEq, Nat.reduceLT, reduceCtorEq, c112, f, e, h0, hix, hl, set_map]
  refine q _ ?_
  have := Holds.set1 h (.cells ((u.set n true).map .bool) none)
  simpa [poolC] using this
theorem s57 {h rk n : Nat} {pv : V} {lives : Nat} (hl : lives < 200000) {words : Int} {cs sl : List V} (hn : n < 200000)
    (hh : Holds o s ((h, some (.cells [pv, rowV rk n, I lives] none)) :: (rk, rowO 1 n (cs ++ sl)) :: F)) (hlen : cs.length = n) (h0 : n = 0 → sl = [])
    (q : ∀ s' rk' k m sl', Holds o s' ((h, some (.cells [pv, rowV rk' (n + 1), I (lives + 1 : Nat)] none)) :: (rk', rowO 1 (n + 1) ((cs ++ [ptrN k]) ++ sl')) ::
      (k, some (.cells [I (lives + 1 : Nat), I words, .slice none 0 (some 0), I 0, .slice none 0 (some 0), .map (some (.new m))] none)) :: (m, some (.map [] 0)) :: F) → Q (.tuple []) s') :
    WP (call PF 57 [ptrN h, I words] s) Q := by
  rw [call_run F57]; simp -implicitDefEqProofs only [↓GP, GB, GL, Nat.reduceAdd, Nat.reduceSub, Nat.reduceEqDiff, Nat.reduceMul, Nat.reduceLeDiff, Int.reduceBNe, Int.reduceBEq, Nat.reduceLT, reduceCtorEq, c57, hh.f1, wrap_add1 (show lives < 2 ^ 62 by omega)]
  refine wp_append1 (((((hh.set0 _).alloc _).alloc _).alloc _).r4) (by simpa using hlen) ⟨sl.length, by simp⟩ h0 (new_cells' (alloc_new_same _ _) rfl) rfl rfl (by omega) (by unfold maxRow; omega) (by unfold maxRow; omega) fun rk' s1 sl' _ h2 => ?_
  have f := h2.r1.tl.r3.f1
  simp -implicitDefEqProofs only [↓GP, GB, GL, Nat.reduceAdd, Nat.reduceSub, Nat.reduceEqDiff, Nat.reduceMul, Nat.reduceLeDiff, Int.reduceBNe, Int.reduceBEq, Nat.reduceLT, reduceCtorEq, f]
  exact q _ _ _ _ sl' ((h2.r1.tl.r3).set0 _)
def Gone (C : Ch) (hv : V) : Prop := hv = .ptr none ∨ ∃ h c d, hv = ptrN h ∧ (h, some (.cells [.ptr none, c, d] none)) ∈ C
theorem Gone.mono {D : Ch} {hv : V} (h : Gone C hv) (hs : ∀ x ∈ C, x ∈ D) : Gone D hv := by
  rcases h with h | ⟨k, c, d, h, m⟩
  · exact .inl h
  · exact .inr ⟨k, c, d, h, hs _ m⟩
theorem s71_gone (hC : Holds o s C) {hv : V} (g : Gone C hv) : call PF 71 [hv] s = some (.bool true, s) := by
  rcases g with rfl | ⟨k, c, d, rfl, m⟩
  · rw [call_run F71]; simp -implicitDefEqProofs only [↓GP, GB, GL, Nat.reduceAdd, Nat.reduceSub, Nat.reduceEqDiff, Nat.reduceMul, Nat.reduceLeDiff, Int.reduceBNe, Int.reduceBEq, Nat.reduceLT, reduceCtorEq, c71]
  · have f := hC.mem m
    rw [call_run F71]; simp -implicitDefEqProofs only [↓GP, GB, GL, Nat.reduceAdd, Nat.reduceSub, Nat.reduceEqDiff, Nat.reduceMul, Nat.reduceLeDiff, Int.reduceBNe, Int.reduceBEq, Nat.reduceLT, reduceCtorEq, c71, f]
theorem s71 {h p : Nat} {c d : V} (f : s.new h = some (.cells [ptrN p, c, d] none)) : call PF 71 [ptrN h] s = some (.bool false, s) := by
  rw [call_run F71]; simp -implicitDefEqProofs only [↓GP, GB, GL, Nat.reduceAdd, Nat.reduceSub, Nat.reduceEqDiff, Nat.reduceMul, Nat.reduceLeDiff, Int.reduceBNe, Int.reduceBEq, Nat.reduceLT, reduceCtorEq, c71, f]
theorem s104_gone (hC : Holds o s C) {hv fv : V} (g : Gone C hv) : call PF 104 [hv, fv] s = some (I 6, s) := by
  have e := s71_gone hC g
  rw [call_run F104]; simp -implicitDefEqProofs only [↓GP, GB, GL, Nat.reduceAdd, Nat.reduceSub, Nat.reduceEqDiff, Nat.reduceMul, Nat.reduceLeDiff, Int.reduceBNe, Int.reduceBEq, Nat.reduceLT, reduceCtorEq, c104, e]
theorem s104 {h p g : Nat} {c d : V} {caps : List V} {b : Bool} (f : s.new h = some (.cells [ptrN p, c, d] none)) (hc : call PF g caps s = some (.bool b, s)) :
    call PF 104 [ptrN h, .func g [] caps] s = some (I (if b then 0 else 2), s) := by
  have e := s71 f
  cases b with
  | false => rw [call_run F104]; simp -implicitDefEqProofs only [↓GP, GB, GL, Nat.reduceAdd, Nat.reduceSub, Nat.reduceEqDiff, Nat.reduceMul, Nat.reduceLeDiff, Int.reduceBNe, Int.reduceBEq, Nat.reduceLT, reduceCtorEq, c104, e, hc]
  | true => rw [call_run F104]; simp -implicitDefEqProofs only [↓GP, GB, GL, Nat.reduceAdd, Nat.reduceSub, Nat.reduceEqDiff, Nat.reduceMul, Nat.reduceLeDiff, Int.reduceBNe, Int.reduceBEq, Nat.reduceLT, reduceCtorEq, c104, e, hc]
theorem s110 {h a b : Nat} {n : Int} {pv l : V} {rk m : Nat} (hm : 0 < m) (hm' : m < 2 ^ 62) (f : s.new a = some (.cells [I n] none)) (f' : s.new b = some (.cells [ptrN h] none)) (f'' : s.new h = some (.cells [pv, rowV rk m, l] none)) :
    call PF 110 [ptrN a, ptrN b] s = some (.bool (decide (0 ≤ n) && decide (n ≤ (m - 1 : Nat))), s) := by
  rw [call_run F110]; simp -implicitDefEqProofs only [↓GP, GB, GL, Nat.reduceAdd, Nat.reduceSub, Nat.reduceEqDiff, Nat.reduceMul, Nat.reduceLeDiff, Int.reduceBNe, Int.reduceBEq, Nat.reduceLT, reduceCtorEq, c110, f, f', f'', wrap_sub1 hm' hm, s56]
def AtErr (C : Ch) (hv : V) (n err : Int) : Prop := (Gone C hv ∧ err = 6) ∨ (err = 2 ∧ ∃ hp : PHeap, ∃ p, hv = ptrN hp.id ∧ (hp.id, some (hp.hd p)) ∈ C ∧ hp.regs ≠ [] ∧ hp.regs.length < 2 ^ 62 ∧ ¬ (0 ≤ n ∧ n < hp.regs.length))
theorem AtErr.ne {hv : V} {n err : Int} (h : AtErr C hv n err) : err = 6 ∨ err = 2 := by
  rcases h with ⟨_, h⟩ | ⟨h, _⟩
  · exact .inl h
  · exact .inr h
theorem s72_err (hC : Holds o s C) {hv : V} {n err : Int} (e : AtErr C hv n err) (hone : hv.one = true) (hcl : hv.cells = [hv]) (q : ∀ s', Holds o s' C → Q (.tuple [.ptr none, I err]) s') : WP (call PF 72 [hv, I n] s) Q := by
  rcases e with ⟨g, rfl⟩ | ⟨rfl, hp, p, rfl, m1, hne, hlen, hbad⟩
  · have h1 := (hC.alloc (.cells [hv] none)).alloc (.cells [I n] none)
    have e := fun fv => s104_gone (fv := fv) h1 (hv := hv) (g.mono fun x hx => List.mem_cons_of_mem _ (List.mem_cons_of_mem _ hx))
    have e0 : ((6 : Int) != 0) = true := rfl
    rw [call_run F72]; simp -implicitDefEqProofs only [↓GP, GB, GL, Nat.reduceAdd, Nat.reduceSub, Nat.reduceEqDiff, Nat.reduceMul, Nat.reduceLeDiff, Int.reduceBNe, Int.reduceBEq, Nat.reduceLT, reduceCtorEq, c72, hcl, hone, e, e0]
    exact q _ h1.tl.tl
  · have h1 := (hC.alloc (.cells [ptrN hp.id] none)).alloc (.cells [I n] none)
    have f := h1.f2
    have f' := h1.mem (List.mem_cons_of_mem _ (List.mem_cons_of_mem _ m1))
    have hpos : 0 < hp.regs.length := List.length_pos_iff.2 hne
    have hb : (decide (0 ≤ n) && decide (n ≤ (hp.regs.length - 1 : Nat))) = false := by
      rw [Bool.and_eq_false_iff, decide_eq_false_iff_not, decide_eq_false_iff_not]; omega
    have e := s104 (g := 110) (caps := [ptrN (s.next + 1), ptrN s.next]) f'.1 (s110 hpos hlen f.1.1 f.2.1.1 f'.1)
    rw [hb] at e
    rw [call_run F72]; simp -implicitDefEqProofs only [↓GP, GB, GL, Nat.reduceAdd, Nat.reduceSub, Nat.reduceEqDiff, Nat.reduceMul, Nat.reduceLeDiff, Int.reduceBNe, Int.reduceBEq, Nat.reduceLT, reduceCtorEq, c72, e, List.map_cons, Int.reduceBNe]
    exact q _ h1.tl.tl
theorem s72 (hC : Holds o s C) {hp : PHeap} {p i : Nat} (m1 : (hp.id, some (hp.hd p)) ∈ C) (m2 : (hp.rowk, hp.row) ∈ C) (hlen : hp.regs.length < 2 ^ 62) {r : PReg} (hr : hp.regs[i]? = some r) (q : ∀ s', Holds o s' C → Q (.tuple [ptrN r.id, I 0]) s') :
    WP (call PF 72 [ptrN hp.id, I i] s) Q := by
  have h1 := (hC.alloc (.cells [ptrN hp.id] none)).alloc (.cells [I i] none)
  have f := h1.f2
  have f' := h1.mem (List.mem_cons_of_mem _ (List.mem_cons_of_mem _ m1))
  have hi : i < hp.regs.length := (List.getElem?_eq_some_iff.1 hr).1
  unfold PHeap.row at m2
  rw [rowO_pos (by omega)] at m2
  have f2 := hC.mem m2
  have f0 := hC.mem m1
  have hb : (decide (0 ≤ (i : Int)) && decide ((i : Int) ≤ (hp.regs.length - 1 : Nat))) = true := by
    rw [Bool.and_eq_true, decide_eq_true_eq, decide_eq_true_eq]; omega
  have e := s104 (g := 110) (caps := [ptrN (s.next + 1), ptrN s.next]) f'.1 (s110 (by omega) hlen f.1.1 f.2.1.1 f'.1)
  rw [hb] at e
  have hg : (hp.regs.map (fun r => ptrN r.id) ++ hp.sl)[i]? = some (ptrN r.id) := by
    rw [List.getElem?_append_left (by simpa using hi), List.getElem?_map, hr]; rfl
  have f3 : hp.hd p = .cells [ptrN p, rowV hp.rowk hp.regs.length, I hp.lives] none := rfl
  rw [call_run F72]; simp -implicitDefEqProofs only [↓GP, GB, GL, Nat.reduceAdd, Nat.reduceSub, Nat.reduceEqDiff, Nat.reduceMul, Nat.reduceLeDiff, Int.reduceBNe, Int.reduceBEq, Nat.reduceLT, reduceCtorEq, c72, e, f0, f3, f2, ix_row hi, hg]
  exact q _ h1.tl.tl
end
end Go.Proofs.Ytoldkemimhebaaa

set_option linter.unusedSimpArgs false
set_option linter.unusedVariables false
namespace Go.Proofs.Ytoldkemimhebaaa
open Go Go.IM
def l76_0 : IC := (.seq (.seq (.region [oa 14 (.bin .lss (.t 13) (.t 12))] (kp 46 [0,1,11,12,13,14]))
  (.seq (.cond (.t 14)
  (sk 46 [0,1,11,12,13])
  (sx 46 [1] 0))
  (.seq (.block 1
  (.seq (.region [oa 15 (.indexAddr 1 (.t 11) (.t 13)), oa 16 (.load none (.t 15)), oa 6 (.mov (.t 16))] (kp 46 [0,1,6,11,12,13]))
  (.region [oa 17 (.mov (.t 0)), oa 18 (.nilCheck (.t 17)), oa 19 (.fieldAddr 0 (.t 18)), oa 20 (.load none (.t 19)), oa 21 (.nilCheck (.t 20)), oa 22 (.fieldAddr 0 (.t 21)), oa 23 (.load none (.t 22)), oa 24 (.mov (.t 6)), oa 25 (.indexAddr 1 (.t 23) (.t 24)), ob (.store 1 (.t 25) (.c (.bool false)))] (kp 46 [0,1,11,12,13]))))
  (.region [oa 26 (.bin .add (.t 13) (ai 1)), oa 13 (.mov (.t 26))] (kp 46 [0,1,11,12,13])))))
  (sk 46 [0,1,11,12,13]))
def c76 : IFn := ⟨46, [(4, none)],
  (.seq (.region [oa 4 (.mov (ai 0))] (kp 46 [0,1]))
  (.seq (.seq (.region [oa 8 (.mov (.t 1)), oa 9 (.nilCheck (.t 8)), oa 10 (.fieldAddr 2 (.t 9)), oa 11 (.load none (.t 10)), oa 12 (.lenSlice (.t 11)), oa 13 (.mov (ai 0))] (kp 46 [0,1,11,12,13]))
  (.block 0
  (.seq (sk 46 [0,1,11,12,13])
  (.loop l76_0))))
  (.seq (.region [oa 27 (.mov (.t 1)), oa 28 (.nilCheck (.t 27)), oa 29 (.fieldAddr 2 (.t 28)), oa 30 (.load none (.t 29)), oa 31 (.lenSlice (.t 30)), oa 7 (.mov (.t 31))] (kp 46 [1,7]))
  (.seq (.region [oa 32 (.mov (.t 1)), oa 33 (.mov (.t 1)), oa 34 (.mov (.t 1)), oa 35 (.mov (.t 1)), oa 36 .mkMap, oa 37 (.nilCheck (.t 32)), oa 38 (.fieldAddr 2 (.t 37)), ob (.store 1 (.t 38) (.c (.slice none 0 (some 0)))), oa 39 (.nilCheck (.t 33)), oa 40 (.fieldAddr 3 (.t 39)), ob (.store 1 (.t 40) (ai 0)), oa 41 (.nilCheck (.t 34)), oa 42 (.fieldAddr 4 (.t 41)), ob (.store 1 (.t 42) (.c (.slice none 0 (some 0)))), oa 43 (.nilCheck (.t 35)), oa 44 (.fieldAddr 5 (.t 43)), ob (.store 1 (.t 44) (.t 36))] (kp 46 [7]))
  (.seq (.region [oa 45 (.mov (.t 7)), oa 4 (.mov (.t 45))] (kp 46 [4]))
  (sr 46 [4]))))))⟩
theorem F76 : shutF Try.prog 76 = some c76 := by kernel_rfl
def c32 : IFn := ⟨41, [(2, none), (3, none)],
  (.seq (.region [oa 2 (.mov (ai 0)), oa 3 (.mov (ai 0))] (kp 41 [0]))
  (.seq (.block 0
  (.seq (.region [oa 7 (.mov (.t 0)), oa 8 (.call 71 [(.t 7)]), oa 6 (.mov (.t 8))] (kp 41 [0,6]))
  (.cond (.t 6)
  (.seq (.region [oa 2 (.mov (ai 0)), oa 3 (.mov (ai 6))] (kp 41 [2,3]))
  (sr 41 [2,3]))
  (.seq (.region [oa 10 (.mov (.t 0)), oa 11 (.nilCheck (.t 10)), oa 12 (.fieldAddr 1 (.t 11)), oa 13 (.load none (.t 12)), oa 14 (.lenSlice (.t 13)), oa 15 (.bin .eql (.t 14) (ai 1)), oa 9 (.mov (.t 15))] (kp 41 [0,9]))
  (.cond (.t 9)
  (.seq (.region [oa 2 (.mov (ai 0)), oa 3 (.mov (ai 5))] (kp 41 [2,3]))
  (sr 41 [2,3]))
  (sk 41 [0]))))))
  (.seq (.region [oa 16 (.mov (.t 0)), oa 17 (.nilCheck (.t 16)), oa 18 (.fieldAddr 1 (.t 17)), oa 19 (.load none (.t 18)), oa 20 (.lenSlice (.t 19)), oa 21 (.bin .sub (.t 20) (ai 1)), oa 4 (.mov (.t 21))] (kp 41 [0,4]))
  (.seq (.region [oa 22 (.mov (.t 0)), oa 23 (.mov (.t 0)), oa 24 (.nilCheck (.t 23)), oa 25 (.fieldAddr 1 (.t 24)), oa 26 (.load none (.t 25)), oa 27 (.mov (.t 4)), oa 28 (.indexAddr 1 (.t 26) (.t 27)), oa 29 (.load none (.t 28)), oa 30 (.call 76 [(.t 22), (.t 29)]), oa 5 (.mov (.t 30))] (kp 41 [0,4,5]))
  (.seq (.region [oa 31 (.mov (.t 0)), oa 32 (.mov (.t 0)), oa 33 (.nilCheck (.t 32)), oa 34 (.fieldAddr 1 (.t 33)), oa 35 (.load none (.t 34)), oa 36 (.mov (.t 4)), oa 37 (.slice 1 (.t 35) none (some (.t 36)) none), oa 38 (.nilCheck (.t 31)), oa 39 (.fieldAddr 1 (.t 38)), ob (.store 1 (.t 39) (.t 37))] (kp 41 [5]))
  (.seq (.region [oa 40 (.mov (.t 5)), oa 2 (.mov (.t 40)), oa 3 (.mov (ai 0))] (kp 41 [2,3]))
  (sr 41 [2,3])))))))⟩
theorem F32 : shutF Try.prog 32 = some c32 := by kernel_rfl
def c31 : IFn := ⟨47, [(4, none), (5, none)],
  (.seq (.region [oa 4 (.mov (ai 0)), oa 5 (.mov (ai 0))] (kp 47 [0,1]))
  (.seq (.region [oa 9 (.mov (.t 0)), oa 10 (.mov (.t 1)), oa 11 (.call 72 [(.t 9), (.t 10)]), oa 8 (.mov (.t 11)), oa 12 (.extract (.t 8) 0), oa 13 (.extract (.t 8) 1), oa 6 (.mov (.t 12)), oa 7 (.mov (.t 13))] (kp 47 [0,6,7]))
  (.seq (.seq (.region [oa 14 (.mov (.t 7)), oa 15 (.bin .eql (.t 14) (ai 0)), oa 16 (.mov (.t 15)), oc 17 (.mov (.t 0)) 16 tt, oc 18 (.nilCheck (.t 17)) 16 tt, oc 19 (.fieldAddr 2 (.t 18)) 16 tt, oc 20 (.load none (.t 19)) 16 tt, oc 21 (.bin .geq (.t 20) (ai 100000)) 16 tt, oa 22 (.pick (.t 16) (.t 21) (.c (.bool false)))] (kp 47 [0,6,7,22]))
  (.cond (.t 22)
  (.region [oa 7 (.mov (ai 4))] (kp 47 [0,6,7]))
  (sk 47 [0,6,7])))
  (.seq (.seq (.region [oa 23 (.mov (.t 7)), oa 24 (.bin .neq (.t 23) (ai 0))] (kp 47 [0,6,7,24]))
  (.cond (.t 24)
  (.seq (.region [oa 25 (.mov (.t 7)), oa 4 (.mov (ai 0)), oa 5 (.mov (.t 25))] (kp 47 [4,5]))
  (sr 47 [4,5]))
  (sk 47 [0,6])))
  (.seq (.region [oa 26 (.mov (.t 0)), oa 27 (.mov (.t 6)), oa 28 (.call 76 [(.t 26), (.t 27)])] (kp 47 [0,6]))
  (.seq (.region [oa 29 (.mov (.t 0)), oa 30 (.nilCheck (.t 29)), oa 31 (.fieldAddr 2 (.t 30)), oa 32 (.load none (.t 31)), oa 33 (.bin .add (.t 32) (ai 1)), oa 34 (.nilCheck (.t 29)), oa 35 (.fieldAddr 2 (.t 34)), ob (.store 1 (.t 35) (.t 33))] (kp 47 [0,6]))
  (.seq (.region [oa 36 (.mov (.t 6)), oa 37 (.mov (.t 0)), oa 38 (.nilCheck (.t 37)), oa 39 (.fieldAddr 2 (.t 38)), oa 40 (.load none (.t 39)), oa 41 (.nilCheck (.t 36)), oa 42 (.fieldAddr 0 (.t 41)), ob (.store 1 (.t 42) (.t 40))] (kp 47 [6]))
  (.seq (.region [oa 43 (.mov (.t 6)), oa 44 (.nilCheck (.t 43)), oa 45 (.fieldAddr 0 (.t 44)), oa 46 (.load none (.t 45)), oa 4 (.mov (.t 46)), oa 5 (.mov (ai 0))] (kp 47 [4,5]))
  (sr 47 [4,5])))))))))⟩
theorem F31 : shutF Try.prog 31 = some c31 := by kernel_rfl
section
variable {o : Nat → Option O} {s : St} {C F : Ch} {Q : V → St → Prop}
set_option maxRecDepth 10000
theorem pages_get {l : List Nat} {i : Nat} (h : i < l.length) : (l.map fun n : Nat => I n)[i]? = some (I l[i]) := by simp [h]
theorem gives_loop {h p r pgk : Nat} {pages : List Nat} {c d gp : V} {K : Kt} (mh : (h, some (.cells [ptrN p, c, d] none)) ∈ C) (mp : (pgk, pagesO pages) ∈ C) (hpl : pages.length ≤ 400) :
    ∀ (m i : Nat) (u : List Bool) (s : St), i + m = pages.length → u.length ≤ 400 → (∀ x ∈ pages, x < u.length) → Holds o s (poolC p r u ++ C) →
    (∀ s', Holds o s' (poolC p r (freeP u (pages.drop i)) ++ C) → WP (K (.exit 0) (sp 46 [(1, gp)]) s') Q) →
    WP (loop PF (.loop l76_0) (sp 46 [(0, ptrN h), (1, gp), (11, rowV pgk pages.length), (12, I pages.length), (13, I i)]) s K) Q
  | 0, i, u, s, hi, hu, hx, H, q => by
    have hlt : ¬ ((i : Int) < (pages.length : Int)) := by omega
    refine wp_round fun LL hLL => ?_
    simp -implicitDefEqProofs only [↓GP, GB, GL, Nat.reduceAdd, Nat.reduceSub, Nat.reduceEqDiff, Nat.reduceMul, Nat.reduceLeDiff, Int.reduceBNe, Int.reduceBEq, Nat.reduceLT, reduceCtorEq, l76_0, hlt]
    refine q _ ?_
    rw [List.drop_eq_nil_of_le (by omega)]
    exact H
  | m + 1, i, u, s, hi, hu, hx, H, q => by
    have hlt : ((i : Int) < (pages.length : Int)) := by omega
    have hi' : i < pages.length := by omega
    have fh := H.mem (List.mem_append_right _ mh)
    rw [pagesO, rowO_pos (by omega)] at mp
    have fp := H.mem (List.mem_append_right _ mp)
    have f := Holds.f2 H
    have hpi : pages[i] < u.length := hx _ (List.getElem_mem hi')
    have hl : pages[i] < (u.map V.bool).length := by simpa using hpi
    have hw := wrap_add1 (a := i) (by omega)
    refine wp_round fun LL hLL => ?_
    simp -implicitDefEqProofs only [↓GP, GB, GL, Nat.reduceAdd, Nat.reduceSub, Nat.reduceEqDiff, Nat.reduceMul, Nat.reduceLeDiff, Int.reduceBNe, Int.reduceBEq, Nat.reduceLT, reduceCtorEq, l76_0, hlt, ix_row hi', fp, fh, f, pages_get hi', ix_cell hpi, hl, set_map, hw]
    rw [hLL]
    refine gives_loop (r := r) mh (by rw [pagesO, rowO_pos (by omega)]; exact mp) hpl m (i + 1) (u.set pages[i] false) _ (by omega) (by simpa using hu) (by simpa using hx) ?_ fun s' h' => q s' ?_
    · have := Holds.set1 H (.cells ((u.set pages[i] false).map .bool) none)
      simpa [poolC] using this
    · rw [List.drop_eq_getElem_cons hi']; exact h'
theorem s76 {h p r : Nat} {u : List Bool} {c d : V} {g : PReg} (H : Holds o s (poolC p r u ++ (g.ch ++ F))) (hu : u.length ≤ 400) (mh : (h, some (.cells [ptrN p, c, d] none)) ∈ F)
    (hp : ∀ x ∈ g.pages, x < u.length) (hpl : g.pages.length ≤ 400)
    (q : ∀ s' k, Holds o s' (poolC p r (freeP u g.pages) ++ (({ g with fill := 0, pages := [], objs := [], plk := k, pl := .map [] 0 } : PReg).ch ++ (g.objs.flatMap PObj.ch ++ F))) → Q (I g.pages.length) s') :
    WP (call PF 76 [ptrN h, ptrN g.id] s) Q := by
  have f := H.mem (List.mem_append_right _ (List.mem_append_left _ (List.mem_cons_self ..)))
  rw [call_run F76]; simp -implicitDefEqProofs only [↓GP, GB, GL, Nat.reduceAdd, Nat.reduceSub, Nat.reduceEqDiff, Nat.reduceMul, Nat.reduceLeDiff, Int.reduceBNe, Int.reduceBEq, Nat.reduceLT, reduceCtorEq, c76, f, PReg.hd]
  refine gives_loop (List.mem_append_right _ mh) (List.mem_append_left _ (List.mem_cons_of_mem _ (List.mem_cons_self ..))) hpl g.pages.length 0 u s (by omega) hu hp H fun s1 h1 => ?_
  rw [List.drop_zero] at h1
  have f := h1.mem (List.mem_append_right _ (List.mem_append_left _ (List.mem_cons_self ..)))
  simp -implicitDefEqProofs only [↓GP, GB, GL, Nat.reduceAdd, Nat.reduceSub, Nat.reduceEqDiff, Nat.reduceMul, Nat.reduceLeDiff, Int.reduceBNe, Int.reduceBEq, Nat.reduceLT, reduceCtorEq, f, PReg.hd]
  refine q _ s1.next ?_
  have h2 := ((((h1.alloc (.map [] 0)).set3 (.cells [I g.life, I g.size, .slice none 0 (some 0), I g.fill, rowV g.obk g.objs.length, .map (some (.new g.plk))] none)).set3
    (.cells [I g.life, I g.size, .slice none 0 (some 0), I 0, rowV g.obk g.objs.length, .map (some (.new g.plk))] none)).set3
    (.cells [I g.life, I g.size, .slice none 0 (some 0), I 0, .slice none 0 (some 0), .map (some (.new g.plk))] none)).set3
    (.cells [I g.life, I g.size, .slice none 0 (some 0), I 0, .slice none 0 (some 0), .map (some (.new s1.next))] none)
  exact (Holds.of (h2) (fun k => by simp +arith only [PReg.hd, rowV_zero, List.length_nil, Int.natCast_zero, HA, HB]) (fun k x => by simp only [PReg.hd, rowV_zero, List.length_nil, Int.natCast_zero, HA, HC]; grind only))
theorem s32_one (hC : Holds o s C) {hp : PHeap} {p : Nat} (m1 : (hp.id, some (hp.hd p)) ∈ C) (h1 : hp.regs.length = 1) : call PF 32 [ptrN hp.id] s = some (.tuple [I 0, I 5], s) := by
  have f := hC.mem m1
  unfold PHeap.hd at f
  have e := s71 f.1
  rw [call_run F32]; simp -implicitDefEqProofs only [↓GP, GB, GL, Nat.reduceAdd, Nat.reduceSub, Nat.reduceEqDiff, Nat.reduceMul, Nat.reduceLeDiff, Int.reduceBNe, Int.reduceBEq, Nat.reduceLT, reduceCtorEq, c32, e, f, h1, Int.cast_ofNat_Int]
theorem s32 {hp : PHeap} {p r : Nat} {u : List Bool} {A : List PReg} {g : PReg} (H : Holds o s (poolC p r u ++ (hp.ch p ++ F))) (hr : hp.regs = A ++ [g]) (hA : A ≠ []) (hlen : hp.regs.length ≤ 100000) (hu : u.length ≤ 400)
    (hp' : ∀ x ∈ g.pages, x < u.length) (hpl : g.pages.length ≤ 400)
    (q : ∀ s', Holds o s' (poolC p r (freeP u g.pages) ++ (({ hp with regs := A, sl := ptrN g.id :: hp.sl } : PHeap).ch p ++ F)) → Q (.tuple [I g.pages.length, I 0]) s') : WP (call PF 32 [ptrN hp.id] s) Q := by
  obtain ⟨id, rk, lives, regs, sl⟩ := hp
  simp only at hr
  subst hr
  have hApos : 0 < A.length := List.length_pos_iff.2 hA
  simp only [List.length_append, List.length_cons, List.length_nil] at hlen
  have hrow : PHeap.row ⟨id, rk, lives, A ++ [g], sl⟩ = some (.cells (A.map (fun r => ptrN r.id) ++ ptrN g.id :: sl) (some 1)) := by
    unfold PHeap.row; rw [rowO_pos (by simp)]; simp
  have hrow' : PHeap.row ⟨id, rk, lives, A, ptrN g.id :: sl⟩ = some (.cells (A.map (fun r => ptrN r.id) ++ ptrN g.id :: sl) (some 1)) := by
    unfold PHeap.row; rw [rowO_pos hApos]
  have hw : wrapI .i64 (((A.length + 1 : Nat) : Int) - 1) = I (A.length : Nat) := by rw [wrap_sub1 (by omega) (by omega)]; rfl
  have hne : (((A.length + 1 : Nat) : Int) == 1) = false := by simp; omega
  have H1 : Holds o s ((id, some (.cells [ptrN p, rowV rk (A.length + 1), I lives] none)) :: (rk, some (.cells (A.map (fun r => ptrN r.id) ++ ptrN g.id :: sl) (some 1))) :: (poolC p r u ++ (g.ch ++ (A.flatMap PReg.ch ++ F)))) := (Holds.of (H) (fun k => by simp +arith only [hrow, PHeap.hd, List.length_append, List.length_cons, List.length_nil, Nat.zero_add, HA, HB]) (fun k x => by simp only [hrow, PHeap.hd, List.length_append, List.length_cons, List.length_nil, Nat.zero_add, HA, HC]; grind only))
  have f := H1.f2
  have e := s71 f.1.1
  have hg : (A.map (fun r => ptrN r.id) ++ ptrN g.id :: sl)[A.length]? = some (ptrN g.id) := by simp
  rw [call_run F32]; simp -implicitDefEqProofs only [↓GP, GB, GL, Nat.reduceAdd, Nat.reduceSub, Nat.reduceEqDiff, Nat.reduceMul, Nat.reduceLeDiff, Int.reduceBNe, Int.reduceBEq, Nat.reduceLT, reduceCtorEq, c32, e, f, hne, hw, ix_row (show A.length < A.length + 1 by omega), hg]
  refine wp_in (s76 (r := r) (u := u) (g := g) (F := (id, some (.cells [ptrN p, rowV rk (A.length + 1), I lives] none)) :: (rk, some (.cells (A.map (fun r => ptrN r.id) ++ ptrN g.id :: sl) (some 1))) :: (A.flatMap PReg.ch ++ F)) (Holds.of (H1) (fun k => by simp +arith only [HA, HB]) (fun k x => by simp only [HA, HC]; grind only)) hu (List.mem_cons_self ..) hp' hpl fun s1 k h1 => ?_)
  have h2 : Holds o s1 ((id, some (.cells [ptrN p, rowV rk (A.length + 1), I lives] none)) :: (rk, some (.cells (A.map (fun r => ptrN r.id) ++ ptrN g.id :: sl) (some 1))) :: (poolC p r (freeP u g.pages) ++ (A.flatMap PReg.ch ++ F))) := (Holds.of (h1) (fun k => by simp +arith only [HA, HB]) (fun k x => by simp only [HA, HC]; grind only))
  have f := h2.f2
  simp -implicitDefEqProofs only [↓GP, GB, GL, Nat.reduceAdd, Nat.reduceSub, Nat.reduceEqDiff, Nat.reduceMul, Nat.reduceLeDiff, Int.reduceBNe, Int.reduceBEq, Nat.reduceLT, reduceCtorEq, f, slice_row hApos (show A.length ≤ A.length + 1 by omega), Option.map_none]
  refine q _ ?_
  have h3 := h2.set0 (.cells [ptrN p, rowV rk A.length, I lives] none)
  exact (Holds.of (h3) (fun k => by simp +arith only [hrow', PHeap.hd, HA, HB]) (fun k x => by simp only [hrow', PHeap.hd, HA, HC]; grind only))
theorem s31_err (hC : Holds o s C) {hv : V} {n err : Int} (e : AtErr C hv n err) (hone : hv.one = true) (hcl : hv.cells = [hv]) (q : ∀ s', Holds o s' C → Q (.tuple [I 0, I err]) s') : WP (call PF 31 [hv, I n] s) Q := by
  rw [call_run F31]; simp -implicitDefEqProofs only [↓GP, GB, GL, Nat.reduceAdd, Nat.reduceSub, Nat.reduceEqDiff, Nat.reduceMul, Nat.reduceLeDiff, Int.reduceBNe, Int.reduceBEq, Nat.reduceLT, reduceCtorEq, c31]
  refine wp_in (s72_err hC e hone hcl fun s1 h1 => ?_)
  rcases e.ne with rfl | rfl
  · simp -implicitDefEqProofs only [↓GP, GB, GL, Nat.reduceAdd, Nat.reduceSub, Nat.reduceEqDiff, Nat.reduceMul, Nat.reduceLeDiff, Int.reduceBNe, Int.reduceBEq, Nat.reduceLT, reduceCtorEq, Int.reduceBEq, Int.reduceBNe]
    exact q _ h1
  · simp -implicitDefEqProofs only [↓GP, GB, GL, Nat.reduceAdd, Nat.reduceSub, Nat.reduceEqDiff, Nat.reduceMul, Nat.reduceLeDiff, Int.reduceBNe, Int.reduceBEq, Nat.reduceLT, reduceCtorEq, Int.reduceBEq, Int.reduceBNe]
    exact q _ h1
theorem s31_full (hC : Holds o s C) {hp : PHeap} {p i : Nat} (m1 : (hp.id, some (hp.hd p)) ∈ C) (m2 : (hp.rowk, hp.row) ∈ C) (hlen : hp.regs.length < 2 ^ 62) {r : PReg} (hr : hp.regs[i]? = some r) (hl : 100000 ≤ hp.lives)
    (q : ∀ s', Holds o s' C → Q (.tuple [I 0, I 4]) s') : WP (call PF 31 [ptrN hp.id, I i] s) Q := by
  rw [call_run F31]; simp -implicitDefEqProofs only [↓GP, GB, GL, Nat.reduceAdd, Nat.reduceSub, Nat.reduceEqDiff, Nat.reduceMul, Nat.reduceLeDiff, Int.reduceBNe, Int.reduceBEq, Nat.reduceLT, reduceCtorEq, c31]
  refine wp_in (s72 hC m1 m2 hlen hr fun s1 h1 => ?_)
  have f := h1.mem m1
  unfold PHeap.hd at f
  have h0 : ((hp.lives : Int) ≥ 100000) := by omega
  simp -implicitDefEqProofs only [↓GP, GB, GL, Nat.reduceAdd, Nat.reduceSub, Nat.reduceEqDiff, Nat.reduceMul, Nat.reduceLeDiff, Int.reduceBNe, Int.reduceBEq, Nat.reduceLT, reduceCtorEq, f, h0, Int.reduceBNe]
  exact q _ h1
theorem s31 {hp : PHeap} {p r : Nat} {u : List Bool} {A B : List PReg} {g : PReg} (H : Holds o s (poolC p r u ++ (hp.ch p ++ F))) (hr : hp.regs = A ++ g :: B) (hlen : hp.regs.length ≤ 100000) (hu : u.length ≤ 400)
    (hp' : ∀ x ∈ g.pages, x < u.length) (hpl : g.pages.length ≤ 400) (hl : hp.lives < 100000)
    (q : ∀ s' k, Holds o s' (poolC p r (freeP u g.pages) ++ (({ hp with lives := hp.lives + 1, regs := A ++ { g with life := hp.lives + 1, fill := 0, pages := [], objs := [], plk := k, pl := .map [] 0 } :: B } : PHeap).ch p ++ F)) →
      Q (.tuple [I (hp.lives + 1 : Nat), I 0]) s') : WP (call PF 31 [ptrN hp.id, I A.length] s) Q := by
  obtain ⟨id, rk, lives, regs, sl⟩ := hp
  simp only at hr
  subst hr
  rw [call_run F31]; simp -implicitDefEqProofs only [↓GP, GB, GL, Nat.reduceAdd, Nat.reduceSub, Nat.reduceEqDiff, Nat.reduceMul, Nat.reduceLeDiff, Int.reduceBNe, Int.reduceBEq, Nat.reduceLT, reduceCtorEq, c31]
  refine wp_in (s72 (hp := ⟨id, rk, lives, A ++ g :: B, sl⟩) (r := g) (p := p) H (by simp [PHeap.ch]) (by simp [PHeap.ch]) (by simp only at hlen ⊢; omega) (by simp) fun s1 h1 => ?_)
  have f := h1.mem (k := id) (x := PHeap.hd p ⟨id, rk, lives, A ++ g :: B, sl⟩) (by simp [PHeap.ch])
  unfold PHeap.hd at f
  simp only at hl hlen
  have h0 : ¬ ((lives : Int) ≥ 100000) := by omega
  simp -implicitDefEqProofs only [↓GP, GB, GL, Nat.reduceAdd, Nat.reduceSub, Nat.reduceEqDiff, Nat.reduceMul, Nat.reduceLeDiff, Int.reduceBNe, Int.reduceBEq, Nat.reduceLT, reduceCtorEq, f, h0, Int.reduceBNe]
  refine wp_in (s76 (r := r) (u := u) (g := g) (F := (id, some (PHeap.hd p ⟨id, rk, lives, A ++ g :: B, sl⟩)) :: (rk, PHeap.row ⟨id, rk, lives, A ++ g :: B, sl⟩) :: (A.flatMap PReg.ch ++ (B.flatMap PReg.ch ++ F))) (Holds.of (h1) (fun k => by simp +arith only [HA, HB]) (fun k x => by simp only [HA, HC]; grind only)) hu (List.mem_cons_self ..) hp' hpl fun s2 k h2 => ?_)
  have h3 : Holds o s2 ((id, some (.cells [ptrN p, rowV rk (A.length + (B.length + 1)), I lives] none)) :: (g.id, some (.cells [I g.life, I g.size, .slice none 0 (some 0), I 0, .slice none 0 (some 0), .map (some (.new k))] none)) ::
    (poolC p r (freeP u g.pages) ++ ((rk, PHeap.row ⟨id, rk, lives, A ++ g :: B, sl⟩) :: (k, some (.map [] 0)) :: (A.flatMap PReg.ch ++ (B.flatMap PReg.ch ++ F))))) := (Holds.of (h2) (fun k => by simp +arith only [PHeap.hd, PReg.hd, rowV_zero, List.length_nil, Int.natCast_zero, List.length_append, List.length_cons, HA, HB]) (fun k x => by simp only [PHeap.hd, PReg.hd, rowV_zero, List.length_nil, Int.natCast_zero, List.length_append, List.length_cons, HA, HC]; grind only))
  have f := h3.f2
  simp -implicitDefEqProofs only [↓GP, GB, GL, Nat.reduceAdd, Nat.reduceSub, Nat.reduceEqDiff, Nat.reduceMul, Nat.reduceLeDiff, Int.reduceBNe, Int.reduceBEq, Nat.reduceLT, reduceCtorEq, f, wrap_add1 (show lives < 2 ^ 62 by omega)]
  refine q _ k ?_
  have h4 := (h3.set0 (.cells [ptrN p, rowV rk (A.length + (B.length + 1)), I (lives + 1 : Nat)] none)).set1 (.cells [I (lives + 1 : Nat), I g.size, .slice none 0 (some 0), I 0, .slice none 0 (some 0), .map (some (.new k))] none)
  exact (Holds.of (h4) (fun k => by simp +arith only [PHeap.hd, PReg.hd, PHeap.row, rowV_zero, List.length_nil, Int.natCast_zero, List.length_append, List.length_cons, List.map_append, List.map_cons, HA, HB]) (fun k x => by simp only [PHeap.hd, PReg.hd, PHeap.row, rowV_zero, List.length_nil, Int.natCast_zero, List.length_append, List.length_cons, List.map_append, List.map_cons, HA, HC]; grind only))
end
end Go.Proofs.Ytoldkemimhebaaa

set_option linter.unusedSimpArgs false
set_option linter.unusedVariables false
namespace Go.Proofs.Ytoldkemimhebaaa
open Go Go.IM
def j77_bbaabbbbbb : IC := (.seq (.region [oa 26 (.mov (.t 1)), oa 27 (.mov (.t 1)), oa 28 (.nilCheck (.t 27)), oa 29 (.fieldAddr 2 (.t 28)), oa 30 (.load none (.t 29)), oa 31 (.mov (.t 8)), oa 32 (.buildSlice 1 [(.int .i64 (0))] [(0, 1, (.t 31))]), oa 33 (.append 1 8 (.t 30) (.t 32)), oa 34 (.nilCheck (.t 26)), oa 35 (.fieldAddr 2 (.t 34)), ob (.store 1 (.t 35) (.t 33))] (kp 123 [1,2,7,8]))
  (.region [oa 36 (.mov (.t 2)), oa 37 (.mov (.t 1)), oa 38 (.mov (.t 8)), oa 39 (.bin .mul (.t 38) (ai 32)), oa 40 (.mov (.t 7)), oa 41 (.nilCheck (.t 36)), oa 42 (.fieldAddr 0 (.t 41)), ob (.store 1 (.t 42) (.t 39)), oa 43 (.nilCheck (.t 37)), oa 44 (.fieldAddr 3 (.t 43)), ob (.store 1 (.t 44) (.t 40))] (kp 123 [1,2])))
def j77_bbb : IC := (.seq (.region [oa 104 (.mov (.t 1)), oa 105 (.mov (.t 1)), oa 106 (.nilCheck (.t 105)), oa 107 (.fieldAddr 4 (.t 106)), oa 108 (.load none (.t 107)), oa 109 (.mov (.t 2)), oa 110 (.buildSlice 1 [(.ptr none)] [(0, 1, (.t 109))]), oa 111 (.append 1 8 (.t 108) (.t 110)), oa 112 (.nilCheck (.t 104)), oa 113 (.fieldAddr 4 (.t 112)), ob (.store 1 (.t 113) (.t 111))] (kp 123 [1,2]))
  (.seq (.region [oa 114 (.mov (.t 1)), oa 115 (.nilCheck (.t 114)), oa 116 (.fieldAddr 5 (.t 115)), oa 117 (.load none (.t 116)), oa 118 (.mov (.t 2)), oa 119 (.nilCheck (.t 118)), oa 120 (.fieldAddr 0 (.t 119)), oa 121 (.load none (.t 120)), oa 122 (.mov (.t 2)), ob (.mapSet (.one .i) (.t 117) (.t 121) (.t 122))] (kp 123 []))
  (.seq (.region [oa 6 (.mov (.c (.bool true)))] (kp 123 [6]))
  (sr 123 [6]))))
def c77 : IFn := ⟨123, [(6, none)],
  (.seq (.region [oa 6 (.mov (.c (.bool false)))] (kp 123 [0,1,2]))
  (.seq (.region [oa 10 (.mov (.t 2)), oa 11 (.nilCheck (.t 10)), oa 12 (.fieldAddr 2 (.t 11)), oa 13 (.load none (.t 12)), oa 14 (.lenSlice (.t 13)), oa 15 (.bin .add (.t 14) (ai 1)), oa 7 (.mov (.t 15))] (kp 123 [0,1,2,7]))
  (.seq (.block 0
  (.seq (.region [oa 46 (.mov (.t 1)), oa 47 (.nilCheck (.t 46)), oa 48 (.fieldAddr 1 (.t 47)), oa 49 (.load none (.t 48)), oa 50 (.bin .gtr (.t 49) (ai 0)), oa 45 (.mov (.t 50))] (kp 123 [0,1,2,7,45]))
  (.cond (.t 45)
  (.region [oa 51 (.mov (.t 2)), oa 52 (.mov (.t 1)), oa 53 (.nilCheck (.t 52)), oa 54 (.fieldAddr 0 (.t 53)), oa 55 (.load none (.t 54)), oa 56 (.bin .add (ai 1000000) (.t 55)), oa 57 (.nilCheck (.t 51)), oa 58 (.fieldAddr 0 (.t 57)), ob (.store 1 (.t 58) (.t 56))] (kp 123 [1,2]))
  (.seq (.region [oa 60 (.mov (.t 1)), oa 61 (.nilCheck (.t 60)), oa 62 (.fieldAddr 2 (.t 61)), oa 63 (.load none (.t 62)), oa 64 (.lenSlice (.t 63)), oa 65 (.bin .gtr (.t 64) (ai 0)), oa 66 (.mov (.t 65)), oc 67 (.mov (.t 1)) 66 tt, oc 68 (.nilCheck (.t 67)) 66 tt, oc 69 (.fieldAddr 3 (.t 68)) 66 tt, oc 70 (.load none (.t 69)) 66 tt, oc 71 (.mov (.t 7)) 66 tt, oc 72 (.bin .add (.t 70) (.t 71)) 66 tt, oc 73 (.bin .leq (.t 72) (ai 32)) 66 tt, oa 74 (.pick (.t 66) (.t 73) (.c (.bool false))), oa 59 (.mov (.t 74))] (kp 123 [0,1,2,7,59]))
  (.cond (.t 59)
  (.seq (.region [oa 75 (.mov (.t 2)), oa 76 (.mov (.t 1)), oa 77 (.nilCheck (.t 76)), oa 78 (.fieldAddr 2 (.t 77)), oa 79 (.load none (.t 78)), oa 80 (.mov (.t 1)), oa 81 (.nilCheck (.t 80)), oa 82 (.fieldAddr 2 (.t 81)), oa 83 (.load none (.t 82)), oa 84 (.lenSlice (.t 83)), oa 85 (.bin .sub (.t 84) (ai 1)), oa 86 (.indexAddr 1 (.t 79) (.t 85)), oa 87 (.load none (.t 86)), oa 88 (.bin .mul (.t 87) (ai 32)), oa 89 (.mov (.t 1)), oa 90 (.nilCheck (.t 89)), oa 91 (.fieldAddr 3 (.t 90)), oa 92 (.load none (.t 91)), oa 93 (.bin .add (.t 88) (.t 92)), oa 94 (.nilCheck (.t 75)), oa 95 (.fieldAddr 0 (.t 94)), ob (.store 1 (.t 95) (.t 93))] (kp 123 [1,2,7]))
  (.region [oa 96 (.mov (.t 1)), oa 97 (.nilCheck (.t 96)), oa 98 (.fieldAddr 3 (.t 97)), oa 99 (.load none (.t 98)), oa 100 (.mov (.t 7)), oa 101 (.bin .add (.t 99) (.t 100)), oa 102 (.nilCheck (.t 96)), oa 103 (.fieldAddr 3 (.t 102)), ob (.store 1 (.t 103) (.t 101))] (kp 123 [1,2])))
  (.seq (.region [oa 17 (.mov (.t 0)), oa 18 (.nilCheck (.t 17)), oa 19 (.fieldAddr 0 (.t 18)), oa 20 (.load none (.t 19)), oa 21 (.call 112 [(.t 20)]), oa 16 (.mov (.t 21)), oa 22 (.extract (.t 16) 0), oa 23 (.extract (.t 16) 1), oa 8 (.mov (.t 22)), oa 9 (.mov (.t 23))] (kp 123 [1,2,7,8,9]))
  (.seq (.seq (.region [oa 24 (.mov (.t 9)), oa 25 (.un .not (.t 24))] (kp 123 [1,2,7,8,25]))
  (.cond (.t 25)
  (.seq (.region [oa 6 (.mov (.c (.bool false)))] (kp 123 [6]))
  (sr 123 [6]))
  (sk 123 [1,2,7,8])))
  j77_bbaabbbbbb)))))))
  j77_bbb)))⟩
theorem F77 : shutF Try.prog 77 = some c77 := by kernel_rfl
def j34_bbbbab : IC := (.cond (.t 66)
  (.seq (.region [oa 67 (.build [(.int .i64 (0)), (.int .i64 (0))] []), ob (.store 2 (.t 8) (.t 67)), oa 9 (.mov (ai 81))] (kp 77 [8,9]))
  (sr 77 [8,9]))
  (sk 77 [8,10,12]))
def j34_bbbbb : IC := (.seq (.region [oa 68 (.mov (.t 12)), oa 69 (.nilCheck (.t 68)), oa 70 (.fieldAddr 0 (.t 69)), oa 71 (.load none (.t 70)), oa 72 (.mov (.t 10)), oa 73 (.nilCheck (.t 72)), oa 74 (.fieldAddr 0 (.t 73)), oa 75 (.load none (.t 74)), oa 76 (.build [(.int .i64 (0)), (.int .i64 (0))] [(0, 1, (.t 71)), (1, 1, (.t 75))]), ob (.store 2 (.t 8) (.t 76)), oa 9 (.mov (ai 0))] (kp 77 [8,9]))
  (sr 77 [8,9]))
def c34 : IFn := ⟨77, [(8, (some (some 2))), (9, none)],
  (.seq (.region [oa 8 (.alloc [(.int .i64 (0)), (.int .i64 (0))]), oa 9 (.mov (ai 0))] (kp 77 [0,1,2,3,8]))
  (.seq (.region [oa 14 (.mov (.t 0)), oa 15 (.mov (.t 1)), oa 16 (.call 72 [(.t 14), (.t 15)]), oa 13 (.mov (.t 16)), oa 17 (.extract (.t 13) 0), oa 18 (.extract (.t 13) 1), oa 10 (.mov (.t 17)), oa 11 (.mov (.t 18))] (kp 77 [0,2,3,8,10,11]))
  (.seq (.block 0
  (.seq (.region [oa 20 (.mov (.t 11)), oa 21 (.bin .neq (.t 20) (ai 0)), oa 19 (.mov (.t 21))] (kp 77 [0,2,3,8,10,11,19]))
  (.cond (.t 19)
  (.seq (.region [oa 22 (.build [(.int .i64 (0)), (.int .i64 (0))] []), oa 23 (.mov (.t 11)), ob (.store 2 (.t 8) (.t 22)), oa 9 (.mov (.t 23))] (kp 77 [8,9]))
  (sr 77 [8,9]))
  (.seq (.region [oa 25 (.mov (.t 2)), oa 26 (.call 56 [(ai 1), (.t 25), (ai 255)]), oa 27 (.un .not (.t 26)), oa 28 (.mov (.t 27)), oc 29 (.mov (.t 3)) 28 ff, oc 30 (.call 56 [(ai 1), (.t 29), (ai 31)]) 28 ff, oc 31 (.un .not (.t 30)) 28 ff, oa 32 (.pick (.t 28) (.c (.bool true)) (.t 31)), oa 33 (.mov (.t 32)), oc 34 (.mov (.t 10)) 33 ff, oc 35 (.nilCheck (.t 34)) 33 ff, oc 36 (.fieldAddr 1 (.t 35)) 33 ff, oc 37 (.load none (.t 36)) 33 ff, oc 38 (.bin .gtr (.t 37) (ai 0)) 33 ff, oc 39 (.mov (.t 38)) 33 ff, oc 40 (.mov (.t 3)) 39 tt, oc 41 (.mov (.t 10)) 39 tt, oc 42 (.nilCheck (.t 41)) 39 tt, oc 43 (.fieldAddr 1 (.t 42)) 39 tt, oc 44 (.load none (.t 43)) 39 tt, oc 45 (.bin .gtr (.t 40) (.t 44)) 39 tt, oc 46 (.mov (.t 45)) 39 tt, oc 47 (.mov (.t 10)) 46 ff, oc 48 (.nilCheck (.t 47)) 46 ff, oc 49 (.fieldAddr 4 (.t 48)) 46 ff, oc 50 (.load none (.t 49)) 46 ff, oc 51 (.lenSlice (.t 50)) 46 ff, oc 52 (.bin .gtr (.t 51) (ai 0)) 46 ff, oc 53 (.pick (.t 46) (.c (.bool true)) (.t 52)) 39 tt, oc 54 (.pick (.t 39) (.t 53) (.c (.bool false))) 33 ff, oa 55 (.pick (.t 33) (.c (.bool true)) (.t 54)), oa 24 (.mov (.t 55))] (kp 77 [0,2,3,8,10,24]))
  (.cond (.t 24)
  (.seq (.region [oa 56 (.build [(.int .i64 (0)), (.int .i64 (0))] []), ob (.store 2 (.t 8) (.t 56)), oa 9 (.mov (ai 2))] (kp 77 [8,9]))
  (sr 77 [8,9]))
  (sk 77 [0,2,3,8,10]))))))
  (.seq (.region [oa 57 (.mov (.t 2)), oa 58 (.mov (.t 3)), oa 59 (.mkSlice 16 [(.int .i64 (0)), (.int .i64 (0))] (.t 58) (.t 58)), oa 60 (.build [(.int .i64 (0)), (.int .i64 (0)), (.slice none 0 (some 0))] [(1, 1, (.t 57)), (2, 1, (.t 59))]), oa 61 (.box (.t 60)), oa 12 (.mov (.t 61))] (kp 77 [0,8,10,12]))
  (.seq (.seq (.region [oa 62 (.mov (.t 0)), oa 63 (.mov (.t 10)), oa 64 (.mov (.t 12)), oa 65 (.call 77 [(.t 62), (.t 63), (.t 64)]), oa 66 (.un .not (.t 65))] (kp 77 [8,10,12,66]))
  j34_bbbbab)
  j34_bbbbb)))))⟩
theorem F34 : shutF Try.prog 34 = some c34 := by kernel_rfl
section
variable {o : Nat → Option O} {s : St} {C F : Ch} {Q : V → St → Prop}
set_option maxRecDepth 10000
theorem s77_tail {gid obk plk xid at_ : Nat} {lv sv pgv fv kv slv : V} {l : List PObj} {pl : O} {f : Int → Option V}
    (H : Holds o s ((gid, some (.cells [lv, sv, pgv, fv, rowV obk l.length, .map (some (.new plk))] none)) :: (plk, some pl) :: (xid, some (.cells [I at_, kv, slv] none)) :: (obk, PReg.obO l) :: F))
    (hm : MapIs (fun n : Int => I n) f pl) (hl : l.length < 200000)
    (q : ∀ s' obk' pl', Holds o s' ((gid, some (.cells [lv, sv, pgv, fv, rowV obk' (l.length + 1), .map (some (.new plk))] none)) :: (plk, some pl') :: (xid, some (.cells [I at_, kv, slv] none)) :: (obk', rowO 1 (l.length + 1) (l.map (fun x => ptrN x.id) ++ [ptrN xid])) :: F) →
      MapIs (fun n : Int => I n) (fun b => if b = at_ then some (ptrN xid) else f b) pl' → Q (.bool true) s') :
    WP (go (loop PF) (call PF) j77_bbb (sp 123 [(1, ptrN gid), (2, ptrN xid)]) s (finR [(6, none)])) Q := by
  simp -implicitDefEqProofs only [↓GP, GB, GL, Nat.reduceAdd, Nat.reduceSub, Nat.reduceEqDiff, Nat.reduceMul, Nat.reduceLeDiff, Int.reduceBNe, Int.reduceBEq, Nat.reduceLT, reduceCtorEq, j77_bbb, H.f3]
  refine wp_append (cs := l.map (fun x => ptrN x.id)) ((H.alloc _).r4) (by simp) (new_cells' (alloc_new_same _ _) rfl) rfl rfl (by omega) (by unfold maxRow; omega) (by unfold maxRow; omega) fun obk' s1 h1 => ?_
  have h2 := h1.r1.tl
  simp -implicitDefEqProofs only [↓GP, GB, GL, Nat.reduceAdd, Nat.reduceSub, Nat.reduceEqDiff, Nat.reduceMul, Nat.reduceLeDiff, Int.reduceBNe, Int.reduceBEq, Nat.reduceLT, reduceCtorEq, h2.tl.f3]
  refine wp_mapSet (enc := fun n : Int => I n) keyOk_int hm ((h2.set1 _).tl.tl.g0) fun pl' hm' => ?_
  simp -implicitDefEqProofs only [↓GP, GB, GL, Nat.reduceAdd, Nat.reduceSub, Nat.reduceEqDiff, Nat.reduceMul, Nat.reduceLeDiff, Int.reduceBNe, Int.reduceBEq, Nat.reduceLT, reduceCtorEq]
  have h4 := (h2.set1 (.cells [lv, sv, pgv, fv, rowV obk' (l.length + 1), .map (some (.new plk))] none)).set2 pl'
  exact q _ obk' pl' (Holds.of (h4) (fun k => by simp +arith only [HA, HB]) (fun k x => by simp only [HA, HC]; grind only)) hm'
theorem ok_add {g : PReg} (h : g.ok) {x : PObj} (hf : ∀ y ∈ g.objs, y.b.at_ ≠ x.b.at_) {pl' : O}
    (h' : MapIs (fun n : Int => I n) (fun b => if b = x.b.at_ then some (ptrN x.id) else (g.objs.find? fun x => decide ((x.b.at_ : Int) = b)).map fun x => ptrN x.id) pl') :
    MapIs (fun n : Int => I n) (fun a => ((g.objs ++ [x]).find? fun x => decide ((x.b.at_ : Int) = a)).map fun x => ptrN x.id) pl' := by
  obtain ⟨l, c, e, hl⟩ := h'
  refine ⟨l, c, e, fun a => (hl a).trans ?_⟩
  show (if a = x.b.at_ then some (ptrN x.id) else _) = Option.map _ ((g.objs ++ [x]).find? _)
  rw [List.find?_append]
  by_cases ha : a = x.b.at_
  · subst ha
    have : g.objs.find? (fun y => decide ((y.b.at_ : Int) = (x.b.at_ : Int))) = none := by
      rw [List.find?_eq_none]; intro y hy; have := hf y hy; simp; omega
    simp [this]
  · have : ¬ ((x.b.at_ : Int) = a) := fun e => ha e.symm
    simp [ha, this]
def PObj.at (x : PObj) (a : Nat) : PObj := { x with b := { x.b with at_ := a } }
def PReg.lay (g : PReg) (obk : Nat) (pl : O) (x : PObj) : PReg := { g with obk := obk, pl := pl, objs := g.objs ++ [x] }
theorem s77_fin {h p r : Nat} {u : List Bool} {c d : V} {g : PReg} {x : PObj} (H : Holds o s (g.ch ++ (x.ch ++ F))) (hg : g.ok) (hs : 0 < g.size) (hs' : g.size ≤ 31) (hl : g.life ≤ 100000) (hn : g.objs.length ≤ 100000) (hw : x.b.ws.length ≤ 31)
    (hf : ∀ y ∈ g.objs, y.b.at_ ≠ 1000000 + g.life)
    (q : ∀ s' obk' pl', Holds o s' ((g.lay obk' pl' (x.at (1000000 + g.life))).ch ++ F) → (g.lay obk' pl' (x.at (1000000 + g.life))).ok → Q (.bool true) s') :
    WP (call PF 77 [ptrN h, ptrN g.id, ptrN x.id] s) Q := by
  have H1 : Holds o s ((g.id, some g.hd) :: (g.plk, some g.pl) :: (x.id, some x.O) :: (g.obk, PReg.obO g.objs) :: ((g.pgk, pagesO g.pages) :: (x.wid, some x.W) :: (g.objs.flatMap PObj.ch ++ F))) := (Holds.of (H) (fun k => by simp +arith only [HA, HB]) (fun k x => by simp only [HA, HC]; grind only))
  have f := H1.f3
  simp only [PReg.hd, PObj.O] at f
  have h1 : ((g.size : Int) > 0) := by omega
  have w1 := wrap_add1 (a := x.b.ws.length) (by omega)
  have w2 : wrapI .i64 (1000000 + (g.life : Int)) = I ((1000000 + g.life : Nat) : Int) := wrap_nat (by omega) (by omega)
  rw [call_run F77]; simp -implicitDefEqProofs only [↓GP, GB, GL, Nat.reduceAdd, Nat.reduceSub, Nat.reduceEqDiff, Nat.reduceMul, Nat.reduceLeDiff, Int.reduceBNe, Int.reduceBEq, Nat.reduceLT, reduceCtorEq, c77, f, w1, w2, h1]
  refine s77_tail (F := (g.pgk, pagesO g.pages) :: (x.wid, some x.W) :: (g.objs.flatMap PObj.ch ++ F)) (l := g.objs) (obk := g.obk) (plk := g.plk) (pl := g.pl) (H1.set2 (.cells [I (1000000 + g.life : Nat), I x.b.kind, slN x.wid x.b.ws.length] none)) hg (by omega) fun s' obk' pl' h' hm => ?_
  refine q s' obk' pl' (Holds.of (h') (fun k => by simp +arith only [PReg.lay, PObj.at, PReg.hd, PObj.O, PObj.W, PReg.obO, List.length_append, List.length_cons, List.length_nil, Nat.zero_add, List.map_append, List.map_cons, List.map_nil, HA, HB]) (fun k x => by simp only [PReg.lay, PObj.at, PReg.hd, PObj.O, PObj.W, PReg.obO, List.length_append, List.length_cons, List.length_nil, Nat.zero_add, List.map_append, List.map_cons, List.map_nil, HA, HC]; grind only)) ?_
  exact ok_add (x := x.at (1000000 + g.life)) hg hf hm
theorem s77_fit {h p r pg : Nat} {u : List Bool} {c d : V} {g : PReg} {x : PObj} (H : Holds o s (g.ch ++ (x.ch ++ F))) (hg : g.ok) (hs : g.size = 0) (hn : g.objs.length ≤ 100000) (hw : x.b.ws.length ≤ 31)
    (hpg : g.pages.getLast? = some pg) (hpg' : pg < 400) (hpl : g.pages.length ≤ 400) (hfit : g.fill + (x.b.ws.length + 1) ≤ 32)
    (hf : ∀ y ∈ g.objs, y.b.at_ ≠ pg * 32 + g.fill)
    (q : ∀ s' obk' pl', Holds o s' ((({ g with fill := g.fill + (x.b.ws.length + 1) } : PReg).lay obk' pl' (x.at (pg * 32 + g.fill))).ch ++ F) → (({ g with fill := g.fill + (x.b.ws.length + 1) } : PReg).lay obk' pl' (x.at (pg * 32 + g.fill))).ok → Q (.bool true) s') :
    WP (call PF 77 [ptrN h, ptrN g.id, ptrN x.id] s) Q := by
  have hpos : 0 < g.pages.length := by
    cases hp : g.pages with
    | nil => rw [hp] at hpg; simp at hpg
    | cons a l => simp
  have H1 : Holds o s ((g.id, some g.hd) :: (g.plk, some g.pl) :: (x.id, some x.O) :: (g.obk, PReg.obO g.objs) :: ((g.pgk, pagesO g.pages) :: (x.wid, some x.W) :: (g.objs.flatMap PObj.ch ++ F))) := (Holds.of (H) (fun k => by simp +arith only [HA, HB]) (fun k x => by simp only [HA, HC]; grind only))
  have f := H1.f3
  have fp : s.new g.pgk = some (.cells (g.pages.map fun n : Nat => I n) (some 1)) ∧ g.pgk < s.next := by
    have h5 := H1.tl.tl.tl.tl
    unfold pagesO at h5
    rw [rowO_pos hpos] at h5
    exact h5.f1
  have fne : g.pgk ≠ x.id := by
    have h5 := H1.tl.tl.r2
    unfold pagesO at h5
    rw [rowO_pos hpos] at h5
    exact h5.f2.2.2.1
  simp only [PReg.hd, PObj.O] at f
  have h1 : ¬ ((g.size : Int) > 0) := by omega
  have h2 : ((g.pages.length : Int) > 0) := by omega
  have h3 : (((g.fill + (x.b.ws.length + 1) : Nat) : Int) ≤ 32) := by omega
  have w1 := wrap_add1 (a := x.b.ws.length) (by omega)
  have w2 : wrapI .i64 ((g.fill : Int) + ((x.b.ws.length + 1 : Nat) : Int)) = I ((g.fill + (x.b.ws.length + 1) : Nat) : Int) := wrap_add (by omega) (by omega)
  have w3 := wrap_sub1 (a := g.pages.length) (by omega) hpos
  have w4 : wrapI .i64 ((pg : Int) * 32) = I ((pg * 32 : Nat) : Int) := wrap_nat (by omega) (by omega)
  have w5 : wrapI .i64 (((pg * 32 : Nat) : Int) + (g.fill : Int)) = I ((pg * 32 + g.fill : Nat) : Int) := wrap_add (by omega) (by omega)
  have hgl : (g.pages.map fun n : Nat => I n)[g.pages.length - 1]? = some (I pg) := by
    rw [List.getLast?_eq_getElem?] at hpg
    rw [List.getElem?_map, hpg]; rfl
  rw [call_run F77]; simp -implicitDefEqProofs only [↓GP, GB, GL, Nat.reduceAdd, Nat.reduceSub, Nat.reduceEqDiff, Nat.reduceMul, Nat.reduceLeDiff, Int.reduceBNe, Int.reduceBEq, Nat.reduceLT, reduceCtorEq, c77, f, fp, fne, w1, w2, w3, w4, w5, h1, h2, h3, hgl, ix_row (show g.pages.length - 1 < g.pages.length by omega)]
  refine s77_tail (F := (g.pgk, pagesO g.pages) :: (x.wid, some x.W) :: (g.objs.flatMap PObj.ch ++ F)) (l := g.objs) (obk := g.obk) (plk := g.plk) (pl := g.pl) ((H1.set2 (.cells [I (pg * 32 + g.fill : Nat), I x.b.kind, slN x.wid x.b.ws.length] none)).set0 (.cells [I g.life, I g.size, rowV g.pgk g.pages.length, I (g.fill + (x.b.ws.length + 1) : Nat), rowV g.obk g.objs.length, .map (some (.new g.plk))] none)) hg (by omega) fun s' obk' pl' h' hm => ?_
  refine q s' obk' pl' (Holds.of (h') (fun k => by simp +arith only [PReg.lay, PObj.at, PReg.hd, PObj.O, PObj.W, PReg.obO, List.length_append, List.length_cons, List.length_nil, Nat.zero_add, List.map_append, List.map_cons, List.map_nil, HA, HB]) (fun k x => by simp only [PReg.lay, PObj.at, PReg.hd, PObj.O, PObj.W, PReg.obO, List.length_append, List.length_cons, List.length_nil, Nat.zero_add, List.map_append, List.map_cons, List.map_nil, HA, HC]; grind only)) ?_
  exact ok_add (g := g) (x := x.at (pg * 32 + g.fill)) hg hf hm
def Needs (g : PReg) (need : Nat) : Prop := g.size = 0 ∧ (g.pages = [] ∨ ¬ g.fill + need ≤ 32)
theorem s77_full {h p r : Nat} {u : List Bool} {c d : V} {g : PReg} {x : PObj} (H : Holds o s (poolC p r u ++ (g.ch ++ (x.ch ++ F)))) (mh : (h, some (.cells [ptrN p, c, d] none)) ∈ F) (hu : u.length ≤ 400)
    (hw : x.b.ws.length ≤ 31) (hfl : g.fill ≤ 32) (hpl : g.pages.length ≤ 400) (hneed : Needs g (x.b.ws.length + 1)) (ht : takeP u = none) : call PF 77 [ptrN h, ptrN g.id, ptrN x.id] s = some (.bool false, s) := by
  have fh := H.mem (List.mem_append_right _ (List.mem_append_right _ (List.mem_append_right _ mh)))
  have H1 : Holds o s ((g.id, some g.hd) :: (x.id, some x.O) :: (poolC p r u ++ F)) := (Holds.of (H) (fun k => by simp +arith only [HA, HB]) (fun k x => by simp only [HA, HC]; grind only))
  have f := H1.f2
  simp only [PReg.hd, PObj.O] at f
  have e := s112_none (s := s) H1.tl.tl hu ht
  have h1 : ¬ ((g.size : Int) > 0) := by have := hneed.1; omega
  have w1 := wrap_add1 (a := x.b.ws.length) (by omega)
  rcases hneed.2 with hp | hp
  · have h2 : ¬ ((0 : Int) > 0) := by omega
    rw [call_run F77]; simp -implicitDefEqProofs only [↓GP, GB, GL, Nat.reduceAdd, Nat.reduceSub, Nat.reduceEqDiff, Nat.reduceMul, Nat.reduceLeDiff, Int.reduceBNe, Int.reduceBEq, Nat.reduceLT, reduceCtorEq, c77, f, fh, w1, h1, h2, e, hp, rowV_zero, lenV_slice, Int.natCast_zero]
  · have w2 : wrapI .i64 ((g.fill : Int) + ((x.b.ws.length + 1 : Nat) : Int)) = I ((g.fill + (x.b.ws.length + 1) : Nat) : Int) := wrap_add (by omega) (by omega)
    have h3 : ¬ (((g.fill + (x.b.ws.length + 1) : Nat) : Int) ≤ 32) := by omega
    by_cases h2 : ((g.pages.length : Int) > 0)
    · rw [call_run F77]; simp -implicitDefEqProofs only [↓GP, GB, GL, Nat.reduceAdd, Nat.reduceSub, Nat.reduceEqDiff, Nat.reduceMul, Nat.reduceLeDiff, Int.reduceBNe, Int.reduceBEq, Nat.reduceLT, reduceCtorEq, c77, f, fh, w1, w2, h1, h2, h3, e]
    · rw [call_run F77]; simp -implicitDefEqProofs only [↓GP, GB, GL, Nat.reduceAdd, Nat.reduceSub, Nat.reduceEqDiff, Nat.reduceMul, Nat.reduceLeDiff, Int.reduceBNe, Int.reduceBEq, Nat.reduceLT, reduceCtorEq, c77, f, fh, w1, w2, h1, h2, h3, e]
theorem s77_page {h p r n : Nat} {u : List Bool} {c d : V} {g : PReg} {x : PObj} (H : Holds o s (poolC p r u ++ (g.ch ++ (x.ch ++ F)))) (mh : (h, some (.cells [ptrN p, c, d] none)) ∈ F) (hu : u.length ≤ 400)
    (hg : g.ok) (hn : g.objs.length ≤ 100000) (hw : x.b.ws.length ≤ 31) (hfl : g.fill ≤ 32) (hpl : g.pages.length ≤ 400) (hneed : Needs g (x.b.ws.length + 1)) (ht : takeP u = some n)
    (hf : ∀ y ∈ g.objs, y.b.at_ ≠ n * 32)
    (q : ∀ s' pgk' obk' pl', Holds o s' (poolC p r (u.set n true) ++ ((({ g with pgk := pgk', pages := g.pages ++ [n], fill := x.b.ws.length + 1 } : PReg).lay obk' pl' (x.at (n * 32))).ch ++ F)) →
      (({ g with pgk := pgk', pages := g.pages ++ [n], fill := x.b.ws.length + 1 } : PReg).lay obk' pl' (x.at (n * 32))).ok → Q (.bool true) s') : WP (call PF 77 [ptrN h, ptrN g.id, ptrN x.id] s) Q := by
  have hn' : n < u.length := (List.findIdx?_eq_some_iff_getElem.1 ht).1
  have fh := H.mem (List.mem_append_right _ (List.mem_append_right _ (List.mem_append_right _ mh)))
  have H1 : Holds o s ((g.id, some g.hd) :: (x.id, some x.O) :: (poolC p r u ++ F)) := (Holds.of (H) (fun k => by simp +arith only [HA, HB]) (fun k x => by simp only [HA, HC]; grind only))
  have f := H1.f2
  simp only [PReg.hd, PObj.O] at f
  have h1 : ¬ ((g.size : Int) > 0) := by have := hneed.1; omega
  have w1 := wrap_add1 (a := x.b.ws.length) (by omega)
  have w2 : wrapI .i64 ((g.fill : Int) + ((x.b.ws.length + 1 : Nat) : Int)) = I ((g.fill + (x.b.ws.length + 1) : Nat) : Int) := wrap_add (by omega) (by omega)
  have w3 : wrapI .i64 ((n : Int) * 32) = I ((n * 32 : Nat) : Int) := wrap_nat (by omega) (by omega)
  have fin : ∀ s1, Holds o s1 (poolC p r (u.set n true) ++ (g.ch ++ (x.ch ++ F))) →
      WP (go (loop PF) (call PF) j77_bbaabbbbbb (sp 123 [(1, ptrN g.id), (2, ptrN x.id), (7, I (x.b.ws.length + 1 : Nat)), (8, I n)]) s1 (blockK 0 (seqK (loop PF) (call PF) j77_bbb (finR [(6, none)])))) Q := by
    intro s1 H
    have H2 : Holds o s1 ((g.id, some g.hd) :: (g.pgk, pagesO g.pages) :: (x.id, some x.O) :: (g.plk, some g.pl) :: (g.obk, PReg.obO g.objs) :: (x.wid, some x.W) :: (g.objs.flatMap PObj.ch ++ (poolC p r (u.set n true) ++ F))) := (Holds.of (H) (fun k => by simp +arith only [HA, HB]) (fun k x => by simp only [HA, HC]; grind only))
    have f := H2.f1
    simp only [PReg.hd] at f
    simp -implicitDefEqProofs only [↓GP, GB, GL, Nat.reduceAdd, Nat.reduceSub, Nat.reduceEqDiff, Nat.reduceMul, Nat.reduceLeDiff, Int.reduceBNe, Int.reduceBEq, Nat.reduceLT, reduceCtorEq, j77_bbaabbbbbb, f]
    refine wp_append (cs := g.pages.map (fun n : Nat => I n)) ((H2.alloc _).r2) (by simp) (new_cells' (alloc_new_same _ _) rfl) rfl rfl (by omega) (by unfold maxRow; omega) (by unfold maxRow; omega) fun pgk' s2 h2 => ?_
    have H3 : Holds o s2 ((g.id, some g.hd) :: (g.plk, some g.pl) :: (x.id, some x.O) :: (g.obk, PReg.obO g.objs) :: (pgk', rowO 1 (g.pages.length + 1) (g.pages.map (fun n : Nat => I n) ++ [I n])) :: (x.wid, some x.W) :: (g.objs.flatMap PObj.ch ++ (poolC p r (u.set n true) ++ F))) := (Holds.of (h2) (fun k => by simp +arith only [HA, HB]) (fun k x => by simp only [HA, HC]; grind only))
    have f := H3.f3
    simp only [PReg.hd, PObj.O] at f
    simp -implicitDefEqProofs only [↓GP, GB, GL, Nat.reduceAdd, Nat.reduceSub, Nat.reduceEqDiff, Nat.reduceMul, Nat.reduceLeDiff, Int.reduceBNe, Int.reduceBEq, Nat.reduceLT, reduceCtorEq, f, w3]
    have H4 := ((H3.set0 (.cells [I g.life, I g.size, rowV pgk' (g.pages.length + 1), I g.fill, rowV g.obk g.objs.length, .map (some (.new g.plk))] none)).set2 (.cells [I (n * 32 : Nat), I x.b.kind, slN x.wid x.b.ws.length] none)).set0
      (.cells [I g.life, I g.size, rowV pgk' (g.pages.length + 1), I (x.b.ws.length + 1 : Nat), rowV g.obk g.objs.length, .map (some (.new g.plk))] none)
    refine s77_tail (F := (pgk', rowO 1 (g.pages.length + 1) (g.pages.map (fun n : Nat => I n) ++ [I n])) :: (x.wid, some x.W) :: (g.objs.flatMap PObj.ch ++ (poolC p r (u.set n true) ++ F))) (l := g.objs) (obk := g.obk) (plk := g.plk) (pl := g.pl) H4 hg (by omega) fun s' obk' pl' h' hm => ?_
    refine q s' pgk' obk' pl' (Holds.of (h') (fun k => by simp +arith only [PReg.lay, PObj.at, PReg.hd, PObj.O, PObj.W, PReg.obO, pagesO, List.length_append, List.length_cons, List.length_nil, Nat.zero_add, List.map_append, List.map_cons, List.map_nil, HA, HB]) (fun k x => by simp only [PReg.lay, PObj.at, PReg.hd, PObj.O, PObj.W, PReg.obO, pagesO, List.length_append, List.length_cons, List.length_nil, Nat.zero_add, List.map_append, List.map_cons, List.map_nil, HA, HC]; grind only)) ?_
    exact ok_add (g := g) (x := x.at (n * 32)) hg hf hm
  rcases hneed.2 with hp | hp
  · have h2 : ¬ ((0 : Int) > 0) := by omega
    rw [call_run F77]; simp -implicitDefEqProofs only [↓GP, GB, GL, Nat.reduceAdd, Nat.reduceSub, Nat.reduceEqDiff, Nat.reduceMul, Nat.reduceLeDiff, Int.reduceBNe, Int.reduceBEq, Nat.reduceLT, reduceCtorEq, c77, f, fh, w1, h1, h2, hp, rowV_zero, lenV_slice, Int.natCast_zero, List.length_nil]
    refine wp_in (s112 (F := g.ch ++ (x.ch ++ F)) H hu ht fun s1 h1 => ?_)
    simp -implicitDefEqProofs only [↓GP, GB, GL, Nat.reduceAdd, Nat.reduceSub, Nat.reduceEqDiff, Nat.reduceMul, Nat.reduceLeDiff, Int.reduceBNe, Int.reduceBEq, Nat.reduceLT, reduceCtorEq]
    exact fin s1 h1
  · have h3 : ¬ (((g.fill + (x.b.ws.length + 1) : Nat) : Int) ≤ 32) := by omega
    by_cases h2 : ((g.pages.length : Int) > 0)
    · rw [call_run F77]; simp -implicitDefEqProofs only [↓GP, GB, GL, Nat.reduceAdd, Nat.reduceSub, Nat.reduceEqDiff, Nat.reduceMul, Nat.reduceLeDiff, Int.reduceBNe, Int.reduceBEq, Nat.reduceLT, reduceCtorEq, c77, f, fh, w1, w2, h1, h2, h3]
      refine wp_in (s112 (F := g.ch ++ (x.ch ++ F)) H hu ht fun s1 h1 => ?_)
      simp -implicitDefEqProofs only [↓GP, GB, GL, Nat.reduceAdd, Nat.reduceSub, Nat.reduceEqDiff, Nat.reduceMul, Nat.reduceLeDiff, Int.reduceBNe, Int.reduceBEq, Nat.reduceLT, reduceCtorEq]
      exact fin s1 h1
    · rw [call_run F77]; simp -implicitDefEqProofs only [↓GP, GB, GL, Nat.reduceAdd, Nat.reduceSub, Nat.reduceEqDiff, Nat.reduceMul, Nat.reduceLeDiff, Int.reduceBNe, Int.reduceBEq, Nat.reduceLT, reduceCtorEq, c77, f, fh, w1, w2, h1, h2, h3]
      refine wp_in (s112 (F := g.ch ++ (x.ch ++ F)) H hu ht fun s1 h1 => ?_)
      simp -implicitDefEqProofs only [↓GP, GB, GL, Nat.reduceAdd, Nat.reduceSub, Nat.reduceEqDiff, Nat.reduceMul, Nat.reduceLeDiff, Int.reduceBNe, Int.reduceBEq, Nat.reduceLT, reduceCtorEq]
      exact fin s1 h1
end
end Go.Proofs.Ytoldkemimhebaaa

set_option linter.unusedSimpArgs false
set_option linter.unusedVariables false
namespace Go.Proofs.Ytoldkemimhebaaa
open Go Go.IM
section
variable {o : Nat → Option O} {s : St} {C F : Ch} {Q : V → St → Prop}
set_option maxRecDepth 10000
def putM (u : List Bool) (size life fill : Nat) (pages : List Nat) (need : Nat) : Option (Nat × List Bool × Nat × List Nat) :=
  if 0 < size then some (1000000 + life, u, fill, pages) else
  match pages.getLast? with
  | some p => if fill + need ≤ 32 then some (p * 32 + fill, u, fill + need, pages) else (takeP u).map fun n => (n * 32, u.set n true, need, pages ++ [n])
  | none => (takeP u).map fun n => (n * 32, u.set n true, need, pages ++ [n])
theorem s77_none {h p r : Nat} {u : List Bool} {c d : V} {g : PReg} {x : PObj} (H : Holds o s (poolC p r u ++ (g.ch ++ (x.ch ++ F)))) (mh : (h, some (.cells [ptrN p, c, d] none)) ∈ F) (hu : u.length ≤ 400)
    (hr : RegB u.length g.size g.life g.fill g.pages) (hw : x.b.ws.length ≤ 31) (hp : putM u g.size g.life g.fill g.pages (x.b.ws.length + 1) = none) : call PF 77 [ptrN h, ptrN g.id, ptrN x.id] s = some (.bool false, s) := by
  have h1 := hr.fill
  have h2 := hr.npages
  unfold putM at hp
  split at hp
  · cases hp
  · rename_i hs
    split at hp
    · rename_i pg hpg
      split at hp
      · cases hp
      · rename_i hf
        exact s77_full H mh hu hw h1 h2 ⟨by omega, .inr hf⟩ (by simpa using hp)
    · rename_i hpg
      exact s77_full H mh hu hw h1 h2 ⟨by omega, .inl (List.getLast?_eq_none_iff.1 hpg)⟩ (by simpa using hp)
theorem s77 {h p r : Nat} {u : List Bool} {c d : V} {g : PReg} {x : PObj} (H : Holds o s (poolC p r u ++ (g.ch ++ (x.ch ++ F)))) (mh : (h, some (.cells [ptrN p, c, d] none)) ∈ F) (hu : u.length ≤ 400)
    (hg : g.ok) (hr : RegB u.length g.size g.life g.fill g.pages) (hn : g.objs.length < 100000) (hw : x.b.ws.length ≤ 31) {at_ fill : Nat} {u' : List Bool} {pages : List Nat} (hp : putM u g.size g.life g.fill g.pages (x.b.ws.length + 1) = some (at_, u', fill, pages))
    (hf : ∀ y ∈ g.objs, y.b.at_ ≠ at_)
    (q : ∀ s' pgk' obk' pl', Holds o s' (poolC p r u' ++ ((({ g with pgk := pgk', pages := pages, fill := fill } : PReg).lay obk' pl' (x.at at_)).ch ++ F)) →
      (({ g with pgk := pgk', pages := pages, fill := fill } : PReg).lay obk' pl' (x.at at_)).ok → Q (.bool true) s') : WP (call PF 77 [ptrN h, ptrN g.id, ptrN x.id] s) Q := by
  have h1 := hr.fill
  have h2 := hr.npages
  have h3 := hr.size
  have h4 := hr.life
  have h5 := hr.pages
  unfold putM at hp
  split at hp
  · rename_i hs
    cases hp
    refine s77_fin (F := poolC p r u ++ F) (p := p) (r := r) (u := u) (c := c) (d := d) (g := g) (x := x) (Holds.of (H) (fun k => by simp +arith only [HA, HB]) (fun k x => by simp only [HA, HC]; grind only)) hg hs h3 h4 (by omega) hw hf fun s' obk' pl' H' ok' => ?_
    exact q s' g.pgk obk' pl' H'.rb ok'
  · rename_i hs
    have hs0 : g.size = 0 := by omega
    split at hp
    · rename_i pg hpg
      split at hp
      · rename_i hfit
        cases hp
        have hpg' : pg < u.length := h5 pg (List.mem_of_getLast? hpg)
        refine s77_fit (F := poolC p r u ++ F) (p := p) (r := r) (u := u) (c := c) (d := d) (g := g) (x := x) (Holds.of (H) (fun k => by simp +arith only [HA, HB]) (fun k x => by simp only [HA, HC]; grind only)) hg hs0 (by omega) hw hpg (by omega) h2 hfit hf fun s' obk' pl' H' ok' => ?_
        exact q s' g.pgk obk' pl' H'.rb ok'
      · rename_i hf'
        simp only [Option.map_eq_some_iff] at hp
        obtain ⟨n, ht, e⟩ := hp
        cases e
        exact s77_page H mh hu hg (by omega) hw h1 h2 ⟨hs0, .inr hf'⟩ ht hf fun s' pgk' obk' pl' H' ok' => q s' pgk' obk' pl' H' ok'
    · rename_i hpg
      simp only [Option.map_eq_some_iff] at hp
      obtain ⟨n, ht, e⟩ := hp
      cases e
      exact s77_page H mh hu hg (by omega) hw h1 h2 ⟨hs0, .inl (List.getLast?_eq_none_iff.1 hpg)⟩ ht hf fun s' pgk' obk' pl' H' ok' => q s' pgk' obk' pl' H' ok'
theorem s34_err (hC : Holds o s C) {hv : V} {n err kind words : Int} (e : AtErr C hv n err) (hone : hv.one = true) (hcl : hv.cells = [hv]) (q : ∀ s', Holds o s' C → Q (.tuple [.agg [I 0, I 0], I err]) s') : WP (call PF 34 [hv, I n, I kind, I words] s) Q := by
  rw [call_run F34]; simp -implicitDefEqProofs only [↓GP, GB, GL, Nat.reduceAdd, Nat.reduceSub, Nat.reduceEqDiff, Nat.reduceMul, Nat.reduceLeDiff, Int.reduceBNe, Int.reduceBEq, Nat.reduceLT, reduceCtorEq, c34]
  have e' : AtErr ((s.next, some (.cells [I 0, I 0] none)) :: C) hv n err := by
    rcases e with ⟨g, h⟩ | ⟨h, hp, p, h1, h2, h3⟩
    · exact .inl ⟨g.mono fun x hx => List.mem_cons_of_mem _ hx, h⟩
    · exact .inr ⟨h, hp, p, h1, List.mem_cons_of_mem _ h2, h3⟩
  refine wp_in (s72_err (hC.alloc _) e' hone hcl fun s1 h1 => ?_)
  have f := h1.f1
  rcases e.ne with rfl | rfl
  · simp -implicitDefEqProofs only [↓GP, GB, GL, Nat.reduceAdd, Nat.reduceSub, Nat.reduceEqDiff, Nat.reduceMul, Nat.reduceLeDiff, Int.reduceBNe, Int.reduceBEq, Nat.reduceLT, reduceCtorEq, f, Int.reduceBNe]
    exact q _ ((h1.set0 _).tl)
  · simp -implicitDefEqProofs only [↓GP, GB, GL, Nat.reduceAdd, Nat.reduceSub, Nat.reduceEqDiff, Nat.reduceMul, Nat.reduceLeDiff, Int.reduceBNe, Int.reduceBEq, Nat.reduceLT, reduceCtorEq, f, Int.reduceBNe]
    exact q _ ((h1.set0 _).tl)
def BadStore (g : PReg) (kind words : Int) : Prop := ¬ (1 ≤ kind ∧ kind ≤ 255) ∨ ¬ (1 ≤ words ∧ words ≤ 31) ∨ (0 < g.size ∧ ((g.size : Int) < words ∨ g.objs ≠ []))
theorem s34_bad (hC : Holds o s C) {hp : PHeap} {p i : Nat} {kind words : Int} (m1 : (hp.id, some (hp.hd p)) ∈ C) (m2 : (hp.rowk, hp.row) ∈ C) (hlen : hp.regs.length < 2 ^ 62) {g : PReg} (hr : hp.regs[i]? = some g) (mg : (g.id, some g.hd) ∈ C)
    (hb : BadStore g kind words) (q : ∀ s', Holds o s' C → Q (.tuple [.agg [I 0, I 0], I 2]) s') : WP (call PF 34 [ptrN hp.id, I i, I kind, I words] s) Q := by
  rw [call_run F34]; simp -implicitDefEqProofs only [↓GP, GB, GL, Nat.reduceAdd, Nat.reduceSub, Nat.reduceEqDiff, Nat.reduceMul, Nat.reduceLeDiff, Int.reduceBNe, Int.reduceBEq, Nat.reduceLT, reduceCtorEq, c34]
  refine wp_in (s72 (hC.alloc _) (List.mem_cons_of_mem _ m1) (List.mem_cons_of_mem _ m2) hlen hr fun s1 h1 => ?_)
  have f := h1.f1
  have fg := h1.tl.mem mg
  simp only [PReg.hd] at fg
  by_cases h1k : (decide (1 ≤ kind) && decide (kind ≤ 255)) = true
  · by_cases h1w : (decide (1 ≤ words) && decide (words ≤ 31)) = true
    · have hfin : 0 < g.size ∧ ((g.size : Int) < words ∨ g.objs ≠ []) := by
        rcases hb with h | h | h
        · simp at h1k; omega
        · simp at h1w; omega
        · exact h
      have hs : ((g.size : Int) > 0) := by omega
      by_cases hw : (words > (g.size : Int))
      · simp -implicitDefEqProofs only [↓GP, GB, GL, Nat.reduceAdd, Nat.reduceSub, Nat.reduceEqDiff, Nat.reduceMul, Nat.reduceLeDiff, Int.reduceBNe, Int.reduceBEq, Nat.reduceLT, reduceCtorEq, f, fg, s56, h1k, h1w, hs, hw, Int.reduceBNe]
        exact q _ ((h1.set0 _).tl)
      · have ho : ((g.objs.length : Int) > 0) := by
          rcases hfin.2 with h | h
          · omega
          · have := List.length_pos_iff.2 h; omega
        simp -implicitDefEqProofs only [↓GP, GB, GL, Nat.reduceAdd, Nat.reduceSub, Nat.reduceEqDiff, Nat.reduceMul, Nat.reduceLeDiff, Int.reduceBNe, Int.reduceBEq, Nat.reduceLT, reduceCtorEq, f, fg, s56, h1k, h1w, hs, hw, ho, Int.reduceBNe]
        exact q _ ((h1.set0 _).tl)
    · simp only [Bool.not_eq_true] at h1w
      simp -implicitDefEqProofs only [↓GP, GB, GL, Nat.reduceAdd, Nat.reduceSub, Nat.reduceEqDiff, Nat.reduceMul, Nat.reduceLeDiff, Int.reduceBNe, Int.reduceBEq, Nat.reduceLT, reduceCtorEq, f, fg, s56, h1k, h1w, Int.reduceBNe]
      exact q _ ((h1.set0 _).tl)
  · simp only [Bool.not_eq_true] at h1k
    simp -implicitDefEqProofs only [↓GP, GB, GL, Nat.reduceAdd, Nat.reduceSub, Nat.reduceEqDiff, Nat.reduceMul, Nat.reduceLeDiff, Int.reduceBNe, Int.reduceBEq, Nat.reduceLT, reduceCtorEq, f, fg, s56, h1k, Int.reduceBNe]
    exact q _ ((h1.set0 _).tl)
theorem zeros_words : ∀ w : Nat, zeros [I 0, I 0] w = (List.replicate w ((0 : Int), (0 : Int))).flatMap encW
  | 0 => rfl
  | w + 1 => by rw [zeros, zeros_words w, List.replicate_succ, List.flatMap_cons]; rfl
def GoodStore (g : PReg) (kind words : Nat) : Prop := 1 ≤ kind ∧ kind ≤ 255 ∧ 1 ≤ words ∧ words ≤ 31 ∧ (0 < g.size → words ≤ g.size ∧ g.objs = [])
theorem s34_go {hp : PHeap} {p r kind words : Nat} {u : List Bool} {A B : List PReg} {g : PReg} (H : Holds o s (poolC p r u ++ (hp.ch p ++ F))) (hr : hp.regs = A ++ g :: B) (hlen : hp.regs.length ≤ 100000) (hb : GoodStore g kind words)
    (q : ∀ s' t xid wid, Holds o s' (poolC p r u ++ (g.ch ++ (PObj.ch ⟨xid, wid, ⟨0, kind, List.replicate words (0, 0)⟩⟩ ++ ((t, some (.cells [I 0, I 0] none)) :: (hp.id, some (hp.hd p)) :: (hp.rowk, hp.row) :: (A.flatMap PReg.ch ++ (B.flatMap PReg.ch ++ F)))))) →
      WP (call PF 77 [ptrN hp.id, ptrN g.id, ptrN xid] s') fun v s2 => ∃ b, v = .bool b ∧ (b = false → ∀ s3, s3 = s2.set t (.cells [I 0, I 0] none) → s2.new t = some (.cells [I 0, I 0] none) ∧ Q (.tuple [.agg [I 0, I 0], I 81]) s3) ∧
        (b = true → ∃ (at_ life : Int), ∃ d1 d2 d3 d4 d5 d6 d7, s2.new t = some (.cells [I 0, I 0] none) ∧ s2.new xid = some (.cells [I at_, d1, d2] none) ∧ s2.new g.id = some (.cells [I life, d3, d4, d5, d6, d7] none) ∧ ∀ s3, s3 = s2.set t (.cells [I at_, I life] none) → Q (.tuple [.agg [I at_, I life], I 0]) s3)) :
    WP (call PF 34 [ptrN hp.id, I A.length, I kind, I words] s) Q := by
  obtain ⟨b1, b2, b3, b4, b5⟩ := hb
  rw [call_run F34]; simp -implicitDefEqProofs only [↓GP, GB, GL, Nat.reduceAdd, Nat.reduceSub, Nat.reduceEqDiff, Nat.reduceMul, Nat.reduceLeDiff, Int.reduceBNe, Int.reduceBEq, Nat.reduceLT, reduceCtorEq, c34]
  refine wp_in (s72 (hp := hp) (p := p) (r := g) (H.alloc _) (by simp [PHeap.ch]) (by simp [PHeap.ch]) (by omega) (by rw [hr]; simp) fun s1 h1 => ?_)
  have h2 : Holds o s1 ((s.next, some (.cells [I 0, I 0] none)) :: (g.id, some g.hd) :: (g.pgk, pagesO g.pages) :: (g.obk, PReg.obO g.objs) :: (g.plk, some g.pl) :: (g.objs.flatMap PObj.ch ++ (poolC p r u ++ ((hp.id, some (hp.hd p)) :: (hp.rowk, hp.row) :: (A.flatMap PReg.ch ++ (B.flatMap PReg.ch ++ F)))))) := (Holds.of (h1) (fun k => by simp +arith only [hr, HA, HB]) (fun k x => by simp only [hr, HA, HC]; grind only))
  have f := h2.f2
  simp only [PReg.hd] at f
  have h1k : (decide (1 ≤ (kind : Int)) && decide ((kind : Int) ≤ 255)) = true := by simp; omega
  have h1w : (decide (1 ≤ (words : Int)) && decide ((words : Int) ≤ 31)) = true := by simp; omega
  have hm := fun s => mkV_int (s := s) (bytes := 16) (z := [I 0, I 0]) (k := .i64) (k' := .i64) (l := words) (c := words) (by omega) (by omega) (by omega) (by omega)
  simp only [Int.toNat_natCast] at hm
  have tail : WP (contO (call PF) (some 65) [oa 66 (.un .not (.t 65))] (sp 77 [(0, ptrN hp.id), (8, ptrN s.next), (10, ptrN g.id), (12, ptrN (s1.next + 1)), (62, ptrN hp.id), (63, ptrN g.id), (64, ptrN (s1.next + 1))]) (MK (kp 77 [8,10,12,66]) (seqK (loop PF) (call PF) j34_bbbbab (seqK (loop PF) (call PF) j34_bbbbb (finR [(8, some (some 2)), (9, none)]))))
      (call PF 77 [ptrN hp.id, ptrN g.id, ptrN (s1.next + 1)] ((s1.alloc (.cells (zeros [I 0, I 0] words) none)).alloc (.cells [I 0, I kind, slN s1.next words] none)))) Q := by
    have h3 := (h2.alloc (.cells (zeros [I 0, I 0] words) none)).alloc (.cells [I 0, I kind, slN s1.next words] none)
    obtain ⟨v, s2, e, b, rfl, hF, hT⟩ := q ((s1.alloc (.cells (zeros [I 0, I 0] words) none)).alloc (.cells [I 0, I kind, slN s1.next words] none)) s.next (s1.next + 1) s1.next (Holds.of (h3) (fun k => by simp +arith only [PObj.O, PObj.W, List.length_replicate, zeros_words, Int.natCast_zero, alloc_next, HA, HB]) (fun k x => by simp only [PObj.O, PObj.W, List.length_replicate, zeros_words, Int.natCast_zero, alloc_next, HA, HC]; grind only))
    cases b with
    | false =>
      obtain ⟨f1, hq⟩ := hF rfl _ rfl
      simp -implicitDefEqProofs only [↓GP, GB, GL, Nat.reduceAdd, Nat.reduceSub, Nat.reduceEqDiff, Nat.reduceMul, Nat.reduceLeDiff, Int.reduceBNe, Int.reduceBEq, Nat.reduceLT, reduceCtorEq, e, j34_bbbbab, f1]
      exact hq
    | true =>
      obtain ⟨at_, life, d1, d2, d3, d4, d5, d6, d7, f1, f2, f3, hq⟩ := hT rfl
      simp -implicitDefEqProofs only [↓GP, GB, GL, Nat.reduceAdd, Nat.reduceSub, Nat.reduceEqDiff, Nat.reduceMul, Nat.reduceLeDiff, Int.reduceBNe, Int.reduceBEq, Nat.reduceLT, reduceCtorEq, e, j34_bbbbab, j34_bbbbb, f1, f2, f3]
      exact hq _ rfl
  by_cases hs : ((g.size : Int) > 0)
  · obtain ⟨c1, c2⟩ := b5 (by omega)
    have hw : ¬ ((words : Int) > (g.size : Int)) := by omega
    have ho : ¬ ((0 : Int) > 0) := by omega
    rw [c2] at f
    simp only [List.length_nil, rowV_zero] at f
    simp -implicitDefEqProofs only [↓GP, GB, GL, Nat.reduceAdd, Nat.reduceSub, Nat.reduceEqDiff, Nat.reduceMul, Nat.reduceLeDiff, Int.reduceBNe, Int.reduceBEq, Nat.reduceLT, reduceCtorEq, f, s56, h1k, h1w, hs, hw, ho, hm, Int.reduceBNe, Int.natCast_zero]
    exact tail
  · simp -implicitDefEqProofs only [↓GP, GB, GL, Nat.reduceAdd, Nat.reduceSub, Nat.reduceEqDiff, Nat.reduceMul, Nat.reduceLeDiff, Int.reduceBNe, Int.reduceBEq, Nat.reduceLT, reduceCtorEq, f, s56, h1k, h1w, hs, hm, Int.reduceBNe]
    exact tail
end
end Go.Proofs.Ytoldkemimhebaaa

set_option linter.unusedSimpArgs false
set_option linter.unusedVariables false
namespace Go.Proofs.Ytoldkemimhebaaa
open Go Go.IM
def c27 : IFn := ⟨10, [(2, none)],
  (.seq (.region [oa 2 (.mov (ai 0))] (kp 10 [0]))
  (.seq (.seq (.region [oa 3 (.mov (.t 0)), oa 4 (.call 71 [(.t 3)])] (kp 10 [0,4]))
  (.cond (.t 4)
  (.seq (.region [oa 2 (.mov (ai 0))] (kp 10 [2]))
  (sr 10 [2]))
  (sk 10 [0])))
  (.seq (.region [oa 5 (.mov (.t 0)), oa 6 (.nilCheck (.t 5)), oa 7 (.fieldAddr 1 (.t 6)), oa 8 (.load none (.t 7)), oa 9 (.lenSlice (.t 8)), oa 2 (.mov (.t 9))] (kp 10 [2]))
  (sr 10 [2]))))⟩
theorem F27 : shutF Try.prog 27 = some c27 := by kernel_rfl
def c35 : IFn := ⟨21, [(4, none), (5, none)],
  (.seq (.region [oa 4 (.mov (ai 0)), oa 5 (.mov (ai 0))] (kp 21 [0,1]))
  (.seq (.region [oa 9 (.mov (.t 0)), oa 10 (.mov (.t 1)), oa 11 (.call 72 [(.t 9), (.t 10)]), oa 8 (.mov (.t 11)), oa 12 (.extract (.t 8) 0), oa 13 (.extract (.t 8) 1), oa 6 (.mov (.t 12)), oa 7 (.mov (.t 13))] (kp 21 [6,7]))
  (.seq (.seq (.region [oa 14 (.mov (.t 7)), oa 15 (.bin .neq (.t 14) (ai 0))] (kp 21 [6,7,15]))
  (.cond (.t 15)
  (.seq (.region [oa 16 (.mov (.t 7)), oa 4 (.mov (ai 0)), oa 5 (.mov (.t 16))] (kp 21 [4,5]))
  (sr 21 [4,5]))
  (sk 21 [6])))
  (.seq (.region [oa 17 (.mov (.t 6)), oa 18 (.nilCheck (.t 17)), oa 19 (.fieldAddr 0 (.t 18)), oa 20 (.load none (.t 19)), oa 4 (.mov (.t 20)), oa 5 (.mov (ai 0))] (kp 21 [4,5]))
  (sr 21 [4,5])))))⟩
theorem F35 : shutF Try.prog 35 = some c35 := by kernel_rfl
def c29 : IFn := ⟨22, [(4, none), (5, none)],
  (.seq (.region [oa 4 (.mov (.c (.slice none 0 (some 0)))), oa 5 (.mov (ai 0))] (kp 22 [0,1]))
  (.seq (.region [oa 9 (.mov (.t 0)), oa 10 (.mov (.t 1)), oa 11 (.call 72 [(.t 9), (.t 10)]), oa 8 (.mov (.t 11)), oa 12 (.extract (.t 8) 0), oa 13 (.extract (.t 8) 1), oa 6 (.mov (.t 12)), oa 7 (.mov (.t 13))] (kp 22 [6,7]))
  (.seq (.seq (.region [oa 14 (.mov (.t 7)), oa 15 (.bin .neq (.t 14) (ai 0))] (kp 22 [6,7,15]))
  (.cond (.t 15)
  (.seq (.region [oa 16 (.mov (.t 7)), oa 4 (.mov (.c (.slice none 0 (some 0)))), oa 5 (.mov (.t 16))] (kp 22 [4,5]))
  (sr 22 [4,5]))
  (sk 22 [6])))
  (.seq (.region [oa 17 (.mov (.t 6)), oa 18 (.nilCheck (.t 17)), oa 19 (.fieldAddr 2 (.t 18)), oa 20 (.load none (.t 19)), oa 21 (.call 74 [(.t 20)]), oa 4 (.mov (.t 21)), oa 5 (.mov (ai 0))] (kp 22 [4,5]))
  (sr 22 [4,5])))))⟩
theorem F29 : shutF Try.prog 29 = some c29 := by kernel_rfl
def c74 : IFn := ⟨8, [(2, none)],
  (.seq (.region [oa 2 (.mov (.c (.slice none 0 (some 0))))] (kp 8 [0]))
  (.seq (.seq (.region [oa 3 (.mov (.t 0)), oa 4 (.eql false .slice (.t 3) (.c (.slice none 0 (some 0))))] (kp 8 [0,4]))
  (.cond (.t 4)
  (.seq (.region [oa 2 (.mov (.c (.slice none 0 (some 0))))] (kp 8 [2]))
  (sr 8 [2]))
  (sk 8 [0])))
  (.seq (.region [oa 5 (.buildSlice 0 [] []), oa 6 (.mov (.t 0)), oa 7 (.append 1 8 (.t 5) (.t 6)), oa 2 (.mov (.t 7))] (kp 8 [2]))
  (sr 8 [2]))))⟩
theorem F74 : shutF Try.prog 74 = some c74 := by kernel_rfl
def l73_0 : IC := (.seq (.seq (.region [oa 11 (.bin .lss (.t 10) (.t 9))] (kp 28 [0,5,8,9,10,11]))
  (.seq (.cond (.t 11)
  (sk 28 [0,5,8,9,10])
  (sx 28 [5] 0))
  (.seq (.block 1
  (.seq (.region [oa 12 (.indexAddr 1 (.t 8) (.t 10)), oa 13 (.load none (.t 12)), oa 7 (.mov (.t 13))] (kp 28 [0,5,7,8,9,10]))
  (.region [oa 14 (.mov (.t 5)), oa 15 (.mov (.t 7)), oa 16 (.nilCheck (.t 15)), oa 17 (.fieldAddr 0 (.t 16)), oa 18 (.load none (.t 17)), oa 19 (.mov (.t 0)), oa 20 (.nilCheck (.t 19)), oa 21 (.fieldAddr 0 (.t 20)), oa 22 (.load none (.t 21)), oa 23 (.build [(.int .i64 (0)), (.int .i64 (0))] [(0, 1, (.t 18)), (1, 1, (.t 22))]), oa 24 (.buildSlice 1 [(.int .i64 (0)), (.int .i64 (0))] [(0, 2, (.t 23))]), oa 25 (.append 2 16 (.t 14) (.t 24)), oa 5 (.mov (.t 25))] (kp 28 [0,5,8,9,10]))))
  (.region [oa 26 (.bin .add (.t 10) (ai 1)), oa 10 (.mov (.t 26))] (kp 28 [0,5,8,9,10])))))
  (sk 28 [0,5,8,9,10]))
def c73 : IFn := ⟨28, [(4, none)],
  (.seq (.region [oa 4 (.mov (.c (.slice none 0 (some 0))))] (kp 28 [0,1]))
  (.seq (.region [oa 5 (.mov (.c (.slice none 0 (some 0))))] (kp 28 [0,1,5]))
  (.seq (.seq (.region [oa 8 (.mov (.t 1)), oa 9 (.lenSlice (.t 8)), oa 10 (.mov (ai 0))] (kp 28 [0,5,8,9,10]))
  (.block 0
  (.seq (sk 28 [0,5,8,9,10])
  (.loop l73_0))))
  (.seq (.region [oa 27 (.mov (.t 5)), oa 4 (.mov (.t 27))] (kp 28 [4]))
  (sr 28 [4])))))⟩
theorem F73 : shutF Try.prog 73 = some c73 := by kernel_rfl
def c28 : IFn := ⟨23, [(4, none), (5, none)],
  (.seq (.region [oa 4 (.mov (.c (.slice none 0 (some 0)))), oa 5 (.mov (ai 0))] (kp 23 [0,1]))
  (.seq (.region [oa 9 (.mov (.t 0)), oa 10 (.mov (.t 1)), oa 11 (.call 72 [(.t 9), (.t 10)]), oa 8 (.mov (.t 11)), oa 12 (.extract (.t 8) 0), oa 13 (.extract (.t 8) 1), oa 6 (.mov (.t 12)), oa 7 (.mov (.t 13))] (kp 23 [6,7]))
  (.seq (.seq (.region [oa 14 (.mov (.t 7)), oa 15 (.bin .neq (.t 14) (ai 0))] (kp 23 [6,7,15]))
  (.cond (.t 15)
  (.seq (.region [oa 16 (.mov (.t 7)), oa 4 (.mov (.c (.slice none 0 (some 0)))), oa 5 (.mov (.t 16))] (kp 23 [4,5]))
  (sr 23 [4,5]))
  (sk 23 [6])))
  (.seq (.region [oa 17 (.mov (.t 6)), oa 18 (.mov (.t 6)), oa 19 (.nilCheck (.t 18)), oa 20 (.fieldAddr 4 (.t 19)), oa 21 (.load none (.t 20)), oa 22 (.call 73 [(.t 17), (.t 21)]), oa 4 (.mov (.t 22)), oa 5 (.mov (ai 0))] (kp 23 [4,5]))
  (sr 23 [4,5])))))⟩
theorem F28 : shutF Try.prog 28 = some c28 := by kernel_rfl
def l36_0 : IC := (.seq (.seq (.region [oa 15 (.bin .lss (.t 14) (.t 13))] (kp 27 [3,12,13,14,15]))
  (.seq (.cond (.t 15)
  (sk 27 [3,12,13,14])
  (sx 27 [3] 0))
  (.seq (.block 1
  (.seq (.region [oa 16 (.indexAddr 1 (.t 12) (.t 14)), oa 17 (.load none (.t 16)), oa 5 (.mov (.t 17))] (kp 27 [3,5,12,13,14]))
  (.region [oa 18 (.mov (.t 3)), oa 19 (.mov (.t 5)), oa 20 (.nilCheck (.t 19)), oa 21 (.fieldAddr 2 (.t 20)), oa 22 (.load none (.t 21)), oa 23 (.lenSlice (.t 22)), oa 24 (.bin .add (.t 18) (.t 23)), oa 3 (.mov (.t 24))] (kp 27 [3,12,13,14]))))
  (.region [oa 25 (.bin .add (.t 14) (ai 1)), oa 14 (.mov (.t 25))] (kp 27 [3,12,13,14])))))
  (sk 27 [3,12,13,14]))
def c36 : IFn := ⟨27, [(2, none)],
  (.seq (.region [oa 2 (.mov (ai 0))] (kp 27 [0]))
  (.seq (.region [oa 3 (.mov (ai 0))] (kp 27 [0,3]))
  (.seq (.seq (.region [oa 6 (.mov (.t 0)), oa 7 (.call 71 [(.t 6)]), oa 8 (.un .not (.t 7))] (kp 27 [0,3,8]))
  (.cond (.t 8)
  (.seq (.region [oa 9 (.mov (.t 0)), oa 10 (.nilCheck (.t 9)), oa 11 (.fieldAddr 1 (.t 10)), oa 12 (.load none (.t 11)), oa 13 (.lenSlice (.t 12)), oa 14 (.mov (ai 0))] (kp 27 [3,12,13,14]))
  (.block 0
  (.seq (sk 27 [3,12,13,14])
  (.loop l36_0))))
  (sk 27 [3])))
  (.seq (.region [oa 26 (.mov (.t 3)), oa 2 (.mov (.t 26))] (kp 27 [2]))
  (sr 27 [2])))))⟩
theorem F36 : shutF Try.prog 36 = some c36 := by kernel_rfl
def l75_0 : IC := (.seq (.seq (.region [oa 25 (.bin .lss (.t 24) (.t 23))] (kp 50 [4,22,23,24,25]))
  (.seq (.cond (.t 25)
  (sk 50 [4,22,23,24])
  (sx 50 [] 0))
  (.seq (.block 1
  (.seq (.region [oa 26 (.indexAddr 1 (.t 22) (.t 24)), oa 27 (.load none (.t 26)), oa 10 (.mov (.t 27))] (kp 50 [4,10,22,23,24]))
  (.seq (.region [oa 29 (.mov (.t 10)), oa 30 (.nilCheck (.t 29)), oa 31 (.fieldAddr 5 (.t 30)), oa 32 (.load none (.t 31)), oa 33 (.fieldAddr 0 (.t 4)), oa 34 (.load none (.t 33)), oa 35 (.lookup (.one .i) (.ptr none) true (.t 32) (.t 34)), oa 28 (.mov (.t 35)), oa 36 (.extract (.t 28) 0), oa 37 (.extract (.t 28) 1), oa 11 (.mov (.t 36)), oa 12 (.mov (.t 37))] (kp 50 [4,10,11,12,22,23,24]))
  (.seq (.region [oa 38 (.mov (.t 10)), oa 39 (.nilCheck (.t 38)), oa 40 (.fieldAddr 0 (.t 39)), oa 41 (.load none (.t 40)), oa 42 (.fieldAddr 1 (.t 4)), oa 43 (.load none (.t 42)), oa 44 (.bin .eql (.t 41) (.t 43)), oa 45 (.mov (.t 44)), oc 46 (.mov (.t 12)) 45 tt, oa 47 (.pick (.t 45) (.t 46) (.c (.bool false)))] (kp 50 [4,11,22,23,24,47]))
  (.cond (.t 47)
  (.seq (.region [oa 48 (.mov (.t 11)), oa 6 (.mov (.t 48)), oa 7 (.mov (ai 0))] (kp 50 [6,7]))
  (sr 50 [6,7]))
  (sk 50 [4,22,23,24]))))))
  (.region [oa 49 (.bin .add (.t 24) (ai 1)), oa 24 (.mov (.t 49))] (kp 50 [4,22,23,24])))))
  (sk 50 [4,22,23,24]))
def c75 : IFn := ⟨50, [(6, none), (7, none)],
  (.seq (.region [oa 4 (.box (.t 1)), oa 5 (.box (.t 2)), oa 6 (.mov (.c (.ptr none))), oa 7 (.mov (ai 0))] (kp 50 [0,4,5]))
  (.seq (.seq (.region [oa 13 (.mov (.t 0)), oa 14 (.mkFunc 111 [] [(.t 4), (.t 5)]), oa 15 (.call 104 [(.t 13), (.t 14)]), oa 8 (.mov (.t 15))] (kp 50 [0,4,8]))
  (.seq (.region [oa 16 (.mov (.t 8)), oa 17 (.bin .neq (.t 16) (ai 0))] (kp 50 [0,4,8,17]))
  (.cond (.t 17)
  (.seq (.region [oa 18 (.mov (.t 8)), oa 6 (.mov (.c (.ptr none))), oa 7 (.mov (.t 18))] (kp 50 [6,7]))
  (sr 50 [6,7]))
  (sk 50 [0,4]))))
  (.seq (.seq (.region [oa 19 (.mov (.t 0)), oa 20 (.nilCheck (.t 19)), oa 21 (.fieldAddr 1 (.t 20)), oa 22 (.load none (.t 21)), oa 23 (.lenSlice (.t 22)), oa 24 (.mov (ai 0))] (kp 50 [4,22,23,24]))
  (.block 0
  (.seq (sk 50 [4,22,23,24])
  (.loop l75_0))))
  (.seq (.region [oa 6 (.mov (.c (.ptr none))), oa 7 (.mov (ai 80))] (kp 50 [6,7]))
  (sr 50 [6,7])))))⟩
theorem F75 : shutF Try.prog 75 = some c75 := by kernel_rfl
def c108 : IFn := ⟨39, [(8, none), (9, none)],
  (.seq (.region [oa 5 (.box (.t 1)), oa 8 (.mov (.c (.ptr none))), oa 9 (.mov (ai 0))] (kp 39 [0,2,3,5]))
  (.seq (.region [oa 13 (.mov (.t 0)), oa 14 (.load (some 2) (.t 5)), oa 15 (.mov (.t 3)), oa 16 (.call 75 [(.t 13), (.t 14), (.t 15)]), oa 12 (.mov (.t 16)), oa 17 (.extract (.t 12) 0), oa 18 (.extract (.t 12) 1), oa 10 (.mov (.t 17)), oa 11 (.mov (.t 18))] (kp 39 [2,10,11]))
  (.seq (.block 0
  (.seq (.region [oa 20 (.mov (.t 11)), oa 21 (.bin .neq (.t 20) (ai 0)), oa 19 (.mov (.t 21))] (kp 39 [2,10,11,19]))
  (.cond (.t 19)
  (.seq (.region [oa 22 (.mov (.t 11)), oa 8 (.mov (.c (.ptr none))), oa 9 (.mov (.t 22))] (kp 39 [8,9]))
  (sr 39 [8,9]))
  (.seq (.region [oa 24 (.mov (.t 2)), oa 25 (.mov (.t 10)), oa 26 (.nilCheck (.t 25)), oa 27 (.fieldAddr 2 (.t 26)), oa 28 (.load none (.t 27)), oa 29 (.lenSlice (.t 28)), oa 30 (.bin .sub (.t 29) (ai 1)), oa 31 (.call 56 [(ai 0), (.t 24), (.t 30)]), oa 32 (.un .not (.t 31)), oa 23 (.mov (.t 32))] (kp 39 [2,10,23]))
  (.cond (.t 23)
  (.seq (.region [oa 8 (.mov (.c (.ptr none))), oa 9 (.mov (ai 2))] (kp 39 [8,9]))
  (sr 39 [8,9]))
  (sk 39 [2,10]))))))
  (.seq (.region [oa 33 (.mov (.t 10)), oa 34 (.nilCheck (.t 33)), oa 35 (.fieldAddr 2 (.t 34)), oa 36 (.load none (.t 35)), oa 37 (.mov (.t 2)), oa 38 (.indexAddr 2 (.t 36) (.t 37)), oa 8 (.mov (.t 38)), oa 9 (.mov (ai 0))] (kp 39 [8,9]))
  (sr 39 [8,9])))))⟩
theorem F108 : shutF Try.prog 108 = some c108 := by kernel_rfl
def c67 : IFn := ⟨24, [(6, (some (some 2))), (7, none)],
  (.seq (.region [oa 4 (.box (.t 1)), oa 6 (.alloc [(.int .i64 (0)), (.int .i64 (0))]), oa 7 (.mov (ai 0))] (kp 24 [0,2,4,6]))
  (.seq (.region [oa 11 (.mov (.t 0)), oa 12 (.load (some 2) (.t 4)), oa 13 (.mov (.t 2)), oa 14 (.call 108 [(.t 11), (.t 12), (.t 13), (.c (.bool true))]), oa 10 (.mov (.t 14)), oa 15 (.extract (.t 10) 0), oa 16 (.extract (.t 10) 1), oa 8 (.mov (.t 15)), oa 9 (.mov (.t 16))] (kp 24 [6,8,9]))
  (.seq (.seq (.region [oa 17 (.mov (.t 9)), oa 18 (.bin .neq (.t 17) (ai 0))] (kp 24 [6,8,9,18]))
  (.cond (.t 18)
  (.seq (.region [oa 19 (.build [(.int .i64 (0)), (.int .i64 (0))] []), oa 20 (.mov (.t 9)), ob (.store 2 (.t 6) (.t 19)), oa 7 (.mov (.t 20))] (kp 24 [6,7]))
  (sr 24 [6,7]))
  (sk 24 [6,8])))
  (.seq (.region [oa 21 (.mov (.t 8)), oa 22 (.nilCheck (.t 21)), oa 23 (.load (some 2) (.t 22)), ob (.store 2 (.t 6) (.t 23)), oa 7 (.mov (ai 0))] (kp 24 [6,7]))
  (sr 24 [6,7])))))⟩
theorem F67 : shutF Try.prog 67 = some c67 := by kernel_rfl
def c65 : IFn := ⟨27, [(8, none)],
  (.seq (.region [oa 5 (.box (.t 1)), oa 7 (.box (.t 3)), oa 8 (.mov (ai 0))] (kp 27 [0,2,5,7]))
  (.seq (.region [oa 12 (.mov (.t 0)), oa 13 (.load (some 2) (.t 5)), oa 14 (.mov (.t 2)), oa 15 (.fieldAddr 1 (.t 7)), oa 16 (.load none (.t 15)), oa 17 (.call 56 [(ai 0), (.t 16), (ai 100000)]), ob (.again 13 (.load (some 2) (.t 5))), oa 18 (.call 108 [(.t 12), (.t 13), (.t 14), (.t 17)]), oa 11 (.mov (.t 18)), oa 19 (.extract (.t 11) 0), oa 20 (.extract (.t 11) 1), oa 9 (.mov (.t 19)), oa 10 (.mov (.t 20))] (kp 27 [7,9,10]))
  (.seq (.seq (.region [oa 21 (.mov (.t 10)), oa 22 (.bin .eql (.t 21) (ai 0))] (kp 27 [7,9,10,22]))
  (.cond (.t 22)
  (.region [oa 23 (.mov (.t 9)), oa 24 (.load (some 2) (.t 7)), oa 25 (.nilCheck (.t 23)), ob (.store 2 (.t 25) (.t 24))] (kp 27 [10]))
  (sk 27 [10])))
  (.seq (.region [oa 26 (.mov (.t 10)), oa 8 (.mov (.t 26))] (kp 27 [8]))
  (sr 27 [8])))))⟩
theorem F65 : shutF Try.prog 65 = some c65 := by kernel_rfl
def c30 : IFn := ⟨27, [(4, none), (5, none), (6, none)],
  (.seq (.region [oa 3 (.box (.t 1)), oa 4 (.mov (ai 0)), oa 5 (.mov (ai 0)), oa 6 (.mov (ai 0))] (kp 27 [0,3]))
  (.seq (.region [oa 10 (.mov (.t 0)), oa 11 (.load (some 2) (.t 3)), oa 12 (.call 75 [(.t 10), (.t 11), (.c (.bool true))]), oa 9 (.mov (.t 12)), oa 13 (.extract (.t 9) 0), oa 14 (.extract (.t 9) 1), oa 7 (.mov (.t 13)), oa 8 (.mov (.t 14))] (kp 27 [7,8]))
  (.seq (.seq (.region [oa 15 (.mov (.t 8)), oa 16 (.bin .neq (.t 15) (ai 0))] (kp 27 [7,8,16]))
  (.cond (.t 16)
  (.seq (.region [oa 17 (.mov (.t 8)), oa 4 (.mov (ai 0)), oa 5 (.mov (ai 0)), oa 6 (.mov (.t 17))] (kp 27 [4,5,6]))
  (sr 27 [4,5,6]))
  (sk 27 [7])))
  (.seq (.region [oa 18 (.mov (.t 7)), oa 19 (.nilCheck (.t 18)), oa 20 (.fieldAddr 1 (.t 19)), oa 21 (.load none (.t 20)), oa 22 (.mov (.t 7)), oa 23 (.nilCheck (.t 22)), oa 24 (.fieldAddr 2 (.t 23)), oa 25 (.load none (.t 24)), oa 26 (.lenSlice (.t 25)), oa 4 (.mov (.t 21)), oa 5 (.mov (.t 26)), oa 6 (.mov (ai 0))] (kp 27 [4,5,6]))
  (sr 27 [4,5,6])))))⟩
theorem F30 : shutF Try.prog 30 = some c30 := by kernel_rfl
section
variable {o : Nat → Option O} {s : St} {C F : Ch} {Q : V → St → Prop}
set_option maxRecDepth 10000
theorem s34_full {hp : PHeap} {p r kind words : Nat} {u : List Bool} {A B : List PReg} {g : PReg} (H : Holds o s (poolC p r u ++ (hp.ch p ++ F))) (hr : hp.regs = A ++ g :: B) (hlen : hp.regs.length ≤ 100000) (hu : u.length ≤ 400) (hok : RegOk u.length g.m)
    (hb : GoodStore g kind words) (hput : putM u g.size g.life g.fill g.pages (words + 1) = none)
    (q : ∀ s', Holds o s' (poolC p r u ++ (hp.ch p ++ F)) → Q (.tuple [.agg [I 0, I 0], I 81]) s') : WP (call PF 34 [ptrN hp.id, I A.length, I kind, I words] s) Q := by
  refine s34_go H hr hlen hb fun s' t xid wid h1 => ?_
  refine wp_res (s77_none (c := rowV hp.rowk hp.regs.length) (d := I hp.lives) h1 (by simp [PHeap.hd]) hu hok.b (by simpa using hb.2.2.2.1) (by simpa using hput)) ⟨false, rfl, fun _ s3 e => ?_, fun h => by cases h⟩
  have h2 : Holds o s' ((t, some (.cells [I 0, I 0] none)) :: (poolC p r u ++ (g.ch ++ ((hp.id, some (hp.hd p)) :: (hp.rowk, hp.row) :: (A.flatMap PReg.ch ++ (B.flatMap PReg.ch ++ F)))))) := (Holds.of (h1) (fun k => by simp +arith only [HA, HB]) (fun k x => by simp only [HA, HC]; grind only))
  refine ⟨h2.g0, ?_⟩
  rw [e]
  exact q _ (Holds.of ((h2.set0 (.cells [I 0, I 0] none)).tl) (fun k => by simp +arith only [hr, HA, HB]) (fun k x => by simp only [hr, HA, HC]; grind only))
theorem s34 {hp : PHeap} {p r kind words : Nat} {u : List Bool} {A B : List PReg} {g : PReg} (H : Holds o s (poolC p r u ++ (hp.ch p ++ F))) (hr : hp.regs = A ++ g :: B) (hlen : hp.regs.length ≤ 100000) (hu : u.length ≤ 400) (hok : RegOk u.length g.m) (hg : g.ok) (hn : g.objs.length < 100000)
    (hb : GoodStore g kind words) {at_ fill : Nat} {u' : List Bool} {pages : List Nat} (hput : putM u g.size g.life g.fill g.pages (words + 1) = some (at_, u', fill, pages)) (hf : ∀ y ∈ g.objs, y.b.at_ ≠ at_)
    (q : ∀ s' pgk' obk' pl' xid wid, (({ g with pgk := pgk', pages := pages, fill := fill } : PReg).lay obk' pl' ⟨xid, wid, ⟨at_, kind, List.replicate words (0, 0)⟩⟩).ok →
      Holds o s' (poolC p r u' ++ (({ hp with regs := A ++ ({ g with pgk := pgk', pages := pages, fill := fill } : PReg).lay obk' pl' ⟨xid, wid, ⟨at_, kind, List.replicate words (0, 0)⟩⟩ :: B } : PHeap).ch p ++ F)) →
      Q (.tuple [.agg [I at_, I g.life], I 0]) s') : WP (call PF 34 [ptrN hp.id, I A.length, I kind, I words] s) Q := by
  refine s34_go H hr hlen hb fun s' t xid wid h1 => ?_
  refine s77 (c := rowV hp.rowk hp.regs.length) (d := I hp.lives) h1 (by simp [PHeap.hd]) hu hg hok.b hn (by simpa using hb.2.2.2.1) (by simpa using hput) hf fun s2 pgk' obk' pl' h2 hok' => ⟨true, rfl, (fun h => by cases h), fun _ => ?_⟩
  have h3 : Holds o s2 ((t, some (.cells [I 0, I 0] none)) :: (xid, some (.cells [I at_, I kind, slN wid words] none)) :: (g.id, some (.cells [I g.life, I g.size, rowV pgk' pages.length, I fill, rowV obk' (g.objs.length + 1), .map (some (.new g.plk))] none)) ::
    (pgk', pagesO pages) :: (obk', PReg.obO (g.objs ++ [⟨xid, wid, ⟨at_, kind, List.replicate words (0, 0)⟩⟩])) :: (g.plk, some pl') :: (wid, some (.cells ((List.replicate words ((0 : Int), (0 : Int))).flatMap encW) none)) :: (g.objs.flatMap PObj.ch ++ (poolC p r u' ++ ((hp.id, some (hp.hd p)) :: (hp.rowk, hp.row) :: (A.flatMap PReg.ch ++ (B.flatMap PReg.ch ++ F)))))) :=
      (Holds.of (h2) (fun k => by simp +arith only [PReg.lay, PObj.at, PReg.hd, PObj.O, PObj.W, List.length_append, List.length_cons, List.length_nil, Nat.zero_add, List.length_replicate, HA, HB]) (fun k x => by simp only [PReg.lay, PObj.at, PReg.hd, PObj.O, PObj.W, List.length_append, List.length_cons, List.length_nil, Nat.zero_add, List.length_replicate, HA, HC]; grind only))
  refine ⟨_, _, _, _, _, _, _, _, _, h3.g0, h3.tl.g0, h3.tl.tl.g0, fun s3 e => ?_⟩
  rw [e]
  refine q _ pgk' obk' pl' xid wid hok' (Holds.of ((h3.set0 (.cells [I at_, I g.life] none)).tl) (fun k => by simp +arith only [PReg.lay, PReg.hd, PObj.O, PObj.W, PHeap.hd, PHeap.row, hr, List.length_append, List.length_cons, List.length_nil, Nat.zero_add, List.length_replicate, List.map_append, List.map_cons, HA, HB]) (fun k x => by simp only [PReg.lay, PReg.hd, PObj.O, PObj.W, PHeap.hd, PHeap.row, hr, List.length_append, List.length_cons, List.length_nil, Nat.zero_add, List.length_replicate, List.map_append, List.map_cons, HA, HC]; grind only))
theorem s105 {a : Nat} {n : Int} (f : s.new a = some (.cells [I n] none)) : call PF 105 [ptrN a] s = some (.bool (decide (0 ≤ n) && decide (n ≤ 31)), s) := by
  rw [call_run F105]; simp -implicitDefEqProofs only [↓GP, GB, GL, Nat.reduceAdd, Nat.reduceSub, Nat.reduceEqDiff, Nat.reduceMul, Nat.reduceLeDiff, Int.reduceBNe, Int.reduceBEq, Nat.reduceLT, reduceCtorEq, c105, f, s56]
theorem s59_bad (hC : Holds o s C) {hp : PHeap} {p : Nat} {words : Int} (m1 : (hp.id, some (hp.hd p)) ∈ C) (hb : ¬ (0 ≤ words ∧ words ≤ 31)) (q : ∀ s', Holds o s' C → Q (.tuple [I 0, I 2]) s') : WP (call PF 59 [ptrN hp.id, I words] s) Q := by
  have h1 := hC.alloc (.cells [I words] none)
  have f := h1.mem (List.mem_cons_of_mem _ m1)
  have hb' : (decide (0 ≤ words) && decide (words ≤ 31)) = false := by simpa using hb
  have e := s104 (g := 105) (caps := [ptrN s.next]) f.1 (s105 h1.g0)
  rw [hb'] at e
  rw [call_run F59]; simp -implicitDefEqProofs only [↓GP, GB, GL, Nat.reduceAdd, Nat.reduceSub, Nat.reduceEqDiff, Nat.reduceMul, Nat.reduceLeDiff, Int.reduceBNe, Int.reduceBEq, Nat.reduceLT, reduceCtorEq, c59, e, Int.reduceBNe, Int.reduceBEq]
  exact q _ h1.tl
theorem s59_full (hC : Holds o s C) {hp : PHeap} {p : Nat} {words : Int} (m1 : (hp.id, some (hp.hd p)) ∈ C) (hb : 0 ≤ words ∧ words ≤ 31) (hl : 100000 ≤ hp.lives) (q : ∀ s', Holds o s' C → Q (.tuple [I 0, I 4]) s') : WP (call PF 59 [ptrN hp.id, I words] s) Q := by
  have h1 := hC.alloc (.cells [I words] none)
  have f := h1.mem (List.mem_cons_of_mem _ m1)
  have f0 := hC.mem m1
  simp only [PHeap.hd] at f0
  have hb' : (decide (0 ≤ words) && decide (words ≤ 31)) = true := by simpa using hb
  have hl' : ((hp.lives : Int) ≥ 100000) := by omega
  have e := s104 (g := 105) (caps := [ptrN s.next]) f.1 (s105 h1.g0)
  rw [hb'] at e
  rw [call_run F59]; simp -implicitDefEqProofs only [↓GP, GB, GL, Nat.reduceAdd, Nat.reduceSub, Nat.reduceEqDiff, Nat.reduceMul, Nat.reduceLeDiff, Int.reduceBNe, Int.reduceBEq, Nat.reduceLT, reduceCtorEq, c59, e, f0, hl', Int.reduceBNe, Int.reduceBEq]
  exact q _ h1.tl
theorem s59 {hp : PHeap} {p words : Nat} (H : Holds o s (hp.ch p ++ F)) (h0 : hp.regs ≠ []) (hlen : hp.regs.length < 100000) (hb : words ≤ 31) (hl : hp.lives < 100000)
    (q : ∀ s' rk k m sl, Holds o s' (({ hp with rowk := rk, lives := hp.lives + 1, regs := hp.regs ++ [⟨k, 0, 0, m, .map [] 0, words, hp.lives + 1, 0, [], []⟩], sl := sl } : PHeap).ch p ++ F) → Q (.tuple [I hp.regs.length, I 0]) s') : WP (call PF 59 [ptrN hp.id, I words] s) Q := by
  have h1 := H.alloc (.cells [I words] none)
  have m1 : (hp.id, some (hp.hd p)) ∈ hp.ch p ++ F := by simp [PHeap.ch]
  have f := h1.mem (List.mem_cons_of_mem _ m1)
  have f0 := H.mem m1
  simp only [PHeap.hd] at f0
  have hb' : (decide (0 ≤ (words : Int)) && decide ((words : Int) ≤ 31)) = true := by simp; omega
  have hl' : ¬ ((hp.lives : Int) ≥ 100000) := by omega
  have e := s104 (g := 105) (caps := [ptrN s.next]) f.1 (s105 h1.g0)
  rw [hb'] at e
  rw [call_run F59]; simp -implicitDefEqProofs only [↓GP, GB, GL, Nat.reduceAdd, Nat.reduceSub, Nat.reduceEqDiff, Nat.reduceMul, Nat.reduceLeDiff, Int.reduceBNe, Int.reduceBEq, Nat.reduceLT, reduceCtorEq, c59, e, f0, hl', Int.reduceBNe, Int.reduceBEq]
  refine wp_in (s57 (h := hp.id) (rk := hp.rowk) (n := hp.regs.length) (pv := ptrN p) (lives := hp.lives) (cs := hp.regs.map fun r => ptrN r.id) (sl := hp.sl) (F := hp.regs.flatMap PReg.ch ++ F) (by omega) (by omega) (Holds.of (h1) (fun k => by simp +arith only [PHeap.hd, PHeap.row, HA, HB]) (fun k x => by simp only [PHeap.hd, PHeap.row, HA, HC]; grind only)) (by simp) (fun h => absurd (List.length_eq_zero_iff.1 h) h0) fun s1 rk k m sl h2 => ?_)
  have f := h2.f1
  have w : wrapI .i64 (((hp.regs.length + 1 : Nat) : Int) - 1) = I (hp.regs.length : Nat) := by rw [wrap_sub1 (by omega) (by omega)]; rfl
  simp -implicitDefEqProofs only [↓GP, GB, GL, Nat.reduceAdd, Nat.reduceSub, Nat.reduceEqDiff, Nat.reduceMul, Nat.reduceLeDiff, Int.reduceBNe, Int.reduceBEq, Nat.reduceLT, reduceCtorEq, f, w]
  refine q _ rk k m sl (Holds.of (h2) (fun k => by simp +arith only [PHeap.hd, PReg.hd, PHeap.row, rowV_zero, List.length_append, List.length_cons, List.length_nil, Nat.zero_add, List.map_append, List.map_cons, List.map_nil, Int.natCast_zero, HA, HB]) (fun k x => by simp only [PHeap.hd, PReg.hd, PHeap.row, rowV_zero, List.length_append, List.length_cons, List.length_nil, Nat.zero_add, List.map_append, List.map_cons, List.map_nil, Int.natCast_zero, HA, HC]; grind only))
end
end Go.Proofs.Ytoldkemimhebaaa

set_option linter.unusedSimpArgs false
set_option linter.unusedVariables false
namespace Go.Proofs.Ytoldkemimhebaaa
open Go Go.IM
section
variable {o : Nat → Option O} {s : St} {C F : Ch} {Q : V → St → Prop}
set_option maxRecDepth 10000
theorem s22 {p r : Nat} {u : List Bool} (H : Holds o s (poolC p r u ++ F)) (h0 : 0 < u.length)
    (q : ∀ s' id rk k m sl, Holds o s' (poolC p r u ++ (PHeap.ch p ⟨id, rk, 1, [⟨k, 0, 0, m, .map [] 0, 0, 1, 0, [], []⟩], sl⟩ ++ F)) → Q (.tuple [ptrN id, I 0]) s') : WP (call PF 22 [ptrN p] s) Q := by
  have f := Holds.f2 H
  have hz : ((u.length : Int) == 0) = false := by rw [beq_eq_false_iff_ne]; omega
  rw [call_run F22]; simp -implicitDefEqProofs only [↓GP, GB, GL, Nat.reduceAdd, Nat.reduceSub, Nat.reduceEqDiff, Nat.reduceMul, Nat.reduceLeDiff, Int.reduceBNe, Int.reduceBEq, Nat.reduceLT, reduceCtorEq, c22, f, hz]
  refine wp_in (s57 (h := s.next) (rk := 0) (n := 0) (pv := ptrN p) (lives := 0) (cs := []) (sl := []) (F := poolC p r u ++ F) (by omega) (by omega) (Holds.of (H.alloc (.cells [ptrN p, .slice none 0 (some 0), I 0] none)) (fun k => by simp +arith only [rowV_zero, rowO_zero, Int.natCast_zero, HA, HB]) (fun k x => by simp only [rowV_zero, rowO_zero, Int.natCast_zero, HA, HC]; grind only)) rfl (fun _ => rfl) fun s1 rk k m sl h2 => ?_)
  simp -implicitDefEqProofs only [↓GP, GB, GL, Nat.reduceAdd, Nat.reduceSub, Nat.reduceEqDiff, Nat.reduceMul, Nat.reduceLeDiff, Int.reduceBNe, Int.reduceBEq, Nat.reduceLT, reduceCtorEq]
  exact q _ s.next rk k m sl (Holds.of (h2) (fun k => by simp +arith only [PHeap.hd, PReg.hd, PHeap.row, rowV_zero, List.length_append, List.length_cons, List.length_nil, Nat.zero_add, List.map_append, List.map_cons, List.map_nil, Int.natCast_zero, HA, HB]) (fun k x => by simp only [PHeap.hd, PReg.hd, PHeap.row, rowV_zero, List.length_append, List.length_cons, List.length_nil, Nat.zero_add, List.map_append, List.map_cons, List.map_nil, Int.natCast_zero, HA, HC]; grind only))
structure In (C : Ch) (p : Nat) (hp : PHeap) : Prop where
  sub : ∀ x ∈ hp.ch p, x ∈ C
theorem In.id {hp : PHeap} {p : Nat} (h : In C p hp) : (hp.id, some (hp.hd p)) ∈ C := h.sub _ (List.mem_cons_self ..)
theorem In.row {hp : PHeap} {p : Nat} (h : In C p hp) : (hp.rowk, hp.row) ∈ C := h.sub _ (List.mem_cons_of_mem _ (List.mem_cons_self ..))
theorem In.reg {hp : PHeap} {p : Nat} (h : In C p hp) {g : PReg} (m : g ∈ hp.regs) {x : Nat × Option O} (hx : x ∈ g.ch) : x ∈ C := h.sub _ (List.mem_cons_of_mem _ (List.mem_cons_of_mem _ (List.mem_flatMap.2 ⟨g, m, hx⟩)))
theorem In.hd {hp : PHeap} {p : Nat} (h : In C p hp) {g : PReg} (m : g ∈ hp.regs) : (g.id, some g.hd) ∈ C := h.reg m (List.mem_cons_self ..)
theorem In.pg {hp : PHeap} {p : Nat} (h : In C p hp) {g : PReg} (m : g ∈ hp.regs) : (g.pgk, pagesO g.pages) ∈ C := h.reg m (by simp [PReg.ch])
theorem In.ob {hp : PHeap} {p : Nat} (h : In C p hp) {g : PReg} (m : g ∈ hp.regs) : (g.obk, PReg.obO g.objs) ∈ C := h.reg m (by simp [PReg.ch])
theorem In.pl {hp : PHeap} {p : Nat} (h : In C p hp) {g : PReg} (m : g ∈ hp.regs) : (g.plk, some g.pl) ∈ C := h.reg m (by simp [PReg.ch])
theorem In.obj {hp : PHeap} {p : Nat} (h : In C p hp) {g : PReg} (m : g ∈ hp.regs) {x : PObj} (mx : x ∈ g.objs) : (x.id, some x.O) ∈ C := h.reg m (by simp [PReg.ch, PObj.ch]; exact .inr (.inr (.inr (.inr ⟨x, mx, .inl ⟨rfl, rfl⟩⟩))))
theorem In.w {hp : PHeap} {p : Nat} (h : In C p hp) {g : PReg} (m : g ∈ hp.regs) {x : PObj} (mx : x ∈ g.objs) : (x.wid, some x.W) ∈ C := h.reg m (by simp [PReg.ch, PObj.ch]; exact .inr (.inr (.inr (.inr ⟨x, mx, .inr ⟨rfl, rfl⟩⟩))))
theorem In.mono {D : Ch} {hp : PHeap} {p : Nat} (h : In C p hp) (hs : ∀ x ∈ C, x ∈ D) : In D p hp := ⟨fun x hx => hs x (h.sub x hx)⟩
theorem In.cons {hp : PHeap} {p : Nat} (h : In C p hp) (x : Nat × Option O) : In (x :: C) p hp := h.mono fun _ h => List.mem_cons_of_mem _ h
theorem s27 (hC : Holds o s C) {hp : PHeap} {p : Nat} (hin : In C p hp) : call PF 27 [ptrN hp.id] s = some (I hp.regs.length, s) := by
  have f := hC.mem hin.id
  have e := s71 f.1
  simp only [PHeap.hd] at f
  rw [call_run F27]; simp -implicitDefEqProofs only [↓GP, GB, GL, Nat.reduceAdd, Nat.reduceSub, Nat.reduceEqDiff, Nat.reduceMul, Nat.reduceLeDiff, Int.reduceBNe, Int.reduceBEq, Nat.reduceLT, reduceCtorEq, c27, e, f]
theorem s35 (hC : Holds o s C) {hp : PHeap} {p i : Nat} (hin : In C p hp) (hlen : hp.regs.length ≤ 100000) {g : PReg} (hr : hp.regs[i]? = some g) (q : ∀ s', Holds o s' C → Q (.tuple [I g.life, I 0]) s') : WP (call PF 35 [ptrN hp.id, I i] s) Q := by
  rw [call_run F35]; simp -implicitDefEqProofs only [↓GP, GB, GL, Nat.reduceAdd, Nat.reduceSub, Nat.reduceEqDiff, Nat.reduceMul, Nat.reduceLeDiff, Int.reduceBNe, Int.reduceBEq, Nat.reduceLT, reduceCtorEq, c35]
  refine wp_in (s72 hC hin.id hin.row (by omega) hr fun s1 h1 => ?_)
  have f := h1.mem (hin.hd (List.mem_of_getElem? hr))
  simp only [PReg.hd] at f
  simp -implicitDefEqProofs only [↓GP, GB, GL, Nat.reduceAdd, Nat.reduceSub, Nat.reduceEqDiff, Nat.reduceMul, Nat.reduceLeDiff, Int.reduceBNe, Int.reduceBEq, Nat.reduceLT, reduceCtorEq, f, Int.reduceBNe]
  exact q _ h1
theorem s74 (hC : Holds o s C) {k : Nat} {l : List Nat} (hl : l.length ≤ 400) (m : (k, pagesO l) ∈ C) (q : ∀ s' k', Holds o s' ((k', pagesO l) :: C) → Q (rowV k' l.length) s') : WP (call PF 74 [rowV k l.length] s) Q := by
  by_cases h : l.length = 0
  · have : l = [] := List.length_eq_zero_iff.1 h
    subst this
    rw [call_run F74]; simp -implicitDefEqProofs only [↓GP, GB, GL, Nat.reduceAdd, Nat.reduceSub, Nat.reduceEqDiff, Nat.reduceMul, Nat.reduceLeDiff, Int.reduceBNe, Int.reduceBEq, Nat.reduceLT, reduceCtorEq, c74, eqI, Option.isNone_none, List.length_nil, rowV_zero]
    exact q s 0 (hC.nilEntry 0)
  · rw [pagesO, rowO_pos (by omega)] at m
    rw [call_run F74]; simp -implicitDefEqProofs only [↓GP, GB, GL, Nat.reduceAdd, Nat.reduceSub, Nat.reduceEqDiff, Nat.reduceMul, Nat.reduceLeDiff, Int.reduceBNe, Int.reduceBEq, Nat.reduceLT, reduceCtorEq, c74, h]
    refine wp_append0 (hC.alloc _) (new_row (.inr ((hC.alloc _).mem (List.mem_cons_of_mem _ m)).1) (by simp)) (by omega) (by omega) (by unfold maxRow; omega) (by unfold maxRow; omega) fun k' s1 h1 => ?_
    simp -implicitDefEqProofs only [↓GP, GB, GL, Nat.reduceAdd, Nat.reduceSub, Nat.reduceEqDiff, Nat.reduceMul, Nat.reduceLeDiff, Int.reduceBNe, Int.reduceBEq, Nat.reduceLT, reduceCtorEq]
    exact q s1 k' (by rw [pagesO, rowO_pos (by omega)]; exact h1)
theorem s29 (hC : Holds o s C) {hp : PHeap} {p i : Nat} (hin : In C p hp) (hlen : hp.regs.length ≤ 100000) {g : PReg} (hr : hp.regs[i]? = some g) (hpl : g.pages.length ≤ 400) (q : ∀ s' k, Holds o s' ((k, pagesO g.pages) :: C) → Q (.tuple [rowV k g.pages.length, I 0]) s') : WP (call PF 29 [ptrN hp.id, I i] s) Q := by
  rw [call_run F29]; simp -implicitDefEqProofs only [↓GP, GB, GL, Nat.reduceAdd, Nat.reduceSub, Nat.reduceEqDiff, Nat.reduceMul, Nat.reduceLeDiff, Int.reduceBNe, Int.reduceBEq, Nat.reduceLT, reduceCtorEq, c29]
  refine wp_in (s72 hC hin.id hin.row (by omega) hr fun s1 h1 => ?_)
  have f := h1.mem (hin.hd (List.mem_of_getElem? hr))
  simp only [PReg.hd] at f
  simp -implicitDefEqProofs only [↓GP, GB, GL, Nat.reduceAdd, Nat.reduceSub, Nat.reduceEqDiff, Nat.reduceMul, Nat.reduceLeDiff, Int.reduceBNe, Int.reduceBEq, Nat.reduceLT, reduceCtorEq, f, Int.reduceBNe]
  refine wp_in (s74 h1 hpl (hin.pg (List.mem_of_getElem? hr)) fun s2 k h2 => ?_)
  simp -implicitDefEqProofs only [↓GP, GB, GL, Nat.reduceAdd, Nat.reduceSub, Nat.reduceEqDiff, Nat.reduceMul, Nat.reduceLeDiff, Int.reduceBNe, Int.reduceBEq, Nat.reduceLT, reduceCtorEq]
  exact q _ k h2
def encP (life : Nat) (x : PObj) : List V := [I x.b.at_, I life]
theorem pointers_loop {gid obk life : Nat} {l : List PObj} {rest : List V}  {K : Kt} (mg : (gid, some (.cells (I life :: rest) none)) ∈ C) (mo : (obk, rowO 1 l.length (l.map fun x => ptrN x.id)) ∈ C) (mx : ∀ x ∈ l, (x.id, some x.O) ∈ C) (hl : l.length ≤ 100000) :
    ∀ (m i k : Nat) (s : St), i + m = l.length → Holds o s ((k, rowO 2 i ((l.take i).flatMap (encP life))) :: C) →
    (∀ s' k', Holds o s' ((k', rowO 2 l.length (l.flatMap (encP life))) :: C) → WP (K (.exit 0) (sp 28 [(5, rowV k' l.length)]) s') Q) →
    WP (loop PF (.loop l73_0) (sp 28 [(0, ptrN gid), (5, rowV k i), (8, rowV obk l.length), (9, I l.length), (10, I i)]) s K) Q
  | 0, i, k, s, hi, H, q => by
    have hlt : ¬ ((i : Int) < (l.length : Int)) := by omega
    refine wp_round fun LL hLL => ?_
    simp -implicitDefEqProofs only [↓GP, GB, GL, Nat.reduceAdd, Nat.reduceSub, Nat.reduceEqDiff, Nat.reduceMul, Nat.reduceLeDiff, Int.reduceBNe, Int.reduceBEq, Nat.reduceLT, reduceCtorEq, l73_0, hlt]
    have e : i = l.length := by omega
    subst e
    rw [List.take_length] at H
    exact q s k H
  | m + 1, i, k, s, hi, H, q => by
    have hlt : ((i : Int) < (l.length : Int)) := by omega
    have hi' : i < l.length := by omega
    have fg := H.mem (List.mem_cons_of_mem _ mg)
    have mo' := mo
    rw [rowO_pos (by omega)] at mo'
    have fo := H.mem (List.mem_cons_of_mem _ mo')
    have fx := H.mem (List.mem_cons_of_mem _ (mx l[i] (List.getElem_mem hi')))
    have hg : (l.map fun x => ptrN x.id)[i]? = some (ptrN l[i].id) := by simp [hi']
    simp only [PObj.O] at fx
    refine wp_round fun LL hLL => ?_
    simp -implicitDefEqProofs only [↓GP, GB, GL, Nat.reduceAdd, Nat.reduceSub, Nat.reduceEqDiff, Nat.reduceMul, Nat.reduceLeDiff, Int.reduceBNe, Int.reduceBEq, Nat.reduceLT, reduceCtorEq, l73_0, hlt, ix_row hi', fg, fo, fx, hg]
    refine wp_append (cs := (l.take i).flatMap (encP life)) ((H.alloc _).r1) (by rw [tab_len (sz := 2) (fun _ => rfl)]; simp; omega) (new_cells' (alloc_new_same _ _) rfl) rfl rfl (by omega) (by unfold maxRow; omega) (by unfold maxRow; omega) fun k' s1 h1 => ?_
    have hw := wrap_add1 (a := i) (by omega)
    simp -implicitDefEqProofs only [↓GP, GB, GL, Nat.reduceAdd, Nat.reduceSub, Nat.reduceEqDiff, Nat.reduceMul, Nat.reduceLeDiff, Int.reduceBNe, Int.reduceBEq, Nat.reduceLT, reduceCtorEq, hw]
    rw [hLL]
    refine pointers_loop mg mo mx hl m (i + 1) k' s1 (by omega) ?_ q
    have e : (l.take (i + 1)).flatMap (encP life) = (l.take i).flatMap (encP life) ++ [I l[i].b.at_, I life] := by
      rw [List.take_succ_eq_append_getElem hi', List.flatMap_append]; simp [encP]
    rw [e]
    exact h1.r1.tl
theorem s73 (hC : Holds o s C) {gid obk life : Nat} {l : List PObj} {rest : List V} (mg : (gid, some (.cells (I life :: rest) none)) ∈ C) (mo : (obk, rowO 1 l.length (l.map fun x => ptrN x.id)) ∈ C) (mx : ∀ x ∈ l, (x.id, some x.O) ∈ C) (hl : l.length ≤ 100000)
    (q : ∀ s' k', Holds o s' ((k', rowO 2 l.length (l.flatMap (encP life))) :: C) → Q (rowV k' l.length) s') : WP (call PF 73 [ptrN gid, rowV obk l.length] s) Q := by
  rw [call_run F73]; simp -implicitDefEqProofs only [↓GP, GB, GL, Nat.reduceAdd, Nat.reduceSub, Nat.reduceEqDiff, Nat.reduceMul, Nat.reduceLeDiff, Int.reduceBNe, Int.reduceBEq, Nat.reduceLT, reduceCtorEq, c73]
  refine pointers_loop mg mo mx hl l.length 0 0 s (by omega) (by simpa using hC.nilEntry 0) fun s1 k h1 => ?_
  simp -implicitDefEqProofs only [↓GP, GB, GL, Nat.reduceAdd, Nat.reduceSub, Nat.reduceEqDiff, Nat.reduceMul, Nat.reduceLeDiff, Int.reduceBNe, Int.reduceBEq, Nat.reduceLT, reduceCtorEq]
  exact q s1 k h1
theorem s28 (hC : Holds o s C) {hp : PHeap} {p i : Nat} (hin : In C p hp) (hlen : hp.regs.length ≤ 100000) {g : PReg} (hr : hp.regs[i]? = some g) (hol : g.objs.length ≤ 100000) (q : ∀ s' k, Holds o s' ((k, rowO 2 g.objs.length (g.objs.flatMap (encP g.life))) :: C) → Q (.tuple [rowV k g.objs.length, I 0]) s') : WP (call PF 28 [ptrN hp.id, I i] s) Q := by
  rw [call_run F28]; simp -implicitDefEqProofs only [↓GP, GB, GL, Nat.reduceAdd, Nat.reduceSub, Nat.reduceEqDiff, Nat.reduceMul, Nat.reduceLeDiff, Int.reduceBNe, Int.reduceBEq, Nat.reduceLT, reduceCtorEq, c28]
  refine wp_in (s72 hC hin.id hin.row (by omega) hr fun s1 h1 => ?_)
  have mg := List.mem_of_getElem? hr
  have f := h1.mem (hin.hd mg)
  have m0 := hin.hd mg
  simp only [PReg.hd] at f m0
  simp -implicitDefEqProofs only [↓GP, GB, GL, Nat.reduceAdd, Nat.reduceSub, Nat.reduceEqDiff, Nat.reduceMul, Nat.reduceLeDiff, Int.reduceBNe, Int.reduceBEq, Nat.reduceLT, reduceCtorEq, f, Int.reduceBNe]
  refine wp_in (s73 h1 m0 (hin.ob mg) (fun x hx => hin.obj mg hx) hol fun s2 k h2 => ?_)
  simp -implicitDefEqProofs only [↓GP, GB, GL, Nat.reduceAdd, Nat.reduceSub, Nat.reduceEqDiff, Nat.reduceMul, Nat.reduceLeDiff, Int.reduceBNe, Int.reduceBEq, Nat.reduceLT, reduceCtorEq]
  exact q _ k h2
def inUseM (l : List (List Nat)) : Nat := (l.map (·.length)).sum
theorem inUse_loop {rk : Nat} {rs : List PReg} {sl : List V}  {K : Kt} (hC : Holds o s C) (mr : (rk, some (.cells (rs.map (fun r => ptrN r.id) ++ sl) (some 1))) ∈ C) (mg : ∀ g ∈ rs, (g.id, some g.hd) ∈ C) (hw : ∀ g ∈ rs, g.pages.length ≤ 400) (hl : rs.length ≤ 100000) :
    ∀ (m i c : Nat), i + m = rs.length → c ≤ 400 * i →
    loop PF (.loop l36_0) (sp 27 [(3, I c), (12, rowV rk rs.length), (13, I rs.length), (14, I i)]) s K = K (.exit 0) (sp 27 [(3, I (c + inUseM ((rs.drop i).map (·.pages)) : Nat))]) s
  | 0, i, c, hi, hc => by
    have hlt : ¬ ((i : Int) < (rs.length : Int)) := by omega
    refine round fun LL hLL => ?_
    simp -implicitDefEqProofs only [↓GP, GB, GL, Nat.reduceAdd, Nat.reduceSub, Nat.reduceEqDiff, Nat.reduceMul, Nat.reduceLeDiff, Int.reduceBNe, Int.reduceBEq, Nat.reduceLT, reduceCtorEq, l36_0, hlt]
    rw [List.drop_eq_nil_of_le (by omega)]
    rfl
  | m + 1, i, c, hi, hc => by
    have hlt : ((i : Int) < (rs.length : Int)) := by omega
    have hi' : i < rs.length := by omega
    have fr := hC.mem mr
    have fg := hC.mem (mg rs[i] (List.getElem_mem hi'))
    have hg : (rs.map (fun r => ptrN r.id) ++ sl)[i]? = some (ptrN rs[i].id) := by rw [List.getElem?_append_left (by simpa using hi')]; simp [hi']
    have hwi := hw rs[i] (List.getElem_mem hi')
    simp only [PReg.hd] at fg
    have w2 : wrapI .i64 ((c : Int) + (rs[i].pages.length : Int)) = I ((c + rs[i].pages.length : Nat) : Int) := wrap_add (by omega) (by omega)
    have w3 := wrap_add1 (a := i) (by omega)
    refine round fun LL hLL => ?_
    simp -implicitDefEqProofs only [↓GP, GB, GL, Nat.reduceAdd, Nat.reduceSub, Nat.reduceEqDiff, Nat.reduceMul, Nat.reduceLeDiff, Int.reduceBNe, Int.reduceBEq, Nat.reduceLT, reduceCtorEq, l36_0, hlt, ix_row hi', fr, fg, hg, w2, w3]
    rw [hLL, inUse_loop hC mr mg hw hl m (i + 1) _ (by omega) (by omega)]
    have e : inUseM ((rs.drop i).map (·.pages)) = rs[i].pages.length + inUseM ((rs.drop (i + 1)).map (·.pages)) := by
      rw [List.drop_eq_getElem_cons hi']; simp only [inUseM, List.map_cons, List.sum_cons]
    rw [e, Nat.add_assoc c]
theorem s36 (hC : Holds o s C) {hp : PHeap} {p : Nat} (hin : In C p hp) (h0 : hp.regs ≠ []) (hlen : hp.regs.length ≤ 100000) (hw : ∀ g ∈ hp.regs, g.pages.length ≤ 400) : call PF 36 [ptrN hp.id] s = some (I (inUseM (hp.regs.map (·.pages))), s) := by
  have f := hC.mem hin.id
  have e := s71 f.1
  have mr := hin.row
  unfold PHeap.row at mr
  rw [rowO_pos (List.length_pos_iff.2 h0)] at mr
  simp only [PHeap.hd] at f
  have e2 := fun K => inUse_loop (K := K) hC mr (fun g mg => hin.hd mg) hw hlen hp.regs.length 0 0 (by omega) (by omega)
  simp only [Nat.zero_add, List.drop_zero, Int.natCast_zero] at e2
  rw [call_run F36]; simp -implicitDefEqProofs only [↓GP, GB, GL, Nat.reduceAdd, Nat.reduceSub, Nat.reduceEqDiff, Nat.reduceMul, Nat.reduceLeDiff, Int.reduceBNe, Int.reduceBEq, Nat.reduceLT, reduceCtorEq, c36, e, f, e2]
end
end Go.Proofs.Ytoldkemimhebaaa

set_option linter.unusedSimpArgs false
set_option linter.unusedVariables false
namespace Go.Proofs.Ytoldkemimhebaaa
open Go Go.IM
section
variable {o : Nat → Option O} {s : St} {C F : Ch} {Q : V → St → Prop}
set_option maxRecDepth 10000
def pf (N L : Int) (r : PReg) : Option PObj := if (r.life : Int) = L then r.objs.find? (fun x => decide ((x.b.at_ : Int) = N)) else none
def pfind (N L : Int) (rs : List PReg) : Option PObj := rs.findSome? (pf N L)
theorem s111 {a b : Nat} {N L : Int} {t : Bool} (f : s.new a = some (.cells [I N, I L] none)) (f' : s.new b = some (.cells [.bool t] none)) : call PF 111 [ptrN a, ptrN b] s = some (.bool (decide (0 < L) && t), s) := by
  by_cases h : L > 0
  · rw [call_run F111]; simp -implicitDefEqProofs only [↓GP, GB, GL, Nat.reduceAdd, Nat.reduceSub, Nat.reduceEqDiff, Nat.reduceMul, Nat.reduceLeDiff, Int.reduceBNe, Int.reduceBEq, Nat.reduceLT, reduceCtorEq, c111, f, f', h]
  · rw [call_run F111]; simp -implicitDefEqProofs only [↓GP, GB, GL, Nat.reduceAdd, Nat.reduceSub, Nat.reduceEqDiff, Nat.reduceMul, Nat.reduceLeDiff, Int.reduceBNe, Int.reduceBEq, Nat.reduceLT, reduceCtorEq, c111, f, f', h]
theorem object_loop {t rk : Nat} {N L : Int} {rs : List PReg} {sl : List V}  {K : Kt} (hC : Holds o s C) (mt : (t, some (.cells [I N, I L] none)) ∈ C) (mr : (rk, some (.cells (rs.map (fun r => ptrN r.id) ++ sl) (some 1))) ∈ C)
    (mg : ∀ g ∈ rs, (g.id, some g.hd) ∈ C ∧ (g.plk, some g.pl) ∈ C ∧ g.ok) (hl : rs.length ≤ 100000) :
    ∀ (m i : Nat), i + m = rs.length →
    loop PF (.loop l75_0) (sp 50 [(4, ptrN t), (22, rowV rk rs.length), (23, I rs.length), (24, I i)]) s K =
      match pfind N L (rs.drop i) with
      | some x => K .ret (sp 50 [(6, ptrN x.id), (7, I 0)]) s
      | none => K (.exit 0) (sp 50 []) s
  | 0, i, hi => by
    have hlt : ¬ ((i : Int) < (rs.length : Int)) := by omega
    refine round fun LL hLL => ?_
    simp -implicitDefEqProofs only [↓GP, GB, GL, Nat.reduceAdd, Nat.reduceSub, Nat.reduceEqDiff, Nat.reduceMul, Nat.reduceLeDiff, Int.reduceBNe, Int.reduceBEq, Nat.reduceLT, reduceCtorEq, l75_0, hlt]
    rw [List.drop_eq_nil_of_le (by omega)]
    rfl
  | m + 1, i, hi => by
    have hlt : ((i : Int) < (rs.length : Int)) := by omega
    have hi' : i < rs.length := by omega
    have hd : rs.drop i = rs[i] :: rs.drop (i + 1) := List.drop_eq_getElem_cons hi'
    have fr := hC.mem mr
    have ft := hC.mem mt
    obtain ⟨mg1, mg2, hok⟩ := mg rs[i] (List.getElem_mem hi')
    have fg := hC.mem mg1
    simp only [PReg.hd] at fg
    have hg : (rs.map (fun r => ptrN r.id) ++ sl)[i]? = some (ptrN rs[i].id) := by rw [List.getElem?_append_left (by simpa using hi')]; simp [hi']
    have hlk := lookup_map (enc := fun n : Int => I n) keyOk_int hok (hC.mem mg2).1 (.ptr none) true N
    have hw := wrap_add1 (a := i) (by omega)
    refine round fun LL hLL => ?_
    have ih := object_loop (K := K) hC mt mr mg hl m (i + 1) (by omega)
    rw [hd]
    unfold pfind at ih ⊢
    rw [List.findSome?_cons]
    unfold pf at ih ⊢
    by_cases hL : (rs[i].life : Int) = L
    · have hb : ((rs[i].life : Int) == L) = true := by simpa using hL
      rw [if_pos hL]
      cases hfx : rs[i].objs.find? (fun x => decide ((x.b.at_ : Int) = N)) with
      | some x =>
        rw [hfx] at hlk
        simp only [Option.map_some, Option.getD_some, Option.isSome_some, if_true] at hlk
        simp -implicitDefEqProofs only [↓GP, GB, GL, Nat.reduceAdd, Nat.reduceSub, Nat.reduceEqDiff, Nat.reduceMul, Nat.reduceLeDiff, Int.reduceBNe, Int.reduceBEq, Nat.reduceLT, reduceCtorEq, l75_0, hlt, ix_row hi', fr, fg, ft, hg, hlk, hb]
      | none =>
        rw [hfx] at hlk
        simp only [Option.map_none, Option.getD_none, Option.isSome_none, if_true] at hlk
        simp -implicitDefEqProofs only [↓GP, GB, GL, Nat.reduceAdd, Nat.reduceSub, Nat.reduceEqDiff, Nat.reduceMul, Nat.reduceLeDiff, Int.reduceBNe, Int.reduceBEq, Nat.reduceLT, reduceCtorEq, l75_0, hlt, ix_row hi', fr, fg, ft, hg, hlk, hb, hw]
        rw [hLL]
        exact ih
    · have hb : ((rs[i].life : Int) == L) = false := by simpa using hL
      rw [if_neg hL]
      simp only [if_true] at hlk
      simp -implicitDefEqProofs only [↓GP, GB, GL, Nat.reduceAdd, Nat.reduceSub, Nat.reduceEqDiff, Nat.reduceMul, Nat.reduceLeDiff, Int.reduceBNe, Int.reduceBEq, Nat.reduceLT, reduceCtorEq, l75_0, hlt, ix_row hi', fr, fg, ft, hg, hlk, hb, hw]
      rw [hLL]
      exact ih
def ObjErr (C : Ch) (hv : V) (N L : Int) (oth : Bool) (err : Int) : Prop := (Gone C hv ∧ err = 6) ∨
  ∃ hp : PHeap, ∃ p, hv = ptrN hp.id ∧ In C p hp ∧ hp.regs ≠ [] ∧ hp.regs.length ≤ 100000 ∧ (∀ g ∈ hp.regs, g.ok) ∧ ((err = 2 ∧ ¬ (0 < L ∧ oth = true)) ∨ (err = 80 ∧ 0 < L ∧ oth = true ∧ pfind N L hp.regs = none))
theorem ObjErr.ne {hv : V} {N L err : Int} {oth : Bool} (h : ObjErr C hv N L oth err) : err = 6 ∨ err = 2 ∨ err = 80 := by
  rcases h with ⟨_, h⟩ | ⟨hp, p, _, _, _, _, _, h | h⟩
  · exact .inl h
  · exact .inr (.inl h.1)
  · exact .inr (.inr h.1)
theorem ObjErr.mono {D : Ch} {hv : V} {N L err : Int} {oth : Bool} (h : ObjErr C hv N L oth err) (hs : ∀ x ∈ C, x ∈ D) : ObjErr D hv N L oth err := by
  rcases h with ⟨g, h⟩ | ⟨hp, p, h1, h2, h3⟩
  · exact .inl ⟨g.mono hs, h⟩
  · exact .inr ⟨hp, p, h1, h2.mono hs, h3⟩
theorem s75_err (hC : Holds o s C) {hv : V} {N L err : Int} {oth : Bool} (e : ObjErr C hv N L oth err) (q : ∀ s', Holds o s' C → Q (.tuple [.ptr none, I err]) s') : WP (call PF 75 [hv, .agg [I N, I L], .bool oth] s) Q := by
  have h1 := (hC.alloc (.cells [I N, I L] none)).alloc (.cells [.bool oth] none)
  have hs : ∀ x ∈ C, x ∈ (s.next + 1, some (.cells [.bool oth] none)) :: (s.next, some (.cells [I N, I L] none)) :: C := fun x hx => List.mem_cons_of_mem _ (List.mem_cons_of_mem _ hx)
  rcases e with ⟨g, rfl⟩ | ⟨hp, p, rfl, hin, h0, hlen, hok, h | h⟩
  · have e := fun fv => s104_gone (fv := fv) h1 (hv := hv) (g.mono hs)
    rw [call_run F75]; simp -implicitDefEqProofs only [↓GP, GB, GL, Nat.reduceAdd, Nat.reduceSub, Nat.reduceEqDiff, Nat.reduceMul, Nat.reduceLeDiff, Int.reduceBNe, Int.reduceBEq, Nat.reduceLT, reduceCtorEq, c75, e, Int.reduceBNe]
    exact q _ h1.tl.tl
  · obtain ⟨rfl, hb⟩ := h
    have f := h1.f2
    have f' := h1.mem (hs _ hin.id)
    have e := s104 (g := 111) (caps := [ptrN s.next, ptrN (s.next + 1)]) f'.1 (s111 f.2.1.1 f.1.1)
    have hb' : (decide (0 < L) && oth) = false := by
      by_cases hh : 0 < L
      · have : oth = false := by
          cases ho : oth with
          | true => exact absurd ⟨hh, ho⟩ hb
          | false => rfl
        simp [this]
      · simp [hh]
    rw [hb'] at e
    rw [call_run F75]; simp -implicitDefEqProofs only [↓GP, GB, GL, Nat.reduceAdd, Nat.reduceSub, Nat.reduceEqDiff, Nat.reduceMul, Nat.reduceLeDiff, Int.reduceBNe, Int.reduceBEq, Nat.reduceLT, reduceCtorEq, c75, e, Int.reduceBNe]
    exact q _ h1.tl.tl
  · obtain ⟨rfl, hL, ho, hnone⟩ := h
    have f := h1.f2
    have f' := h1.mem (hs _ hin.id)
    have f0 := hC.mem hin.id
    simp only [PHeap.hd] at f0
    have e := s104 (g := 111) (caps := [ptrN s.next, ptrN (s.next + 1)]) f'.1 (s111 f.2.1.1 f.1.1)
    have hb' : (decide (0 < L) && oth) = true := by simp [hL, ho]
    rw [hb'] at e
    have mr := hin.row
    unfold PHeap.row at mr
    rw [rowO_pos (List.length_pos_iff.2 h0)] at mr
    have e2 := fun K => object_loop (K := K) h1 (List.mem_cons_of_mem _ (List.mem_cons_self ..)) (hs _ mr) (fun g mg => ⟨hs _ (hin.hd mg), hs _ (hin.pl mg), hok g mg⟩) hlen hp.regs.length 0 (by omega)
    rw [List.drop_zero, hnone] at e2
    simp only [Int.natCast_zero] at e2
    rw [call_run F75]; simp -implicitDefEqProofs only [↓GP, GB, GL, Nat.reduceAdd, Nat.reduceSub, Nat.reduceEqDiff, Nat.reduceMul, Nat.reduceLeDiff, Int.reduceBNe, Int.reduceBEq, Nat.reduceLT, reduceCtorEq, c75, e, f0, e2, Int.reduceBNe]
    exact q _ h1.tl.tl
theorem s75 (hC : Holds o s C) {hp : PHeap} {p : Nat} {N L : Int} (hin : In C p hp) (h0 : hp.regs ≠ []) (hlen : hp.regs.length ≤ 100000) (hok : ∀ g ∈ hp.regs, g.ok) (hL : 0 < L) {x : PObj} (hx : pfind N L hp.regs = some x)
    (q : ∀ s', Holds o s' C → Q (.tuple [ptrN x.id, I 0]) s') : WP (call PF 75 [ptrN hp.id, .agg [I N, I L], .bool true] s) Q := by
  have h1 := (hC.alloc (.cells [I N, I L] none)).alloc (.cells [.bool true] none)
  have hs : ∀ x ∈ C, x ∈ (s.next + 1, some (.cells [.bool true] none)) :: (s.next, some (.cells [I N, I L] none)) :: C := fun x hx => List.mem_cons_of_mem _ (List.mem_cons_of_mem _ hx)
  have f := h1.f2
  have f' := h1.mem (hs _ hin.id)
  have f0 := hC.mem hin.id
  simp only [PHeap.hd] at f0
  have e := s104 (g := 111) (caps := [ptrN s.next, ptrN (s.next + 1)]) f'.1 (s111 f.2.1.1 f.1.1)
  have hb' : (decide (0 < L) && true) = true := by simp [hL]
  rw [hb'] at e
  have mr := hin.row
  unfold PHeap.row at mr
  rw [rowO_pos (List.length_pos_iff.2 h0)] at mr
  have e2 := fun K => object_loop (K := K) h1 (List.mem_cons_of_mem _ (List.mem_cons_self ..)) (hs _ mr) (fun g mg => ⟨hs _ (hin.hd mg), hs _ (hin.pl mg), hok g mg⟩) hlen hp.regs.length 0 (by omega)
  rw [List.drop_zero, hx] at e2
  simp only [Int.natCast_zero] at e2
  rw [call_run F75]; simp -implicitDefEqProofs only [↓GP, GB, GL, Nat.reduceAdd, Nat.reduceSub, Nat.reduceEqDiff, Nat.reduceMul, Nat.reduceLeDiff, Int.reduceBNe, Int.reduceBEq, Nat.reduceLT, reduceCtorEq, c75, e, f0, e2, Int.reduceBNe]
  exact q _ h1.tl.tl
theorem pf_some {N L : Int} {r : PReg} {x : PObj} (h : pf N L r = some x) : (r.life : Int) = L ∧ x ∈ r.objs ∧ (x.b.at_ : Int) = N := by
  unfold pf at h
  split at h
  · rename_i hl
    exact ⟨hl, List.mem_of_find?_eq_some h, by simpa using List.find?_some h⟩
  · cases h
theorem pfind_mem {N L : Int} {rs : List PReg} {x : PObj} (h : pfind N L rs = some x) : ∃ g ∈ rs, x ∈ g.objs := by
  obtain ⟨g, h1, h2⟩ := List.exists_of_findSome?_eq_some h
  exact ⟨g, h1, (pf_some h2).2.1⟩
theorem s30_err (hC : Holds o s C) {hv : V} {N L err : Int} (e : ObjErr C hv N L true err) (q : ∀ s', Holds o s' C → Q (.tuple [I 0, I 0, I err]) s') : WP (call PF 30 [hv, .agg [I N, I L]] s) Q := by
  rw [call_run F30]; simp -implicitDefEqProofs only [↓GP, GB, GL, Nat.reduceAdd, Nat.reduceSub, Nat.reduceEqDiff, Nat.reduceMul, Nat.reduceLeDiff, Int.reduceBNe, Int.reduceBEq, Nat.reduceLT, reduceCtorEq, c30]
  refine wp_in (s75_err (hC.alloc (.cells [I N, I L] none)) (e.mono fun x hx => List.mem_cons_of_mem _ hx) fun s1 h1 => ?_)
  rcases e.ne with rfl | rfl | rfl
  · simp -implicitDefEqProofs only [↓GP, GB, GL, Nat.reduceAdd, Nat.reduceSub, Nat.reduceEqDiff, Nat.reduceMul, Nat.reduceLeDiff, Int.reduceBNe, Int.reduceBEq, Nat.reduceLT, reduceCtorEq, Int.reduceBNe]; exact q _ h1.tl
  · simp -implicitDefEqProofs only [↓GP, GB, GL, Nat.reduceAdd, Nat.reduceSub, Nat.reduceEqDiff, Nat.reduceMul, Nat.reduceLeDiff, Int.reduceBNe, Int.reduceBEq, Nat.reduceLT, reduceCtorEq, Int.reduceBNe]; exact q _ h1.tl
  · simp -implicitDefEqProofs only [↓GP, GB, GL, Nat.reduceAdd, Nat.reduceSub, Nat.reduceEqDiff, Nat.reduceMul, Nat.reduceLeDiff, Int.reduceBNe, Int.reduceBEq, Nat.reduceLT, reduceCtorEq, Int.reduceBNe]; exact q _ h1.tl
theorem s30 (hC : Holds o s C) {hp : PHeap} {p : Nat} {N L : Int} (hin : In C p hp) (h0 : hp.regs ≠ []) (hlen : hp.regs.length ≤ 100000) (hok : ∀ g ∈ hp.regs, g.ok) (hL : 0 < L) {x : PObj} (hx : pfind N L hp.regs = some x)
    (q : ∀ s', Holds o s' C → Q (.tuple [I x.b.kind, I x.b.ws.length, I 0]) s') : WP (call PF 30 [ptrN hp.id, .agg [I N, I L]] s) Q := by
  rw [call_run F30]; simp -implicitDefEqProofs only [↓GP, GB, GL, Nat.reduceAdd, Nat.reduceSub, Nat.reduceEqDiff, Nat.reduceMul, Nat.reduceLeDiff, Int.reduceBNe, Int.reduceBEq, Nat.reduceLT, reduceCtorEq, c30]
  refine wp_in (s75 (hC.alloc (.cells [I N, I L] none)) (hin.cons _) h0 hlen hok hL hx fun s1 h1 => ?_)
  obtain ⟨g, mg, mx⟩ := pfind_mem hx
  have f := h1.tl.mem (hin.obj mg mx)
  simp only [PObj.O] at f
  simp -implicitDefEqProofs only [↓GP, GB, GL, Nat.reduceAdd, Nat.reduceSub, Nat.reduceEqDiff, Nat.reduceMul, Nat.reduceLeDiff, Int.reduceBNe, Int.reduceBEq, Nat.reduceLT, reduceCtorEq, f, Int.reduceBNe]
  exact q _ h1.tl
def WordErr (C : Ch) (hv : V) (N L i : Int) (oth : Bool) (err : Int) : Prop := ObjErr C hv N L oth err ∨
  (err = 2 ∧ oth = true ∧ 0 < L ∧ ∃ hp : PHeap, ∃ p x, hv = ptrN hp.id ∧ In C p hp ∧ hp.regs ≠ [] ∧ hp.regs.length ≤ 100000 ∧ (∀ g ∈ hp.regs, g.ok) ∧ pfind N L hp.regs = some x ∧ x.b.ws.length ≤ 31 ∧ x.b.ws ≠ [] ∧ ¬ (0 ≤ i ∧ i < x.b.ws.length))
theorem WordErr.mono {D : Ch} {hv : V} {N L i err : Int} {oth : Bool} (h : WordErr C hv N L i oth err) (hs : ∀ x ∈ C, x ∈ D) : WordErr D hv N L i oth err := by
  rcases h with h | ⟨h0, h1, h2, hp, p, x, h3, h4, h5⟩
  · exact .inl (h.mono hs)
  · exact .inr ⟨h0, h1, h2, hp, p, x, h3, h4.mono hs, h5⟩
theorem WordErr.ne {hv : V} {N L i err : Int} {oth : Bool} (h : WordErr C hv N L i oth err) : err = 6 ∨ err = 2 ∨ err = 80 := by
  rcases h with h | ⟨h, _⟩
  · exact h.ne
  · exact .inr (.inl h)
theorem s108_err (hC : Holds o s C) {hv : V} {N L i err : Int} {oth : Bool} (e : WordErr C hv N L i oth err) (q : ∀ s', Holds o s' C → Q (.tuple [.ptr none, I err]) s') : WP (call PF 108 [hv, .agg [I N, I L], I i, .bool oth] s) Q := by
  rw [call_run F108]; simp -implicitDefEqProofs only [↓GP, GB, GL, Nat.reduceAdd, Nat.reduceSub, Nat.reduceEqDiff, Nat.reduceMul, Nat.reduceLeDiff, Int.reduceBNe, Int.reduceBEq, Nat.reduceLT, reduceCtorEq, c108]
  rcases e with e | ⟨rfl, rfl, hL, hp, p, x, rfl, hin, h0, hlen, hok, hx, hw, hw0, hi⟩
  · refine wp_in (s75_err (hC.alloc (.cells [I N, I L] none)) (e.mono fun x hx => List.mem_cons_of_mem _ hx) fun s1 h1 => ?_)
    rcases e.ne with rfl | rfl | rfl
    · simp -implicitDefEqProofs only [↓GP, GB, GL, Nat.reduceAdd, Nat.reduceSub, Nat.reduceEqDiff, Nat.reduceMul, Nat.reduceLeDiff, Int.reduceBNe, Int.reduceBEq, Nat.reduceLT, reduceCtorEq, Int.reduceBNe]; exact q _ h1.tl
    · simp -implicitDefEqProofs only [↓GP, GB, GL, Nat.reduceAdd, Nat.reduceSub, Nat.reduceEqDiff, Nat.reduceMul, Nat.reduceLeDiff, Int.reduceBNe, Int.reduceBEq, Nat.reduceLT, reduceCtorEq, Int.reduceBNe]; exact q _ h1.tl
    · simp -implicitDefEqProofs only [↓GP, GB, GL, Nat.reduceAdd, Nat.reduceSub, Nat.reduceEqDiff, Nat.reduceMul, Nat.reduceLeDiff, Int.reduceBNe, Int.reduceBEq, Nat.reduceLT, reduceCtorEq, Int.reduceBNe]; exact q _ h1.tl
  · refine wp_in (s75 (hC.alloc (.cells [I N, I L] none)) (hin.cons _) h0 hlen hok hL hx fun s1 h1 => ?_)
    obtain ⟨g, mg, mx⟩ := pfind_mem hx
    have f := h1.tl.mem (hin.obj mg mx)
    simp only [PObj.O] at f
    have hpos := List.length_pos_iff.2 hw0
    have w := wrap_sub1 (a := x.b.ws.length) (by omega) hpos
    have hb : (decide (0 ≤ i) && decide (i ≤ ((x.b.ws.length - 1 : Nat) : Int))) = false := by
      rw [Bool.and_eq_false_iff, decide_eq_false_iff_not, decide_eq_false_iff_not]; omega
    simp -implicitDefEqProofs only [↓GP, GB, GL, Nat.reduceAdd, Nat.reduceSub, Nat.reduceEqDiff, Nat.reduceMul, Nat.reduceLeDiff, Int.reduceBNe, Int.reduceBEq, Nat.reduceLT, reduceCtorEq, f, w, s56, hb, Int.reduceBNe]
    exact q _ h1.tl
theorem s108 (hC : Holds o s C) {hp : PHeap} {p i : Nat} {N L : Int} (hin : In C p hp) (h0 : hp.regs ≠ []) (hlen : hp.regs.length ≤ 100000) (hok : ∀ g ∈ hp.regs, g.ok) (hL : 0 < L) {x : PObj} (hx : pfind N L hp.regs = some x) (hi : i < x.b.ws.length) (hw : x.b.ws.length ≤ 31)
    (q : ∀ s', Holds o s' C → Q (.tuple [.ptr (some ⟨.new x.wid, i * 2⟩), I 0]) s') : WP (call PF 108 [ptrN hp.id, .agg [I N, I L], I i, .bool true] s) Q := by
  rw [call_run F108]; simp -implicitDefEqProofs only [↓GP, GB, GL, Nat.reduceAdd, Nat.reduceSub, Nat.reduceEqDiff, Nat.reduceMul, Nat.reduceLeDiff, Int.reduceBNe, Int.reduceBEq, Nat.reduceLT, reduceCtorEq, c108]
  refine wp_in (s75 (hC.alloc (.cells [I N, I L] none)) (hin.cons _) h0 hlen hok hL hx fun s1 h1 => ?_)
  obtain ⟨g, mg, mx⟩ := pfind_mem hx
  have f := h1.tl.mem (hin.obj mg mx)
  simp only [PObj.O] at f
  have w := wrap_sub1 (a := x.b.ws.length) (by omega) (by omega)
  have hb : (decide (0 ≤ (i : Int)) && decide ((i : Int) ≤ ((x.b.ws.length - 1 : Nat) : Int))) = true := by
    rw [Bool.and_eq_true, decide_eq_true_eq, decide_eq_true_eq]; omega
  simp -implicitDefEqProofs only [↓GP, GB, GL, Nat.reduceAdd, Nat.reduceSub, Nat.reduceEqDiff, Nat.reduceMul, Nat.reduceLeDiff, Int.reduceBNe, Int.reduceBEq, Nat.reduceLT, reduceCtorEq, f, w, s56, hb, ix_cell hi, Int.reduceBNe]
  exact q _ h1.tl
theorem s67_err (hC : Holds o s C) {hv : V} {N L i err : Int} (e : WordErr C hv N L i true err) (q : ∀ s', Holds o s' C → Q (.tuple [.agg [I 0, I 0], I err]) s') : WP (call PF 67 [hv, .agg [I N, I L], I i] s) Q := by
  have h0 := (hC.alloc (.cells [I N, I L] none)).alloc (.cells [I 0, I 0] none)
  rw [call_run F67]; simp -implicitDefEqProofs only [↓GP, GB, GL, Nat.reduceAdd, Nat.reduceSub, Nat.reduceEqDiff, Nat.reduceMul, Nat.reduceLeDiff, Int.reduceBNe, Int.reduceBEq, Nat.reduceLT, reduceCtorEq, c67]
  refine wp_in (s108_err h0 (e.mono fun x hx => List.mem_cons_of_mem _ (List.mem_cons_of_mem _ hx)) fun s1 h1 => ?_)
  have f := h1.f2
  simp only [alloc_next] at f
  rcases e.ne with rfl | rfl | rfl
  · simp -implicitDefEqProofs only [↓GP, GB, GL, Nat.reduceAdd, Nat.reduceSub, Nat.reduceEqDiff, Nat.reduceMul, Nat.reduceLeDiff, Int.reduceBNe, Int.reduceBEq, Nat.reduceLT, reduceCtorEq, f, Int.reduceBNe]; exact q _ (h1.set0 _).tl.tl
  · simp -implicitDefEqProofs only [↓GP, GB, GL, Nat.reduceAdd, Nat.reduceSub, Nat.reduceEqDiff, Nat.reduceMul, Nat.reduceLeDiff, Int.reduceBNe, Int.reduceBEq, Nat.reduceLT, reduceCtorEq, f, Int.reduceBNe]; exact q _ (h1.set0 _).tl.tl
  · simp -implicitDefEqProofs only [↓GP, GB, GL, Nat.reduceAdd, Nat.reduceSub, Nat.reduceEqDiff, Nat.reduceMul, Nat.reduceLeDiff, Int.reduceBNe, Int.reduceBEq, Nat.reduceLT, reduceCtorEq, f, Int.reduceBNe]; exact q _ (h1.set0 _).tl.tl
theorem s67 (hC : Holds o s C) {hp : PHeap} {p i : Nat} {N L : Int} (hin : In C p hp) (h0 : hp.regs ≠ []) (hlen : hp.regs.length ≤ 100000) (hok : ∀ g ∈ hp.regs, g.ok) (hL : 0 < L) {x : PObj} (hx : pfind N L hp.regs = some x) {w : Int × Int} (hi : x.b.ws[i]? = some w) (hw : x.b.ws.length ≤ 31)
    (q : ∀ s', Holds o s' C → Q (.tuple [.agg (encW w), I 0]) s') : WP (call PF 67 [ptrN hp.id, .agg [I N, I L], I i] s) Q := by
  have h2 := (hC.alloc (.cells [I N, I L] none)).alloc (.cells [I 0, I 0] none)
  rw [call_run F67]; simp -implicitDefEqProofs only [↓GP, GB, GL, Nat.reduceAdd, Nat.reduceSub, Nat.reduceEqDiff, Nat.reduceMul, Nat.reduceLeDiff, Int.reduceBNe, Int.reduceBEq, Nat.reduceLT, reduceCtorEq, c67]
  refine wp_in (s108 h2 ((hin.cons _).cons _) h0 hlen hok hL hx (List.getElem?_eq_some_iff.1 hi).1 hw fun s1 h1 => ?_)
  obtain ⟨g, mg, mx⟩ := pfind_mem hx
  have f := h1.f1
  simp only [alloc_next] at f
  have fw := h1.tl.tl.mem (hin.w mg mx)
  simp only [PObj.W] at fw
  have hld := ldN_tab encW_len x.b.ws none hi
  simp -implicitDefEqProofs only [↓GP, GB, GL, Nat.reduceAdd, Nat.reduceSub, Nat.reduceEqDiff, Nat.reduceMul, Nat.reduceLeDiff, Int.reduceBNe, Int.reduceBEq, Nat.reduceLT, reduceCtorEq, f, fw, hld, encW, Int.reduceBNe]
  exact q _ (h1.set0 _).tl.tl
theorem s65_err (hC : Holds o s C) {hv : V} {N L i err VN VL : Int} (e : WordErr C hv N L i (decide (0 ≤ VL) && decide (VL ≤ 100000)) err) (q : ∀ s', Holds o s' C → Q (I err) s') : WP (call PF 65 [hv, .agg [I N, I L], I i, .agg [I VN, I VL]] s) Q := by
  have h0 := (hC.alloc (.cells [I N, I L] none)).alloc (.cells [I VN, I VL] none)
  rw [call_run F65]; simp -implicitDefEqProofs only [↓GP, GB, GL, Nat.reduceAdd, Nat.reduceSub, Nat.reduceEqDiff, Nat.reduceMul, Nat.reduceLeDiff, Int.reduceBNe, Int.reduceBEq, Nat.reduceLT, reduceCtorEq, c65, s56]
  refine wp_in (s108_err h0 (e.mono fun x hx => List.mem_cons_of_mem _ (List.mem_cons_of_mem _ hx)) fun s1 h1 => ?_)
  have f := h1.f2
  simp only [alloc_next] at f
  rcases e.ne with rfl | rfl | rfl
  · simp -implicitDefEqProofs only [↓GP, GB, GL, Nat.reduceAdd, Nat.reduceSub, Nat.reduceEqDiff, Nat.reduceMul, Nat.reduceLeDiff, Int.reduceBNe, Int.reduceBEq, Nat.reduceLT, reduceCtorEq, f, Int.reduceBEq]; exact q _ h1.tl.tl
  · simp -implicitDefEqProofs only [↓GP, GB, GL, Nat.reduceAdd, Nat.reduceSub, Nat.reduceEqDiff, Nat.reduceMul, Nat.reduceLeDiff, Int.reduceBNe, Int.reduceBEq, Nat.reduceLT, reduceCtorEq, f, Int.reduceBEq]; exact q _ h1.tl.tl
  · simp -implicitDefEqProofs only [↓GP, GB, GL, Nat.reduceAdd, Nat.reduceSub, Nat.reduceEqDiff, Nat.reduceMul, Nat.reduceLeDiff, Int.reduceBNe, Int.reduceBEq, Nat.reduceLT, reduceCtorEq, f, Int.reduceBEq]; exact q _ h1.tl.tl
theorem s65 {hp : PHeap} {p i : Nat} {N L : Int} {w : Int × Int} (hC : Holds o s C) (hin : In C p hp) (h0 : hp.regs ≠ []) (hlen : hp.regs.length ≤ 100000) (hok : ∀ g ∈ hp.regs, g.ok) (hL : 0 < L) (hv : 0 ≤ w.2 ∧ w.2 ≤ 100000) {x : PObj} (hx : pfind N L hp.regs = some x) (hi : i < x.b.ws.length) (hw : x.b.ws.length ≤ 31)
    (hp' : ∀ s1, Holds o s1 C → Holds o s1 ((x.wid, some x.W) :: F))
    (q : ∀ s', Holds o s' ((x.wid, some (.cells ((x.b.ws.set i w).flatMap encW) none)) :: F) → Q (I 0) s') : WP (call PF 65 [ptrN hp.id, .agg [I N, I L], I i, .agg (encW w)] s) Q := by
  have h2 := (hC.alloc (.cells [I N, I L] none)).alloc (.cells (encW w) none)
  have hb : (decide (0 ≤ w.2) && decide (w.2 ≤ 100000)) = true := by simpa using hv
  rw [call_run F65]; simp -implicitDefEqProofs only [↓GP, GB, GL, Nat.reduceAdd, Nat.reduceSub, Nat.reduceEqDiff, Nat.reduceMul, Nat.reduceLeDiff, Int.reduceBNe, Int.reduceBEq, Nat.reduceLT, reduceCtorEq, c65, encW, s56, hb]
  refine wp_in (s108 h2 ((hin.cons _).cons _) h0 hlen hok hL hx hi hw fun s1 h1 => ?_)
  obtain ⟨g, mg, mx⟩ := pfind_mem hx
  have f := h1.f1
  simp only [alloc_next] at f
  have h3 := hp' _ h1.tl.tl
  have fw := h3.f1
  simp only [encW] at f
  simp only [PObj.W] at fw h3
  have hst := fun s => stC_tab encW_len (fun _ => rfl) x.b.ws none hi w x.wid s
  simp only [encW] at hst fw h3
  simp -implicitDefEqProofs only [↓GP, GB, GL, Nat.reduceAdd, Nat.reduceSub, Nat.reduceEqDiff, Nat.reduceMul, Nat.reduceLeDiff, Int.reduceBNe, Int.reduceBEq, Nat.reduceLT, reduceCtorEq, f, fw, hst, Int.reduceBEq]
  exact q _ (h3.set0 _)
end
end Go.Proofs.Ytoldkemimhebaaa