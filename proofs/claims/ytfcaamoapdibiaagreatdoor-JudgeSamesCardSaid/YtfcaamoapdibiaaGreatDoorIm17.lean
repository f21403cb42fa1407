/- Chunks: what is known of the ideal machine's store, with a frame; weakest preconditions; steps. -/
import Derived.Test.YtfcaamoapdibiaaGreatDoorIm16
set_option linter.unusedSimpArgs false
set_option linter.unusedVariables false
namespace Go.IM

abbrev tt : Bool := true
abbrev ff : Bool := false

/-- What is known of objects: 'none': nothing. -/
abbrev Ch := List (Nat × Option O)

def Ch.ids (C : Ch) : List Nat := C.filterMap fun p => p.2.map fun _ => p.1

structure Holds (old : Nat → Option O) (s : St) (C : Ch) : Prop where
  old : s.old = old
  nodup : C.ids.Nodup
  at_ : ∀ k x, (k, some x) ∈ C → s.new k = some x
  lt : ∀ k ∈ C.ids, k < s.next

namespace Holds
variable {o : Nat → Option O} {s : St} {C D F : Ch} {k j : Nat} {x y : O}

theorem ids_mem {C : Ch} {k : Nat} : k ∈ C.ids ↔ ∃ x, (k, some x) ∈ C := by
  unfold Ch.ids
  rw [List.mem_filterMap]
  constructor
  · rintro ⟨⟨a, b⟩, h, e⟩
    cases b with
    | none => cases e
    | some x => cases e; exact ⟨x, h⟩
  · rintro ⟨x, h⟩
    exact ⟨_, h, rfl⟩

@[simp] theorem ids_nil : Ch.ids [] = [] := rfl
@[simp] theorem ids_some (k : Nat) (x : O) (C : Ch) : Ch.ids ((k, some x) :: C) = k :: C.ids := rfl
@[simp] theorem ids_none (k : Nat) (C : Ch) : Ch.ids ((k, none) :: C) = C.ids := rfl
@[simp] theorem ids_append (C D : Ch) : Ch.ids (C ++ D) = C.ids ++ D.ids := List.filterMap_append

theorem perm (h : Holds o s C) (p : C.Perm D) : Holds o s D where
  old := h.old
  nodup := (p.filterMap _).nodup_iff.1 h.nodup
  at_ := fun k x m => h.at_ k x (p.mem_iff.2 m)
  lt := fun k m => h.lt k ((p.filterMap _).mem_iff.2 m)

theorem tl {c : Nat × Option O} (h : Holds o s (c :: C)) : Holds o s C where
  old := h.old
  nodup := by
    obtain ⟨k, _ | x⟩ := c
    · exact h.nodup
    · exact (List.nodup_cons.1 h.nodup).2
  at_ := fun k x m => h.at_ k x (List.mem_cons_of_mem _ m)
  lt := fun k m => h.lt k (by obtain ⟨j, _ | x⟩ := c; exact m; exact List.mem_cons_of_mem _ m)

theorem dropL (h : Holds o s (C ++ D)) : Holds o s D := by
  induction C with
  | nil => exact h
  | cons c C ih => exact ih h.tl
theorem dropR (h : Holds o s (C ++ D)) : Holds o s C := (h.perm List.perm_append_comm).dropL

/-- To the front. -/
theorem r1 {a b : Nat × Option O} (h : Holds o s (a :: b :: C)) : Holds o s (b :: a :: C) := h.perm (List.Perm.swap _ _ _)
theorem r2 {a b c : Nat × Option O} (h : Holds o s (a :: b :: c :: C)) : Holds o s (c :: a :: b :: C) := h.perm ((List.Perm.cons _ (List.Perm.swap _ _ _)).trans (List.Perm.swap _ _ _))
theorem r3 {a b c d : Nat × Option O} (h : Holds o s (a :: b :: c :: d :: C)) : Holds o s (d :: a :: b :: c :: C) := by
  have : Holds o s (a :: d :: b :: c :: C) := h.perm (List.Perm.cons _ ((List.Perm.cons _ (List.Perm.swap _ _ _)).trans (List.Perm.swap _ _ _)))
  exact this.r1
theorem r4 {a b c d e : Nat × Option O} (h : Holds o s (a :: b :: c :: d :: e :: C)) : Holds o s (e :: a :: b :: c :: d :: C) := by
  have h1 : Holds o s (a :: e :: b :: c :: d :: C) := h.perm (List.Perm.cons _ (by
    refine (List.Perm.cons _ ((List.Perm.cons _ (List.Perm.swap _ _ _)).trans (List.Perm.swap _ _ _))).trans (List.Perm.swap _ _ _)))
  exact h1.r1
/-- Blocks. -/
theorem rb (h : Holds o s (C ++ (D ++ F))) : Holds o s (D ++ (C ++ F)) := h.perm (by
  rw [← List.append_assoc, ← List.append_assoc]
  exact List.Perm.append_right _ List.perm_append_comm)
theorem nilEntry (h : Holds o s C) (k : Nat) : Holds o s ((k, none) :: C) where
  old := h.old
  nodup := h.nodup
  at_ := fun j x m => by
    rcases List.mem_cons.1 m with e | m
    · cases e
    · exact h.at_ j x m
  lt := h.lt

theorem g0 {C : Ch} (h : Holds o s ((k, some x) :: C)) : s.new k = some x := h.at_ _ _ (List.mem_cons_self ..)
theorem l0 {C : Ch} (h : Holds o s ((k, some x) :: C)) : k < s.next := h.lt k (List.mem_cons_self ..)
theorem n0 {C : Ch} (h : Holds o s ((k, some x) :: C)) : k ∉ C.ids := (List.nodup_cons.1 h.nodup).1

section
variable {a b c d : Nat} {p q r t : O}
theorem ne (h : Holds o s ((a, some p) :: C)) (m : b ∈ C.ids) : a ≠ b ∧ b ≠ a := ⟨fun e => h.n0 (e ▸ m), fun e => h.n0 (e ▸ m)⟩
theorem f1 (h : Holds o s ((a, some p) :: C)) : s.new a = some p ∧ a < s.next := ⟨h.g0, h.l0⟩
theorem f2 (h : Holds o s ((a, some p) :: (b, some q) :: C)) : (s.new a = some p ∧ a < s.next) ∧ (s.new b = some q ∧ b < s.next) ∧ (a ≠ b ∧ b ≠ a) :=
  ⟨h.f1, h.tl.f1, h.ne (List.mem_cons_self ..)⟩
theorem f3 (h : Holds o s ((a, some p) :: (b, some q) :: (c, some r) :: C)) : ((s.new a = some p ∧ a < s.next) ∧ (s.new b = some q ∧ b < s.next) ∧ (a ≠ b ∧ b ≠ a)) ∧ (s.new c = some r ∧ c < s.next) ∧ (a ≠ c ∧ c ≠ a) ∧ (b ≠ c ∧ c ≠ b) :=
  ⟨h.f2, h.tl.tl.f1, h.ne (List.mem_cons_of_mem _ (List.mem_cons_self ..)), h.tl.ne (List.mem_cons_self ..)⟩
theorem f4 (h : Holds o s ((a, some p) :: (b, some q) :: (c, some r) :: (d, some t) :: C)) : (((s.new a = some p ∧ a < s.next) ∧ (s.new b = some q ∧ b < s.next) ∧ (a ≠ b ∧ b ≠ a)) ∧ (s.new c = some r ∧ c < s.next) ∧ (a ≠ c ∧ c ≠ a) ∧ (b ≠ c ∧ c ≠ b)) ∧
    (s.new d = some t ∧ d < s.next) ∧ (a ≠ d ∧ d ≠ a) ∧ (b ≠ d ∧ d ≠ b) ∧ (c ≠ d ∧ d ≠ c) :=
  ⟨h.f3, h.tl.tl.tl.f1, h.ne (List.mem_cons_of_mem _ (List.mem_cons_of_mem _ (List.mem_cons_self ..))), h.tl.ne (List.mem_cons_of_mem _ (List.mem_cons_self ..)), h.tl.tl.ne (List.mem_cons_self ..)⟩
end

theorem alloc (h : Holds o s C) (x : O) : Holds o (s.alloc x) ((s.next, some x) :: C) where
  old := h.old
  nodup := List.nodup_cons.2 ⟨fun m => Nat.lt_irrefl _ (h.lt _ m), h.nodup⟩
  at_ := fun k y m => by
    rcases List.mem_cons.1 m with e | m
    · cases e; simp
    · have : k < s.next := h.lt k (ids_mem.2 ⟨y, m⟩)
      rw [alloc_new _ _ (by omega)]; exact h.at_ k y m
  lt := fun k m => by
    rcases List.mem_cons.1 m with e | m
    · subst e; simp
    · have := h.lt k m; simp; omega

theorem set0 (h : Holds o s ((k, some x) :: C)) (y : O) : Holds o (s.set k y) ((k, some y) :: C) where
  old := h.old
  nodup := h.nodup
  at_ := fun j z m => by
    rcases List.mem_cons.1 m with e | m
    · cases e; simp
    · rw [set_new _ _ (fun e => h.n0 (by rw [← e]; exact ids_mem.2 ⟨z, m⟩))]; exact h.tl.at_ j z m
  lt := h.lt

theorem set1 {c : Nat × Option O} (h : Holds o s (c :: (k, some x) :: C)) (y : O) : Holds o (s.set k y) (c :: (k, some y) :: C) := (h.r1.set0 y).r1
theorem set2 {c d : Nat × Option O} (h : Holds o s (c :: d :: (k, some x) :: C)) (y : O) : Holds o (s.set k y) (c :: d :: (k, some y) :: C) :=
  (h.r2.set0 y).perm ((List.Perm.swap _ _ _).trans (List.Perm.cons _ (List.Perm.swap _ _ _)))
theorem set3 {c d e : Nat × Option O} (h : Holds o s (c :: d :: e :: (k, some x) :: C)) (y : O) : Holds o (s.set k y) (c :: d :: e :: (k, some y) :: C) :=
  (h.r3.set0 y).perm ((List.Perm.swap _ _ _).trans (List.Perm.cons _ ((List.Perm.swap _ _ _).trans (List.Perm.cons _ (List.Perm.swap _ _ _)))))
theorem kill (h : Holds o s ((k, some x) :: C)) : Holds o (s.kill k) C where
  old := h.old
  nodup := h.tl.nodup
  at_ := fun j z m => by rw [kill_new _ (fun e => h.n0 (by rw [← e]; exact ids_mem.2 ⟨z, m⟩))]; exact h.tl.at_ j z m
  lt := h.tl.lt
end Holds

/-- Weakest precondition. -/
def WP (r : Res) (Q : V → St → Prop) : Prop := ∃ v s, r = some (v, s) ∧ Q v s
theorem WP_some (v : V) (s : St) (Q : V → St → Prop) : WP (some (v, s)) Q ↔ Q v s :=
  ⟨fun ⟨_, _, e, q⟩ => by cases e; exact q, fun q => ⟨_, _, rfl, q⟩⟩
theorem WP.mono {r : Res} {Q Q' : V → St → Prop} (h : WP r Q) (k : ∀ v s, Q v s → Q' v s) : WP r Q' := by
  obtain ⟨v, s, e, q⟩ := h
  exact ⟨v, s, e, k _ _ q⟩
theorem wp_in {C : CallT} {d : Option Nat} {r : List II} {e : Env} {K : Env → St → Res} {x : Res} {Q : V → St → Prop}
    (h : WP x fun v s' => WP (goOps C r (put e d v) s' K) Q) : WP (contO C d r e K x) Q := by
  obtain ⟨v, s', rfl, h⟩ := h
  exact h
theorem wp_round {F : Nat → Option IFn} {a : IC} {e : Env} {s : St} {K : Kt} {Q : V → St → Prop}
    (h : ∀ LL : Env → St → Kt → Res, LL = loop F (.loop a) → WP (go (loop F) (call F) a e s (roundK LL K)) Q) : WP (loop F (.loop a) e s K) Q := by
  rw [loop, loop_eq F noY (.loop a)]; exact h _ rfl
theorem wp_roundY {F : Nat → Option IFn} {Y : Yt} {a : IC} {e : Env} {s : St} {K : Kt} {Q : V → St → Prop}
    (h : ∀ LL : Env → St → Kt → Res, LL = loopY F Y (.loop a) → WP (go (loopY F Y) (callY F Y) a e s (roundK LL K)) Q) : WP (loopY F Y (.loop a) e s K) Q := by
  rw [loop_eq F Y (.loop a)]; exact h _ rfl
/-- A loop over a function. -/
theorem wp_range {F : Nat → Option IFn} {Y : Yt} {f : Arg} {ps : List Nat} {a b : IC} {e : Env} {s : St} {K : Kt} {Q : V → St → Prop} {g : Nat} {pre caps : List V} (hf : ev e f = .func g pre caps)
    (h : WP (callY F (withY Y s.next (roundI (loopY F Y, callY F Y) ps a b e s.next)) g (pre ++ [.func (yBase + s.next) [] []] ++ caps) (s.alloc (.loop .ready))) fun v s' => WP (rangeEnd s.next e K (v, s')) Q) (h0 : g < yBase := by decide) :
    WP (loopY F Y (.range f ps a b) e s K) Q := by
  obtain ⟨v, s', hc, h⟩ := h
  obtain ⟨u, s2, he, hq⟩ := h
  refine ⟨u, s2, ?_, hq⟩
  rw [range_eq, rangeI, hf]
  simp only [if_pos h0, hc, Option.bind_some, he]
/-- A call of yield. -/
theorem wp_yield {F : Nat → Option IFn} {Y : Yt} {k : Nat} {r : List V → St → Res} {args : List V} {s : St} {Q : V → St → Prop} (h : WP (r args s) Q) : WP (callY F (withY Y k r) (yBase + k) args s) Q := by
  rw [call_yield]
  unfold withY
  rw [if_pos rfl]
  exact h
/-- Another call, made within a loop over a function. -/
theorem wp_callY {F : Nat → Option IFn} {Y : Yt} {f : Nat} {args : List V} {s : St} {Q : V → St → Prop} (h : WP (call F f args s) Q) : WP (callY F Y f args s) Q := by
  obtain ⟨v, s', hc, h⟩ := h
  exact ⟨v, s', callY_mono (Yle.no Y) _ _ _ _ hc, h⟩
theorem wp_res {f : Nat} {F : Nat → Option IFn} {args : List V} {s : St} {v : V} {s' : St} {Q : V → St → Prop} (h : call F f args s = some (v, s')) (q : Q v s') : WP (call F f args s) Q := ⟨_, _, h, q⟩

/- The state, looked at. -/
theorem new_alloc (s : St) (o : O) (k : Nat) : (s.alloc o).new k = if k = s.next then some o else s.new k := rfl
theorem new_set (s : St) (o : O) (j k : Nat) : (s.set j o).new k = if k = j then some o else s.new k := rfl
theorem new_kill (s : St) (j k : Nat) : (s.kill j).new k = if k = j then none else s.new k := rfl
theorem old_alloc (s : St) (o : O) : (s.alloc o).old = s.old := rfl
theorem old_set (s : St) (k : Nat) (o : O) : (s.set k o).old = s.old := rfl
theorem old_kill (s : St) (k : Nat) : (s.kill k).old = s.old := rfl
theorem lt_ne0 {k n : Nat} (h : k < n) : (k = n) = False := by simp; omega
theorem lt_ne1 {k n c : Nat} (h : k < n) : (k = n + c) = False := by simp; omega
theorem lt_ne0' {k n : Nat} (h : k < n) : (n = k) = False := by simp; omega
theorem lt_ne1' {k n c : Nat} (h : k < n) : (n + c = k) = False := by simp; omega
theorem add_ne (n c : Nat) : (n = n + (c + 1)) = False := by simp
theorem add_ne' (n c : Nat) : (n + (c + 1) = n) = False := by simp
theorem add_add_eq (n c d : Nat) : (n + c = n + d) = (c = d) := by simp
theorem add_add_lit (n c d : Nat) : n + c + d = n + (c + d) := Nat.add_assoc ..

def ldC (off : Nat) : Option O → Option V
  | some (.cells cs _) => cs[off]?
  | _ => none
theorem ldC_some (off : Nat) (cs : List V) (g : Option Nat) : ldC off (some (.cells cs g)) = cs[off]? := rfl
def ldN (n off : Nat) : Option O → Option V
  | some (.cells cs _) => (cut cs off n).map .agg
  | _ => none
theorem ldN_some (n off : Nat) (cs : List V) (g : Option Nat) : ldN n off (some (.cells cs g)) = (cut cs off n).map .agg := rfl

theorem cut_one' (cs : List V) (i : Nat) : (cut cs i 1).bind (packI none) = cs[i]? := by
  by_cases h : i < cs.length
  · rw [List.getElem?_eq_getElem h, cut_one (v := cs[i]) (by simp [h])]; rfl
  · rw [List.getElem?_eq_none (by omega)]
    simp [cut, show ¬ i + 1 ≤ cs.length by omega]

theorem ld_new (k off : Nat) (s : St) : loadV none (.ptr (some ⟨.new k, off⟩)) s = ldC off (s.new k) := by
  rw [loadV_ptr]
  show (readCells s ⟨.new k, off⟩ 1).bind (packI none) = _
  unfold readCells St.row St.get ldC
  show ((match match s.new k with | some (O.cells cs g) => some (cs, g) | x => none with | some (cs, _) => cut cs off 1 | none => none)).bind (packI none) = _
  cases s.new k with
  | none => rfl
  | some o => cases o with
    | cells cs g => exact cut_one' cs off
    | map es c => rfl
    | loop st => rfl
    | iter m => rfl
theorem ldn_new (n k off : Nat) (s : St) : loadV (some n) (.ptr (some ⟨.new k, off⟩)) s = ldN n off (s.new k) := by
  rw [loadV_ptr]
  show (readCells s ⟨.new k, off⟩ n).bind (packI (some n)) = _
  unfold readCells St.row St.get ldN
  show ((match match s.new k with | some (O.cells cs g) => some (cs, g) | x => none with | some (cs, _) => cut cs off n | none => none)).bind (packI (some n)) = _
  cases s.new k with
  | none => rfl
  | some o => cases o with
    | cells cs g => show (cut cs off n).bind _ = (cut cs off n).map _; cases cut cs off n <;> rfl
    | map es c => rfl
    | loop st => rfl
    | iter m => rfl

def stC (n k off : Nat) (v : V) (s : St) : Option O → Option St
  | some (.cells cs g) => if v.cells.length = n ∧ off + n ≤ cs.length ∧ v.cells.all V.one = true then some (s.set k (.cells (over cs off v.cells) g)) else none
  | _ => none
theorem st_new (n k off : Nat) (v : V) (s : St) : storeI n (.ptr (some ⟨.new k, off⟩)) v s = stC n k off v s (s.new k) := by
  simp only [storeI, writeCells, stC]
  cases s.new k with
  | none => simp
  | some o => cases o with
    | cells cs g =>
      by_cases h : v.cells.length = n
      · subst h; simp
      · simp [h]
    | map es c => simp
    | loop st => simp
    | iter m => simp
theorem stC_some (n k off : Nat) (v : V) (s : St) (cs : List V) (g : Option Nat) : stC n k off v s (some (.cells cs g)) =
    if v.cells.length = n ∧ off + n ≤ cs.length ∧ v.cells.all V.one = true then some (s.set k (.cells (over cs off v.cells) g)) else none := rfl

theorem over_one (cs : List V) (i : Nat) (v : V) (h : i < cs.length) : over cs i [v] = cs.set i v := by
  unfold over
  rw [List.set_eq_take_append_cons_drop]
  simp [h]

def stC1 (k off : Nat) (v : List V) (s : St) : Option O → Option St
  | some (.cells cs g) => if v.length = 1 ∧ off < cs.length ∧ v.all V.one = true then some (s.set k (.cells (cs.set off (v.headD .any)) g)) else none
  | _ => none
theorem st_new1 (k off : Nat) (v : V) (s : St) : storeI 1 (.ptr (some ⟨.new k, off⟩)) v s = stC1 k off v.cells s (s.new k) := by
  rw [st_new]
  cases s.new k with
  | none => rfl
  | some o => cases o with
    | cells cs g =>
      simp only [stC, stC1]
      by_cases h1 : v.cells.length = 1
      · obtain ⟨x, hx⟩ := List.length_eq_one_iff.1 h1
        rw [hx]
        by_cases h2 : off < cs.length
        · rw [over_one _ _ _ h2]; simp [h2, show off + 1 ≤ cs.length by omega]
        · simp [h2, show ¬ off + 1 ≤ cs.length by omega]
      · simp [h1]
    | map es c => rfl
    | loop st => rfl
    | iter m => rfl
theorem stC1_some (k off : Nat) (v : V) (s : St) (cs : List V) (g : Option Nat) : stC1 k off [v] s (some (.cells cs g)) = if off < cs.length ∧ v.one = true then some (s.set k (.cells (cs.set off v) g)) else none := by
  simp [stC1]
theorem st_new2 (k off : Nat) (v : V) (s : St) : storeI 2 (.ptr (some ⟨.new k, off⟩)) v s = stC 2 k off v s (s.new k) := st_new ..
theorem st_new3 (k off : Nat) (v : V) (s : St) : storeI 3 (.ptr (some ⟨.new k, off⟩)) v s = stC 3 k off v s (s.new k) := st_new ..
theorem st_new4 (k off : Nat) (v : V) (s : St) : storeI 4 (.ptr (some ⟨.new k, off⟩)) v s = stC 4 k off v s (s.new k) := st_new ..
theorem st_new5 (k off : Nat) (v : V) (s : St) : storeI 5 (.ptr (some ⟨.new k, off⟩)) v s = stC 5 k off v s (s.new k) := st_new ..
theorem st_new11 (k off : Nat) (v : V) (s : St) : storeI 11 (.ptr (some ⟨.new k, off⟩)) v s = stC 11 k off v s (s.new k) := st_new ..
theorem zero_lt_succ' (n : Nat) : (0 < n + 1) = True := by simp

abbrev I (n : Int) : V := .int .i64 n
theorem cells_int (k : IntKind) (n : Int) : (V.int k n).cells = [.int k n] := rfl
theorem cells_bool (b : Bool) : (V.bool b).cells = [.bool b] := rfl
theorem cells_str (b : ByteArray) : (V.str b).cells = [.str b] := rfl
theorem cells_ptr (a : Option Ad) : (V.ptr a).cells = [.ptr a] := rfl
theorem cells_slice (a : Option Ad) (n : Nat) (c : Option Nat) : (V.slice a n c).cells = [.slice a n c] := rfl
theorem cells_map (a : Option Id) : (V.map a).cells = [.map a] := rfl
theorem cells_func (f : Nat) (p c : List V) : (V.func f p c).cells = [.func f p c] := rfl
theorem cells_nilFunc : V.nilFunc.cells = [.nilFunc] := rfl
theorem cells_agg (l : List V) : (V.agg l).cells = l := rfl
theorem one_int (k : IntKind) (n : Int) : (V.int k n).one = true := rfl
theorem one_bool (b : Bool) : (V.bool b).one = true := rfl
theorem one_str (b : ByteArray) : (V.str b).one = true := rfl
theorem one_ptr (a : Option Ad) : (V.ptr a).one = true := rfl
theorem one_slice (a : Option Ad) (n : Nat) (c : Option Nat) : (V.slice a n c).one = true := rfl
theorem one_map (a : Option Id) : (V.map a).one = true := rfl
theorem one_func (f : Nat) (p c : List V) : (V.func f p c).one = true := rfl
theorem one_nilFunc : V.nilFunc.one = true := rfl
theorem wrap_add1 {a : Nat} (h : a < 2 ^ 62) : wrapI .i64 ((a : Int) + 1) = I ((a + 1 : Nat) : Int) := by rw [wrap64 (by omega) (by omega)]; rfl
theorem wrap_sub1 {a : Nat} (h : a < 2 ^ 62) (h1 : 0 < a) : wrapI .i64 ((a : Int) - 1) = I ((a - 1 : Nat) : Int) := by
  rw [wrap64 (by omega) (by omega)]; show V.int _ _ = V.int _ _; congr 1; omega
theorem wrap_add {a b : Nat} (h : a < 2 ^ 62) (h' : b < 2 ^ 62) : wrapI .i64 ((a : Int) + (b : Int)) = I ((a + b : Nat) : Int) := by rw [wrap64 (by omega) (by omega)]; rfl
theorem wrap_nat {n : Int} {a : Nat} (e : n = a) (h : a < 2 ^ 62) : wrapI .i64 n = I (a : Int) := by rw [wrap64 (by omega) (by omega), e]

/-- A row that has come of appending: nil, or all of its cells. -/
def rowV (k n : Nat) : V := if n = 0 then .slice none 0 (some 0) else .slice (some ⟨.new k, 0⟩) n none
def rowO (sz n : Nat) (cs : List V) : Option O := if n = 0 then none else some (.cells cs (some sz))
@[simp] theorem rowV_zero (k : Nat) : rowV k 0 = .slice none 0 (some 0) := rfl
@[simp] theorem rowV_succ (k n : Nat) : rowV k (n + 1) = .slice (some ⟨.new k, 0⟩) (n + 1) none := rfl
@[simp] theorem rowO_zero (sz : Nat) (cs : List V) : rowO sz 0 cs = none := rfl
@[simp] theorem rowO_succ (sz n : Nat) (cs : List V) : rowO sz (n + 1) cs = some (.cells cs (some sz)) := rfl
theorem rowV_cells (k n : Nat) : (rowV k n).cells = [rowV k n] := by cases n <;> rfl
theorem rowV_one (k n : Nat) : (rowV k n).one = true := by cases n <;> rfl
theorem rowV_len (k n : Nat) : lenV (rowV k n) = some (.int .i64 n) := by cases n <;> rfl
theorem rowV_pos {k n : Nat} (h : 0 < n) : rowV k n = .slice (some ⟨.new k, 0⟩) n none := by cases n; omega; rfl
theorem rowO_pos {sz n : Nat} {cs : List V} (h : 0 < n) : rowO sz n cs = some (.cells cs (some sz)) := by cases n; omega; rfl
/-- A row of numbers that may be an empty one with a place (k is that place, and one). -/
def pgV (k n : Nat) : V := if n = 0 then (if k = 0 then .slice none 0 (some 0) else .slice (some ⟨.new (k - 1), 0⟩) 0 (some 0)) else rowV k n
theorem pgV_cells (k n : Nat) : (pgV k n).cells = [pgV k n] := by unfold pgV; split; · split <;> rfl
                                                                  · exact rowV_cells ..
theorem pgV_one (k n : Nat) : (pgV k n).one = true := by unfold pgV; split; · split <;> rfl
                                                         · exact rowV_one ..
theorem pgV_len (k n : Nat) : lenV (pgV k n) = some (.int .i64 n) := by
  unfold pgV; split
  · rename_i h; subst h; split <;> rfl
  · exact rowV_len ..
theorem pgV_pos {k n : Nat} (h : 0 < n) : pgV k n = rowV k n := if_neg (by omega)
theorem pgV_none (k : Nat) {n : Nat} (h : n = 0 → k = 0) : pgV k n = rowV k n := by
  unfold pgV; split
  · rename_i h0; subst h0; rw [if_pos (h rfl)]; rfl
  · rfl
theorem pgV_succ (k n : Nat) : pgV k (n + 1) = rowV k (n + 1) := pgV_pos (by omega)
theorem pgV_zero : pgV 0 0 = .slice none 0 (some 0) := rfl
/-- A slice of n cells that has its exact room, or has come of appending. -/
def cV (gr : Bool) (k n : Nat) : V := if gr then .slice (some ⟨.new k, 0⟩) n none else .slice (some ⟨.new k, 0⟩) n (some n)
def cG (gr : Bool) (sz : Nat) : Option Nat := if gr then some sz else none
theorem cV_ff (k n : Nat) : cV false k n = .slice (some ⟨.new k, 0⟩) n (some n) := rfl
theorem cG_ff (sz : Nat) : cG false sz = none := rfl
theorem cV_tt {k n : Nat} (h : 0 < n) : cV true k n = rowV k n := by rw [rowV_pos h]; rfl
theorem cG_tt (sz : Nat) : cG true sz = some sz := rfl
theorem cV_cells (gr : Bool) (k n : Nat) : (cV gr k n).cells = [cV gr k n] := by cases gr <;> rfl
theorem cV_one (gr : Bool) (k n : Nat) : (cV gr k n).one = true := by cases gr <;> rfl
theorem cV_len (gr : Bool) (k n : Nat) : lenV (cV gr k n) = some (.int .i64 n) := by cases gr <;> rfl
theorem againV_row (k n : Nat) (s : St) : againV (rowV k n) (rowV k n) s = some (.any, s) := by cases n <;> simp [rowV, againV, beqV]
theorem againV_cV (gr : Bool) (k n : Nat) (s : St) : againV (cV gr k n) (cV gr k n) s = some (.any, s) := by cases gr <;> simp [cV, againV, beqV]
theorem againV_pg (k n : Nat) (s : St) : againV (pgV k n) (pgV k n) s = some (.any, s) := by
  unfold pgV; split
  · split <;> simp [againV, beqV]
  · exact againV_row ..

theorem new_cells {s : St} {sz t m : Nat} {cp : Option Nat} {new : List V} {g : Option Nat} (h : s.new t = some (.cells new g)) (hm : m * sz ≤ new.length) :
    newCells s sz (.slice (some ⟨.new t, 0⟩) m cp) = some (new.take (m * sz), m) := by
  by_cases h0 : m = 0
  · subst h0; simp [newCells]
  · simp [newCells, readCells_new h, cut, hm, h0]
theorem new_cells' {s : St} {sz t m : Nat} {cp : Option Nat} {new : List V} {g : Option Nat} (h : s.new t = some (.cells new g)) (hm : new.length = m * sz) :
    newCells s sz (.slice (some ⟨.new t, 0⟩) m cp) = some (new, m) := by
  rw [new_cells h (by omega), List.take_of_length_le (by omega)]
theorem new_row {s : St} {sz t m : Nat} {new : List V} (h : m = 0 ∨ s.new t = some (.cells new (some sz))) (hm : new.length = m * sz) :
    newCells s sz (rowV t m) = some (new, m) := by
  cases m with
  | zero => simp at hm; subst hm; rfl
  | succ m => rcases h with h | h; omega; exact new_cells' h hm

/-- Appending to such a row. -/
theorem wp_append {C : CallT} {d : Option Nat} {r : List II} {e : Env} {K : Env → St → Res} {Q : V → St → Prop} {o : Nat → Option O} {s : St} {F : Ch} {sz bytes k n m : Nat} {cs new : List V} {y : V}
    (h : Holds o s ((k, rowO sz n cs) :: F)) (hl : cs.length = n * sz) (hy : newCells s sz y = some (new, m)) (hn : new.length = m * sz) (hone : new.all V.one = true) (hsz : 0 < sz)
    (hb : (n + m) * bytes ≤ maxRow) (hb' : n + m ≤ maxRow)
    (q : ∀ k' s', Holds o s' ((k', rowO sz (n + m) (cs ++ new)) :: F) → WP (goOps C r (put e d (rowV k' (n + m))) s' K) Q) :
    WP (contO C d r e K (appendI sz bytes (rowV k n) y s)) Q := by
  by_cases hm : m = 0
  · subst hm
    have hnew : new = [] := by simpa using hn
    subst hnew
    have e1 : appendI sz bytes (rowV k n) y s = some (rowV k n, s) := by
      unfold appendI; rw [hy]; cases n <;> simp [rowV]
    rw [e1]
    exact q k s (by simpa using h)
  · cases n with
    | zero =>
      have hcs : cs = [] := by simpa using hl
      subst hcs
      have e1 : appendI sz bytes (rowV k 0) y s = some (rowV s.next m, s.alloc (.cells new (some sz))) := by
        unfold appendI; rw [hy]
        simp only [rowV_zero, Option.bind_some, hm, if_false]
        rw [if_pos ⟨by simpa using hb, by simpa using hb', hsz⟩, rowV_pos (by omega)]
      rw [e1]
      have := q s.next (s.alloc (.cells new (some sz))) (by
        rw [Nat.zero_add, rowO_pos (by omega)]; exact h.tl.alloc _)
      rw [Nat.zero_add] at this
      exact this
    | succ n =>
      rw [rowO_succ] at h
      have e1 : appendI sz bytes (rowV k (n + 1)) y s = some (rowV s.next (n + 1 + m), (s.kill k).alloc (.cells (cs ++ new) (some sz))) := by
        unfold appendI; rw [hy]
        have h1 : ¬ ((n + 1 + m) * sz ≤ cs.length) := by
          rw [hl]
          have : (n + 1) * sz < (n + 1 + m) * sz := Nat.mul_lt_mul_of_pos_right (by omega) hsz
          omega
        simp only [rowV_succ, Option.bind_some, hm, if_false, h.g0]
        rw [if_neg (fun h2 => h1 h2.2.2), if_pos (by simp only [true_and]; exact ⟨hl.symm, hb, hb', hone⟩), rowV_pos (by omega)]
      rw [e1]
      exact q _ _ (by rw [rowO_pos (by omega)]; exact h.kill.alloc _)

/-- Tables: rows of rows. -/
theorem tab_len {α : Type} {enc : α → List V} {sz : Nat} (he : ∀ x, (enc x).length = sz) : ∀ l : List α, (l.flatMap enc).length = l.length * sz
  | [] => by simp
  | x :: l => by simp [List.flatMap_cons, he, tab_len he l, Nat.add_mul]; omega
theorem tab_drop {α : Type} {enc : α → List V} {sz : Nat} (he : ∀ x, (enc x).length = sz) (sl : List V) : ∀ (l : List α) (i : Nat), i ≤ l.length → (l.flatMap enc ++ sl).drop (i * sz) = (l.drop i).flatMap enc ++ sl
  | l, 0, _ => by simp
  | [], i + 1, h => by simp at h
  | x :: l, i + 1, h => by
    have : (i + 1) * sz = (enc x).length + i * sz := by rw [he, Nat.add_mul]; omega
    rw [List.flatMap_cons, List.append_assoc, this, ← List.drop_drop, List.drop_left, List.drop_succ_cons, tab_drop he sl l i (by simpa using h)]
theorem tab_cut {α : Type} {enc : α → List V} {sz : Nat} (he : ∀ x, (enc x).length = sz) (l : List α) (sl : List V) {i : Nat} {x : α} (h : l[i]? = some x) : cut (l.flatMap enc ++ sl) (i * sz) sz = some (enc x) := by
  have hi : i < l.length := (List.getElem?_eq_some_iff.1 h).1
  have hx : l[i] = x := (List.getElem?_eq_some_iff.1 h).2
  have hle : i * sz + sz ≤ (l.flatMap enc ++ sl).length := by
    rw [List.length_append, tab_len he]
    have : (i + 1) * sz ≤ l.length * sz := Nat.mul_le_mul_right _ hi
    rw [Nat.add_mul] at this; omega
  unfold cut
  rw [if_pos hle, tab_drop he sl l i (by omega), List.drop_eq_getElem_cons hi, List.flatMap_cons, hx, List.append_assoc, List.take_append_of_le_length (by rw [he]; omega), List.take_of_length_le (by rw [he]; omega)]
theorem tab_get {α : Type} {enc : α → List V} {sz : Nat} (he : ∀ x, (enc x).length = sz) (l : List α) (sl : List V) {i f : Nat} {x : α} (h : l[i]? = some x) (hf : f < sz) : (l.flatMap enc ++ sl)[i * sz + f]? = (enc x)[f]? := by
  have hi : i < l.length := (List.getElem?_eq_some_iff.1 h).1
  have hx : l[i] = x := (List.getElem?_eq_some_iff.1 h).2
  have e : (l.flatMap enc ++ sl)[i * sz + f]? = ((l.flatMap enc ++ sl).drop (i * sz))[f]? := by rw [List.getElem?_drop]
  rw [e, tab_drop he sl l i (by omega), List.drop_eq_getElem_cons hi, List.flatMap_cons, hx, List.append_assoc, List.getElem?_append_left (by rw [he]; exact hf)]
theorem tab_set {α : Type} {enc : α → List V} {sz : Nat} (he : ∀ x, (enc x).length = sz) (sl : List V) (y : α) : ∀ (l : List α) (i f : Nat) (vs : List V) (x : α), l[i]? = some x → f + vs.length ≤ sz → over (enc x) f vs = enc y →
    over (l.flatMap enc ++ sl) (i * sz + f) vs = (l.set i y).flatMap enc ++ sl
  | [], i, f, vs, x, h, _, _ => by simp at h
  | z :: l, 0, f, vs, x, h, hf, ho => by
    simp at h; subst h
    rw [List.set_cons_zero, List.flatMap_cons, List.flatMap_cons, ← ho]
    have hz := he z
    unfold over
    simp only [Nat.zero_mul, Nat.zero_add, List.append_assoc]
    rw [List.take_append_of_le_length (by omega), List.drop_append_of_le_length (by omega)]
  | z :: l, i + 1, f, vs, x, h, hf, ho => by
    have ih := tab_set he sl y l i f vs x (by simpa using h) hf ho
    have hz := he z
    rw [List.set_cons_succ, List.flatMap_cons, List.flatMap_cons, List.append_assoc, List.append_assoc, ← ih]
    unfold over
    have e1 : (i + 1) * sz + f = (enc z).length + (i * sz + f) := by rw [hz, Nat.add_mul]; omega
    rw [e1, List.take_length_add_append, Nat.add_assoc, List.drop_length_add_append]
    simp only [List.append_assoc]

/-- Maps, by what they answer. -/
def KeyOk {α : Type} [DecidableEq α] (kt : KT) (enc : α → V) : Prop := ∀ a b, keyEq kt (enc a) (enc b) = some (decide (a = b))
def MapIs {α : Type} [DecidableEq α] (enc : α → V) (f : α → Option V) (x : O) : Prop :=
  ∃ (l : List (α × V × Nat)) (c : Nat), x = .map (l.map fun e => (enc e.1, e.2.1, e.2.2)) c ∧ ∀ a, (l.find? fun e => decide (e.1 = a)).map (·.2.1) = f a
section
variable {α : Type} [DecidableEq α] {kt : KT} {enc : α → V} {f : α → Option V} {x : O} {s : St} {k : Nat}
theorem mapIs_nil : MapIs enc (fun _ => none) (.map [] 0) := ⟨[], 0, rfl, fun _ => rfl⟩
theorem findI_tab (hk : KeyOk kt enc) (a : α) : ∀ (l : List (α × V × Nat)) (i : Nat), findI kt (enc a) (l.map fun e => (enc e.1, e.2.1, e.2.2)) i =
    some (match l.findIdx? (fun e => decide (e.1 = a)) with | some j => (l[j]?).map fun e => (i + j, e.2.1) | none => none)
  | [], i => rfl
  | e :: l, i => by
    simp only [List.map_cons, findI, hk a e.1, Option.bind_some, List.findIdx?_cons]
    by_cases h : a = e.1
    · simp [h]
    · rw [findI_tab hk a l (i + 1)]
      have h' : ¬ e.1 = a := fun x => h x.symm
      simp only [h, h', decide_false, Bool.false_eq_true, if_false]
      cases List.findIdx? (fun e => decide (e.1 = a)) l with
      | none => rfl
      | some j => simp [Nat.add_assoc, Nat.add_comm 1]
theorem find_idx {β : Type} (p : β → Bool) : ∀ l : List β, l.find? p = (l.findIdx? p).bind fun j => l[j]?
  | [] => rfl
  | x :: l => by
    simp only [List.find?_cons, List.findIdx?_cons]
    cases h : p x with
    | true => simp
    | false => rw [find_idx p l]; cases List.findIdx? p l <;> simp
theorem lookup_map (hk : KeyOk kt enc) (hx : MapIs enc f x) (h : s.new k = some x) (z : V) (ok : Bool) (a : α) :
    lookupI kt z ok (.map (some (.new k))) (enc a) s = some (if ok then .tuple [(f a).getD z, .bool (f a).isSome] else (f a).getD z) := by
  obtain ⟨l, c, rfl, hf⟩ := hx
  have e := findI_tab hk a l 0
  rw [← hf a, find_idx]
  simp only [lookupI, St.get, h, Option.bind_some, hk a a, decide_true, Option.isNone_some, Bool.false_eq_true, if_false, e]
  cases hi : List.findIdx? (fun e => decide (e.1 = a)) l with
  | none => simp
  | some j =>
    have hj := (List.findIdx?_eq_some_iff_findIdx_eq.1 hi).1
    simp [hj]
theorem mapSet_map (hk : KeyOk kt enc) (hx : MapIs enc f x) (h : s.new k = some x) (a : α) (v : V) :
    ∃ x', mapSetI kt (.map (some (.new k))) (enc a) v s = some (s.set k x') ∧ MapIs enc (fun b => if b = a then some v else f b) x' := by
  obtain ⟨l, c, rfl, hf⟩ := hx
  have e := findI_tab hk a l 0
  cases hi : List.findIdx? (fun e => decide (e.1 = a)) l with
  | none =>
    rw [hi] at e
    refine ⟨_, by simp only [mapSetI, h, hk a a, decide_true, Option.isNone_some, Bool.false_eq_true, if_false, e, Option.map_some]; rfl, l ++ [(a, v, c)], c + 1, by simp, fun b => ?_⟩
    show _ = if b = a then some v else f b
    rw [← hf b]
    by_cases hb : b = a
    · subst hb
      have : l.find? (fun e => decide (e.1 = b)) = none := by rw [find_idx, hi]; rfl
      simp [List.find?_append, this]
    · have : ¬ a = b := fun x => hb x.symm
      simp [List.find?_append, hb, this]
  | some j =>
    have hj := (List.findIdx?_eq_some_iff_findIdx_eq.1 hi).1
    rw [hi] at e
    simp only [List.getElem?_eq_getElem hj, Option.map_some, Nat.zero_add] at e
    refine ⟨_, by simp only [mapSetI, h, hk a a, decide_true, Option.isNone_some, Bool.false_eq_true, if_false, e, Option.map_some]; rfl, l.modify j (fun q => (a, v, q.2.2)), c, ?_, fun b => ?_⟩
    · congr 1
      apply List.ext_getElem?
      intro i
      simp only [List.getElem?_modify, List.getElem?_map]
      split <;> cases l[i]? <;> simp
    · show _ = if b = a then some v else f b
      rw [← hf b]
      have hja : l[j].1 = a := by simpa using (List.findIdx?_eq_some_iff_getElem.1 hi).2.1
      have hmin : ∀ i, (h : i < j) → ¬ l[i].1 = a := fun i h => by simpa using (List.findIdx?_eq_some_iff_getElem.1 hi).2.2 i h
      have hsplit : l.modify j (fun q => (a, v, q.2.2)) = l.take j ++ (a, v, l[j].2.2) :: l.drop (j + 1) := by
        rw [List.modify_eq_take_cons_drop hj]
      have hl : l = l.take j ++ l[j] :: l.drop (j + 1) := by rw [← List.drop_eq_getElem_cons hj, List.take_append_drop]
      rw [hsplit]
      conv => rhs; rw [hl]
      rw [List.find?_append, List.find?_append]
      by_cases hb : b = a
      · subst hb
        have : (l.take j).find? (fun e => decide (e.1 = b)) = none := by
          rw [List.find?_eq_none]
          intro q hq
          obtain ⟨i, hi', rfl⟩ := List.mem_iff_getElem.1 hq
          simp at hi'
          simpa using hmin i (by omega)
        simp [this]
      · have h1 : ¬ a = b := fun x => hb x.symm
        have h2 : ¬ l[j].1 = b := by rw [hja]; exact h1
        simp only [List.find?_cons, h1, h2, decide_false, hb, if_false]
end
theorem keyOk_int : KeyOk (.one .i) (fun n : Int => V.int .i64 n) := fun a b => by
  simp only [keyEq, cellEq, if_true]; congr 1
theorem keyOk_pair : KeyOk (.agg [.i, .i]) (fun w : Int × Int => V.agg [.int .i64 w.1, .int .i64 w.2]) := fun a b => by
  obtain ⟨a1, a2⟩ := a
  obtain ⟨b1, b2⟩ := b
  by_cases h1 : a1 = b1 <;> by_cases h2 : a2 = b2 <;> simp [keyEq, cellsEq, cellEq, h1, h2]
theorem ix_row {sz k n i : Nat} {kk : IntKind} (h : i < n) : ixV sz (rowV k n) (.int kk (i : Int)) = some (.ptr (some ⟨.new k, i * sz⟩)) := by
  rw [rowV_pos (by omega), ix_cell h, Nat.zero_add]

/-- Appending one element to a row that may be longer than what is told of it. -/
theorem ix_cV {gr : Bool} {sz k n i : Nat} {kk : IntKind} (h : i < n) : ixV sz (cV gr k n) (.int kk (i : Int)) = some (.ptr (some ⟨.new k, i * sz⟩)) := by
  cases gr
  · rw [cV_ff, ix_cell h, Nat.zero_add]
  · show ixV sz (.slice (some ⟨.new k, 0⟩) n none) _ = _
    rw [ix_cell h, Nat.zero_add]

theorem ix_pg {sz k n i : Nat} {kk : IntKind} (h : i < n) : ixV sz (pgV k n) (.int kk (i : Int)) = some (.ptr (some ⟨.new k, i * sz⟩)) := by
  rw [pgV_pos (by omega)]; exact ix_row h

theorem newCells_pg (s : St) (sz k : Nat) : newCells s sz (pgV k 0) = some ([], 0) := by
  unfold pgV; rw [if_pos rfl]; split <;> simp [newCells]

theorem wp_append1 {C : CallT} {d : Option Nat} {r : List II} {e : Env} {K : Env → St → Res} {Q : V → St → Prop} {o : Nat → Option O} {s : St} {F : Ch} {sz bytes k n : Nat} {cs sl new : List V} {y : V}
    (h : Holds o s ((k, rowO sz n (cs ++ sl)) :: F)) (hl : cs.length = n * sz) (hsl : ∃ j, sl.length = j * sz) (h0 : n = 0 → sl = []) (hy : newCells s sz y = some (new, 1)) (hn : new.length = sz) (hone : new.all V.one = true) (hsz : 0 < sz)
    (hb : (n + 1) * bytes ≤ maxRow) (hb' : n + 1 ≤ maxRow)
    (q : ∀ k' s' sl', (∃ j, sl'.length = j * sz) → Holds o s' ((k', rowO sz (n + 1) ((cs ++ new) ++ sl')) :: F) → WP (goOps C r (put e d (rowV k' (n + 1))) s' K) Q) :
    WP (contO C d r e K (appendI sz bytes (rowV k n) y s)) Q := by
  obtain ⟨j, hj⟩ := hsl
  by_cases hs : sl = []
  · subst hs
    rw [List.append_nil] at h
    exact wp_append h hl hy (by omega) hone hsz hb hb' fun k' s' h' => q k' s' [] ⟨0, by simp⟩ (by rw [List.append_nil]; exact h')
  · have hn0 : 0 < n := by
      rcases Nat.eq_zero_or_pos n with h1 | h1
      · exact absurd (h0 h1) hs
      · exact h1
    have hj1 : sz ≤ sl.length := by
      rw [hj]
      have : 0 < j := by
        rcases Nat.eq_zero_or_pos j with h1 | h1
        · rw [h1] at hj; simp at hj; exact absurd hj hs
        · exact h1
      exact Nat.le_mul_of_pos_left _ this
    rw [rowO_pos hn0] at h
    have hin : (n + 1) * sz ≤ (cs ++ sl).length := by rw [List.length_append, hl, Nat.add_mul]; omega
    have hw := writeCells_new (s := s) (off := n * sz) (vs := new) h.g0 (by rw [hn, ← Nat.succ_mul]; exact hin) hone
    have ho : over (cs ++ sl) (n * sz) new = (cs ++ new) ++ sl.drop sz := by
      unfold over
      rw [← hl, List.take_left, ← hn, List.drop_length_add_append]
    have e1 : appendI sz bytes (rowV k n) y s = some (rowV k (n + 1), s.set k (.cells (cs ++ new ++ sl.drop sz) (some sz))) := by
      unfold appendI; rw [hy, rowV_pos hn0]
      simp only [Option.bind_some, Nat.one_ne_zero, if_false, h.g0]
      rw [if_pos (by simp only [true_and]; exact hin), hw, ho, rowV_pos (by omega)]
      rfl
    rw [e1]
    refine q k _ _ ⟨j - 1, ?_⟩ (by rw [rowO_pos (by omega)]; exact h.set0 _)
    rw [List.length_drop, hj, Nat.sub_mul, Nat.one_mul]
end Go.IM
namespace Go.IM
theorem Holds.mem {o : Nat → Option O} {s : St} {C : Ch} {k : Nat} {x : O} (h : Holds o s C) (m : (k, some x) ∈ C) : s.new k = some x ∧ k < s.next := ⟨h.at_ k x m, h.lt k (Holds.ids_mem.2 ⟨x, m⟩)⟩
end Go.IM
namespace Go.IM
def Ch.cnt (C : Ch) (k : Nat) : Nat := C.ids.count k
def cnt1 (j : Nat) (y : Bool) (k : Nat) : Nat := if y ∧ j = k then 1 else 0
theorem cnt_nil (k : Nat) : Ch.cnt [] k = 0 := rfl
theorem cnt_cons (j : Nat) (y : Option O) (C : Ch) (k : Nat) : Ch.cnt ((j, y) :: C) k = cnt1 j y.isSome k + Ch.cnt C k := by
  cases y with
  | none => simp [Ch.cnt, cnt1]
  | some x =>
    simp only [Ch.cnt, Holds.ids_some, List.count_cons, cnt1, Option.isSome_some, true_and]
    by_cases h : j = k <;> simp [h] <;> omega
theorem cnt_append (C D : Ch) (k : Nat) : Ch.cnt (C ++ D) k = Ch.cnt C k + Ch.cnt D k := by simp [Ch.cnt, List.count_append]
theorem cnt1_ff (j k : Nat) : cnt1 j false k = 0 := by simp [cnt1]
theorem mem_some_none (k j : Nat) (x : O) : ((k, some x) = (j, none)) = False := by simp
/-- The same entries, in any order, some left out. -/
theorem Holds.of {o : Nat → Option O} {s : St} {C D : Ch} (h : Holds o s C) (hc : ∀ k, D.cnt k ≤ C.cnt k) (hm : ∀ k x, (k, some x) ∈ D → (k, some x) ∈ C) : Holds o s D where
  old := h.old
  nodup := List.nodup_iff_count.2 fun k => Nat.le_trans (hc k) (List.nodup_iff_count.1 h.nodup k)
  at_ := fun k x m => h.at_ k x (hm k x m)
  lt := fun k m => by
    obtain ⟨x, hx⟩ := Holds.ids_mem.1 m
    exact h.lt k (Holds.ids_mem.2 ⟨x, hm k x hx⟩)
end Go.IM
namespace Go.IM
theorem slice_row {sz k n m : Nat} {kk : IntKind} (h : 0 < m) (h' : m ≤ n) : sliceI sz (rowV k n) none (some (.int kk (m : Int))) none = some (rowV k m) := by
  rw [rowV_pos (by omega), rowV_pos h]
  simp [sliceI, asNat, h']
end Go.IM
namespace Go.IM
theorem wp_mapSet {C : CallT} {d : Option Nat} {r : List II} {e : Env} {K : Env → St → Res} {Q : V → St → Prop} {s : St} {k : Nat} {α : Type} [DecidableEq α] {kt : KT} {enc : α → V} {f : α → Option V} {x : O} {a : α} {v : V}
    (hk : KeyOk kt enc) (hx : MapIs enc f x) (h : s.new k = some x)
    (q : ∀ x', MapIs enc (fun b => if b = a then some v else f b) x' → WP (goOps C r (put e d .any) (s.set k x') K) Q) :
    WP (contO C d r e K ((mapSetI kt (.map (some (.new k))) (enc a) v s).map fun s1 => (.any, s1))) Q := by
  obtain ⟨x', e1, hm⟩ := mapSet_map hk hx h a v
  rw [e1]
  exact q x' hm
end Go.IM
namespace Go.IM
theorem ldN_cons (n off : Nat) (c : V) (l : List V) (g : Option Nat) : ldN n off (some (.cells (c :: l) g)) = if off + n ≤ (c :: l).length then some (.agg (((c :: l).drop off).take n)) else none := by
  simp only [ldN, cut]; split <;> rfl
end Go.IM
namespace Go.IM
theorem stC_cons (n k off : Nat) (v : V) (s : St) (c : V) (cs : List V) (g : Option Nat) : stC n k off v s (some (.cells (c :: cs) g)) =
    if v.cells.length = n ∧ off + n ≤ (c :: cs).length ∧ v.cells.all V.one = true then some (s.set k (.cells (over (c :: cs) off v.cells) g)) else none := rfl
theorem ldN_tab {α : Type} {enc : α → List V} {sz : Nat} (he : ∀ x, (enc x).length = sz) (l : List α) (g : Option Nat) {i : Nat} {x : α} (h : l[i]? = some x) : ldN sz (i * sz) (some (.cells (l.flatMap enc) g)) = some (.agg (enc x)) := by
  have := tab_cut he l [] h
  rw [List.append_nil] at this
  rw [ldN_some, this]; rfl
theorem stC_tab {α : Type} {enc : α → List V} {sz : Nat} (he : ∀ x, (enc x).length = sz) (h1 : ∀ x, (enc x).all V.one = true) (l : List α) (g : Option Nat) {i : Nat} (h : i < l.length) (y : α) (k : Nat) (s : St) :
    stC sz k (i * sz) (.agg (enc y)) s (some (.cells (l.flatMap enc) g)) = some (s.set k (.cells ((l.set i y).flatMap enc) g)) := by
  have h2 := tab_set he [] y l i 0 (enc y) l[i] (by simp [h]) (by rw [he]; omega) (by
    unfold over
    have := he y; have := he l[i]
    simp only [List.take_zero, List.nil_append, Nat.zero_add]
    rw [List.drop_eq_nil_of_le (by omega), List.append_nil])
  simp only [List.append_nil, Nat.add_zero] at h2
  have hle : i * sz + sz ≤ (l.flatMap enc).length := by
    rw [tab_len he]
    have : (i + 1) * sz ≤ l.length * sz := Nat.mul_le_mul_right _ h
    rw [Nat.add_mul] at this; omega
  rw [stC_some, cells_agg, if_pos ⟨he y, hle, h1 y⟩, h2]
end Go.IM
namespace Go.IM
theorem eqI_row (k n : Nat) : eqI .slice (rowV k n) (.slice none 0 (some 0)) = some (decide (n = 0)) := by cases n <;> simp [rowV, eqI]
/-- Appending to an empty row with no room. -/
theorem wp_append0 {C : CallT} {d : Option Nat} {r : List II} {e : Env} {K : Env → St → Res} {Q : V → St → Prop} {o : Nat → Option O} {s : St} {F : Ch} {sz bytes t m : Nat} {g : Option Nat} {new : List V} {y : V}
    (h : Holds o s ((t, some (.cells [] g)) :: F)) (hy : newCells s sz y = some (new, m)) (hm : 0 < m) (hsz : 0 < sz) (hb : m * bytes ≤ maxRow) (hb' : m ≤ maxRow)
    (q : ∀ k s', Holds o s' ((k, some (.cells new (some sz))) :: F) → WP (goOps C r (put e d (rowV k m)) s' K) Q) :
    WP (contO C d r e K (appendI sz bytes (.slice (some ⟨.new t, 0⟩) 0 (some 0)) y s)) Q := by
  have e1 : appendI sz bytes (.slice (some ⟨.new t, 0⟩) 0 (some 0)) y s = some (rowV s.next m, s.alloc (.cells new (some sz))) := by
    unfold appendI; rw [hy]
    have h0 : ¬ m = 0 := by omega
    have h1 : ¬ (0 + m ≤ 0) := by omega
    simp only [Option.bind_some, h0, if_false, h1]
    rw [if_pos ⟨by rw [Nat.zero_add]; exact hb, by omega, hsz⟩, Nat.zero_mul, readCells_new h.g0]
    simp [cut, rowV_pos hm]
  rw [e1]
  exact q _ _ (h.tl.alloc _)
theorem wp_append00 {C : CallT} {d : Option Nat} {r : List II} {e : Env} {K : Env → St → Res} {Q : V → St → Prop} {s : St} {sz bytes t : Nat} {y : V}
    (hy : newCells s sz y = some ([], 0)) (q : WP (goOps C r (put e d (.slice (some ⟨.new t, 0⟩) 0 (some 0))) s K) Q) :
    WP (contO C d r e K (appendI sz bytes (.slice (some ⟨.new t, 0⟩) 0 (some 0)) y s)) Q := by
  have e1 : appendI sz bytes (.slice (some ⟨.new t, 0⟩) 0 (some 0)) y s = some (.slice (some ⟨.new t, 0⟩) 0 (some 0), s) := by
    unfold appendI; rw [hy]; simp
  rw [e1]; exact q
end Go.IM
namespace Go.IM
theorem againV_pair (k k' : IntKind) (a b : Int) (s : St) : againV (.agg [.int k a, .int k' b]) (.agg [.int k a, .int k' b]) s = some (.any, s) := by simp [againV, beqV, beqVs]
end Go.IM
namespace Go.IM
/-- Appending to a full row that has not grown. -/
theorem wp_append_cap {C : CallT} {d : Option Nat} {r : List II} {e : Env} {K : Env → St → Res} {Q : V → St → Prop} {o : Nat → Option O} {s : St} {F : Ch} {sz bytes k n m : Nat} {g : Option Nat} {cs new : List V} {y : V}
    (h : Holds o s ((k, some (.cells cs g)) :: F)) (hl : cs.length = n * sz) (hy : newCells s sz y = some (new, m)) (hm : 0 < m) (hsz : 0 < sz)
    (hb : (n + m) * bytes ≤ maxRow) (hb' : n + m ≤ maxRow)
    (q : ∀ k' s', Holds o s' ((k', some (.cells (cs ++ new) (some sz))) :: F) → WP (goOps C r (put e d (rowV k' (n + m))) s' K) Q) :
    WP (contO C d r e K (appendI sz bytes (.slice (some ⟨.new k, 0⟩) n (some n)) y s)) Q := by
  have e1 : appendI sz bytes (.slice (some ⟨.new k, 0⟩) n (some n)) y s = some (rowV s.next (n + m), s.alloc (.cells (cs ++ new) (some sz))) := by
    unfold appendI; rw [hy]
    have h0 : ¬ m = 0 := by omega
    have h1 : ¬ (n + m ≤ n) := by omega
    simp only [Option.bind_some, h0, if_false, h1]
    rw [if_pos ⟨hb, hb', hsz⟩, readCells_new h.g0]
    simp [cut, hl, rowV_pos (show 0 < n + m by omega)]
    rw [← hl, List.take_length]
  rw [e1]
  exact q _ _ ((h.alloc _).r1.tl)
end Go.IM
namespace Go.IM
theorem Holds.dropMidR {o : Nat → Option O} {s : St} {X Y Z F : Ch} (h : Holds o s (X ++ (Y ++ (Z ++ F)))) : Holds o s (X ++ (Y ++ F)) := by
  refine h.of (fun k => ?_) fun k x m => ?_
  · simp only [cnt_append]; omega
  · simp only [List.mem_append] at m ⊢
    rcases m with m | m | m
    · exact .inl m
    · exact .inr (.inl m)
    · exact .inr (.inr (.inr m))
end Go.IM
namespace Go.IM
theorem cnt_sublist {C D : Ch} (h : C.Sublist D) (k : Nat) : C.cnt k ≤ D.cnt k := (h.filterMap _).count_le k
theorem flatMap_sublist {α β : Type} (f : α → List β) {l l' : List α} (h : l.Sublist l') : (l.flatMap f).Sublist (l'.flatMap f) := by
  induction h with
  | slnil => exact List.Sublist.slnil
  | cons a _ ih => exact ih.trans (by rw [List.flatMap_cons]; exact List.sublist_append_right _ _)
  | cons_cons a _ ih => rw [List.flatMap_cons, List.flatMap_cons]; exact (List.Sublist.refl _).append ih
theorem Holds.subl {o : Nat → Option O} {s : St} {X Y F : Ch} (h : Holds o s (X ++ F)) (hs : Y.Sublist X) : Holds o s (Y ++ F) := by
  refine h.of (fun k => ?_) fun k x m => ?_
  · have := cnt_sublist hs k; simp only [cnt_append]; omega
  · simp only [List.mem_append] at m ⊢
    exact m.imp (fun m => hs.subset m) id
end Go.IM
namespace Go.IM
/-- A slice that holds cells. -/
def SlAt (C : Ch) (v : V) (n : Nat) (cs : List V) : Prop := (n = 0 ∧ ∃ a c, v = .slice a 0 c) ∨ (0 < n ∧ ∃ k c g, v = .slice (some ⟨.new k, 0⟩) n c ∧ (k, some (.cells cs g)) ∈ C)
theorem SlAt.row {C : Ch} {k sz n : Nat} {cs : List V} (m : (k, rowO sz n cs) ∈ C) : SlAt C (rowV k n) n cs := by
  cases n with
  | zero => exact .inl ⟨rfl, none, some 0, rfl⟩
  | succ n => exact .inr ⟨by omega, k, none, some sz, rfl, m⟩
theorem SlAt.len {C : Ch} {v : V} {n : Nat} {cs : List V} (h : SlAt C v n cs) : lenV v = some (.int .i64 n) := by
  rcases h with ⟨rfl, a, c, rfl⟩ | ⟨_, k, c, g, rfl, _⟩ <;> rfl
theorem SlAt.mono {C D : Ch} {v : V} {n : Nat} {cs : List V} (h : SlAt C v n cs) (hs : ∀ x ∈ C, x ∈ D) : SlAt D v n cs := by
  rcases h with h | ⟨h0, k, c, g, h, m⟩
  · exact .inl h
  · exact .inr ⟨h0, k, c, g, h, hs _ m⟩
theorem SlAt.get {C : Ch} {v : V} {n : Nat} {cs : List V} (h : SlAt C v n cs) {o : Nat → Option O} {s : St} (hC : Holds o s C) {i : Nat} (hi : i < n) (sz : Nat) : ∃ k g, ixV sz v (.int .i64 (i : Int)) = some (.ptr (some ⟨.new k, i * sz⟩)) ∧ s.new k = some (.cells cs g) := by
  rcases h with ⟨rfl, _⟩ | ⟨_, k, c, g, rfl, m⟩
  · omega
  · exact ⟨k, g, by rw [ix_cell hi, Nat.zero_add], (hC.mem m).1⟩
theorem SlAt.at_ {C : Ch} {v : V} {n : Nat} {cs : List V} (h : SlAt C v n cs) {i : Nat} (hi : i < n) (sz : Nat) : ∃ k g, ixV sz v (.int .i64 (i : Int)) = some (.ptr (some ⟨.new k, i * sz⟩)) ∧ (k, some (.cells cs g)) ∈ C := by
  rcases h with ⟨rfl, _⟩ | ⟨_, k, c, g, rfl, m⟩
  · omega
  · exact ⟨k, g, by rw [ix_cell hi, Nat.zero_add], m⟩
theorem SlAt.nil {C : Ch} {cs : List V} : SlAt C (.slice none 0 (some 0)) 0 cs := .inl ⟨rfl, _, _, rfl⟩
end Go.IM
namespace Go.IM
/-- A map whose entries have come one behind the other. -/
def seqM {α : Type} (enc : α → V) (l : List (α × V)) : O := .map ((l.zipIdx.map fun p => (p.1.1, p.1.2, p.2)).map fun e : α × V × Nat => (enc e.1, e.2.1, e.2.2)) l.length
section
variable {α : Type} [DecidableEq α] {kt : KT} {enc : α → V} {s : St} {k : Nat}
omit [DecidableEq α] in
theorem seq_nil : seqM enc [] = .map [] 0 := rfl
theorem seq_find (l : List (α × V)) (a : α) : ∀ n : Nat, (((l.zipIdx n).map fun p => (p.1.1, p.1.2, p.2)).find? fun e : α × V × Nat => decide (e.1 = a)).map (·.2.1) = (l.find? fun e => decide (e.1 = a)).map (·.2) := by
  induction l with
  | nil => intro n; rfl
  | cons x l ih =>
    intro n
    simp only [List.zipIdx_cons, List.map_cons, List.find?_cons]
    cases h : decide (x.1 = a) with
    | true => rfl
    | false => exact ih (n + 1)
theorem seq_is (l : List (α × V)) : MapIs enc (fun a => (l.find? fun e => decide (e.1 = a)).map (·.2)) (seqM enc l) := ⟨_, _, rfl, fun a => seq_find l a 0⟩
omit [DecidableEq α] in
theorem seq_snoc (l : List (α × V)) (x : α × V) : (l ++ [x]).zipIdx.map (fun p => (p.1.1, p.1.2, p.2)) = l.zipIdx.map (fun p => (p.1.1, p.1.2, p.2)) ++ [(x.1, x.2, l.length)] := by
  rw [List.zipIdx_append]; simp
theorem mapEnt_new (hk : KeyOk kt enc) {l : List (α × V)} (h : s.new k = some (seqM enc l)) {a : α} (ha : ∀ e ∈ l, e.1 ≠ a) (z : V) :
    mapEntI kt z (.map (some (.new k))) (enc a) s = some (.tuple [z, .int .i64 (l.length : Nat)], s.set k (seqM enc (l ++ [(a, z)]))) := by
  have e := findI_tab hk a (l.zipIdx.map fun p => (p.1.1, p.1.2, p.2)) 0
  have hn : (l.zipIdx.map fun p => (p.1.1, p.1.2, p.2)).findIdx? (fun e : α × V × Nat => decide (e.1 = a)) = none := by
    rw [List.findIdx?_eq_none_iff]
    intro x hx
    obtain ⟨p, hp, rfl⟩ := List.mem_map.1 hx
    have := ha p.1 (List.fst_mem_of_mem_zipIdx hp)
    simpa using this
  rw [hn] at e
  unfold seqM at h
  simp only [mapEntI, h, hk a a, decide_true, Option.isNone_some, Bool.false_eq_true, if_false, e, Option.map_some]
  unfold seqM
  rw [seq_snoc, List.map_append]
  simp
omit [DecidableEq α] in
theorem entSet_new {l : List (α × V)} {a : α} {z : V} (h : s.new k = some (seqM enc (l ++ [(a, z)]))) (v : V) :
    entSetI (.map (some (.new k))) (.int .i64 (l.length : Nat)) v s = some (s.set k (seqM enc (l ++ [(a, v)]))) := by
  have hf : ((l.zipIdx.map fun p => (p.1.1, p.1.2, p.2)).map fun e : α × V × Nat => (enc e.1, e.2.1, e.2.2)).findIdx? (fun e => (e.2.2 : Int) == ((l.length : Nat) : Int)) = none := by
    rw [List.findIdx?_eq_none_iff]
    intro x hx
    simp only [List.map_map] at hx
    obtain ⟨p, hp, rfl⟩ := List.mem_map.1 hx
    have := List.snd_lt_of_mem_zipIdx hp
    simp; omega
  have hl : ((l.zipIdx.map fun p => (p.1.1, p.1.2, p.2)).map fun e : α × V × Nat => (enc e.1, e.2.1, e.2.2)).length = l.length := by simp
  unfold seqM at h
  rw [seq_snoc, List.map_append] at h
  simp only [entSetI, h, List.findIdx?_append, hf]
  unfold seqM
  rw [seq_snoc, List.map_append]
  have hm : ∀ (A : List (V × V × Nat)) (x : V × V × Nat) (g : V × V × Nat → V × V × Nat), (A ++ [x]).modify A.length g = A ++ [g x] := by
    intro A x g
    induction A with
    | nil => rfl
    | cons y A ih => simpa using ih
  have hm2 := hm ((l.zipIdx.map fun p => (p.1.1, p.1.2, p.2)).map fun e : α × V × Nat => (enc e.1, e.2.1, e.2.2)) (enc a, z, l.length) (fun e => (e.1, v, e.2.2))
  rw [hl] at hm2
  simp only [List.map_cons, List.map_nil, List.findIdx?_cons, beq_self_eq_true, if_true, Option.map_some, Option.none_or, hl, Nat.zero_add, hm2, List.length_append, List.length_cons, List.length_nil]
end
end Go.IM
