/- How the ideal machine is run by 'simp': the equations. -/
import Derived.Test.YtfcaamoapdibiaaGreatDoorIm15
set_option linter.unusedSimpArgs false
set_option linter.unusedVariables false
namespace Go.IM

theorem via {α : Type} {a b : α} (h : a = b) : a = b := h

section
variable {F : Nat → Option IFn} {L : IC → Env → St → Kt → Res} {C : CallT} {e : Env} {s : St} {K : Kt}

def seqK (L : IC → Env → St → Kt → Res) (C : CallT) (b : IC) (K : Kt) : Kt := fun
  | .normal, e, s => go L C b e s K
  | .exit i, e, s => K (.exit i) e s
  | .ret, e, s => K .ret e s
def blockK (id : Nat) (K : Kt) : Kt := fun
  | .normal, e, s => K .normal e s
  | .exit i, e, s => if i = id then K .normal e s else K (.exit i) e s
  | .ret, e, s => K .ret e s
def roundK (LL : Env → St → Kt → Res) (K : Kt) : Kt := fun
  | .normal, e, s => LL e s K
  | .exit i, e, s => K (.exit i) e s
  | .ret, e, s => K .ret e s
/-- Behind an operation. -/
def contO (C : CallT) (d : Option Nat) (r : List II) (e : Env) (Q : Env → St → Res) (x : Res) : Res := match x with
  | some p => goOps C r (put e d p.1) p.2 Q
  | none => none
def guardO (C : CallT) (d : Option Nat) (op : IOp) (r : List II) (e : Env) (s : St) (Q : Env → St → Res) (b : Bool) (v : V) : Res := match v with
  | .bool c => if c = b then goOps C (⟨d, op, none⟩ :: r) e s Q else goOps C r (put e d skipV) s Q
  | .tuple _ => goOps C r (put e d skipV) s Q
  | _ => none
def condO (L : IC → Env → St → Kt → Res) (C : CallT) (a b : IC) (e : Env) (s : St) (K : Kt) (v : V) : Res := match v with
  | .bool true => go L C a e s K
  | .bool false => go L C b e s K
  | _ => none
/-- Behind a region. -/
def MK (keep : List Bool) (K : Kt) : Env → St → Res := fun e s => K .normal (maskEnv keep e) s

theorem seqK_n (b : IC) : seqK L C b K .normal e s = go L C b e s K := rfl
theorem seqK_x (b : IC) (i : Nat) : seqK L C b K (.exit i) e s = K (.exit i) e s := rfl
theorem seqK_r (b : IC) : seqK L C b K .ret e s = K .ret e s := rfl
theorem blockK_n (id : Nat) : blockK id K .normal e s = K .normal e s := rfl
theorem blockK_x (id i : Nat) : blockK id K (.exit i) e s = if i = id then K .normal e s else K (.exit i) e s := rfl
theorem blockK_r (id : Nat) : blockK id K .ret e s = K .ret e s := rfl
theorem roundK_n (LL : Env → St → Kt → Res) : roundK LL K .normal e s = LL e s K := rfl
theorem roundK_x (LL : Env → St → Kt → Res) (i : Nat) : roundK LL K (.exit i) e s = K (.exit i) e s := rfl
theorem roundK_r (LL : Env → St → Kt → Res) : roundK LL K .ret e s = K .ret e s := rfl
theorem contO_some (d : Option Nat) (r : List II) (Q : Env → St → Res) (v : V) : contO C d r e Q (some (v, s)) = goOps C r (put e d v) s Q := rfl
section
variable (d : Option Nat) (op : IOp) (r : List II) (Q : Env → St → Res)
theorem guardO_tt : guardO C d op r e s Q true (.bool true) = goOps C (⟨d, op, none⟩ :: r) e s Q := rfl
theorem guardO_ff : guardO C d op r e s Q false (.bool false) = goOps C (⟨d, op, none⟩ :: r) e s Q := rfl
theorem guardO_tf : guardO C d op r e s Q true (.bool false) = goOps C r (put e d skipV) s Q := rfl
theorem guardO_ft : guardO C d op r e s Q false (.bool true) = goOps C r (put e d skipV) s Q := rfl
theorem guardO_tuple (b : Bool) (l : List V) : guardO C d op r e s Q b (.tuple l) = goOps C r (put e d skipV) s Q := rfl
theorem goOps_nil : goOps C [] e s Q = Q e s := rfl
theorem goOps_plain : goOps C (⟨d, op, none⟩ :: r) e s Q = contO C d r e Q (execI C op e s) := by
  simp only [goOps, stepI, wantedI, contO]
  cases execI C op e s <;> rfl
theorem goOps_guard (t : Nat) (b : Bool) : goOps C (⟨d, op, some (t, b)⟩ :: r) e s Q = guardO C d op r e s Q b (ev e (.t t)) := by
  simp only [goOps, stepI, wantedI, guardO, ev]
  cases e.getD t .any <;> try rfl
  rename_i c
  cases b <;> cases c <;> rfl
end
theorem condO_t (a b : IC) : condO L C a b e s K (.bool true) = go L C a e s K := rfl
theorem condO_f (a b : IC) : condO L C a b e s K (.bool false) = go L C b e s K := rfl
theorem MK_run (keep : List Bool) (K : Kt) (e : Env) (s : St) : MK keep K e s = K .normal (maskEnv keep e) s := rfl

theorem go_skip : go L C .skip e s K = K .normal e s := rfl
theorem go_region (ops : List II) (keep : List Bool) : go L C (.region ops keep) e s K = goOps C ops e s (MK keep K) := rfl
theorem go_seq (a b : IC) : go L C (.seq a b) e s K = go L C a e s (seqK L C b K) := rfl
theorem go_cond (c : Arg) (a b : IC) : go L C (.cond c a b) e s K = condO L C a b e s K (ev e c) := by
  simp only [go, condO]
  rfl
theorem go_block (id : Nat) (a : IC) : go L C (.block id a) e s K = go L C a e s (blockK id K) := rfl
theorem go_exit (i : Nat) : go L C (.exit i) e s K = K (.exit i) e s := rfl
theorem go_ret : go L C .ret e s K = K .ret e s := rfl
theorem go_loop (a : IC) : go (loop F) (call F) (.loop a) e s K = loop F (.loop a) e s K := (loop_eq F noY _ _ _ _).symm
theorem go_loopY (Y : Yt) (a : IC) : go (loopY F Y) (callY F Y) (.loop a) e s K = loopY F Y (.loop a) e s K := (loop_eq F Y _ _ _ _).symm
theorem go_range (f : Arg) (ps : List Nat) (a b : IC) : go L C (.range f ps a b) e s K = L (.range f ps a b) e s K := rfl

/-- What a function's end makes of its results. -/
def finR (rs : List (Nat × Option (Option Nat))) : Kt
  | .exit _, _, _ => none
  | _, e, s => (resultsI e s rs).map fun vs => (packRes vs, s)
theorem finR_n (rs : List (Nat × Option (Option Nat))) : finR rs .normal e s = (resultsI e s rs).map fun vs => (packRes vs, s) := rfl
theorem finR_r (rs : List (Nat × Option (Option Nat))) : finR rs .ret e s = (resultsI e s rs).map fun vs => (packRes vs, s) := rfl
/-- The slots of which something is known. -/
abbrev SE := List (Nat × V)
def look : SE → Nat → V
  | [], _ => .any
  | (k, v) :: e, i => if i = k then v else if i < k then .any else look e i
def sp (n : Nat) (e : SE) : Env := (List.range n).map (look e)
def ins (d : Nat) (v : V) : SE → SE
  | [] => [(d, v)]
  | (k, w) :: e => if d = k then (d, v) :: e else if d < k then (d, v) :: (k, w) :: e else (k, w) :: ins d v e
def memO : List Nat → Nat → Bool
  | [], _ => false
  | k :: ks, i => if i = k then true else if i < k then false else memO ks i
/-- What a mask leaves. -/
def mrg : List Nat → SE → SE
  | [], _ => []
  | k :: ks, [] => (k, .any) :: mrg ks []
  | k :: ks, (j, v) :: e => if j = k then (k, v) :: mrg ks e else if j < k then mrg (k :: ks) e else (k, .any) :: mrg ks ((j, v) :: e)
def ixs : Nat → List V → SE
  | _, [] => []
  | i, v :: l => (i, v) :: ixs (i + 1) l
def srt : List Nat → Bool
  | [] => true
  | [_] => true
  | a :: b :: l => Nat.blt a b && srt (b :: l)
def bitsL : List Nat → Nat
  | [] => 0
  | k :: ks => (1 <<< k) ||| bitsL ks
/-- A mask, by the slots that it keeps. -/
def kp (n : Nat) (ks : List Nat) : List Bool := cond (srt ks) (keepOf n (bitsL ks)) ((List.range n).map (memO ks))
def initS (n : Nat) (args : List V) : Env := args ++ List.replicate (n - args.length) .any

theorem look_nil (i : Nat) : look [] i = .any := rfl
theorem look_eq (i : Nat) (v : V) (e : SE) : look ((i, v) :: e) i = v := by simp [look]
theorem look_gt {k i : Nat} (h : k < i) (v : V) (e : SE) : look ((k, v) :: e) i = look e i := by
  simp only [look]; rw [if_neg (by omega), if_neg (by omega)]
theorem look_lt {k i : Nat} (h : i < k) (v : V) (e : SE) : look ((k, v) :: e) i = .any := by
  simp only [look]; rw [if_neg (by omega), if_pos h]
theorem ins_nil (d : Nat) (v : V) : ins d v [] = [(d, v)] := rfl
theorem ins_eq (d : Nat) (v w : V) (e : SE) : ins d v ((d, w) :: e) = (d, v) :: e := by simp [ins]
theorem ins_gt {k d : Nat} (h : k < d) (v w : V) (e : SE) : ins d v ((k, w) :: e) = (k, w) :: ins d v e := by
  simp only [ins]; rw [if_neg (by omega), if_neg (by omega)]
theorem ins_lt {k d : Nat} (h : d < k) (v w : V) (e : SE) : ins d v ((k, w) :: e) = (d, v) :: (k, w) :: e := by
  simp only [ins]; rw [if_neg (by omega), if_pos h]
theorem mrg_nil (e : SE) : mrg [] e = [] := by unfold mrg; rfl
theorem mrg_any (k : Nat) (ks : List Nat) : mrg (k :: ks) [] = (k, .any) :: mrg ks [] := by rw [mrg]
theorem mrg_eq (k : Nat) (ks : List Nat) (v : V) (e : SE) : mrg (k :: ks) ((k, v) :: e) = (k, v) :: mrg ks e := by rw [mrg]; simp
theorem mrg_gt {j k : Nat} (h : j < k) (ks : List Nat) (v : V) (e : SE) : mrg (k :: ks) ((j, v) :: e) = mrg (k :: ks) e := by
  rw [mrg, if_neg (by omega), if_pos h]
theorem mrg_lt {j k : Nat} (h : k < j) (ks : List Nat) (v : V) (e : SE) : mrg (k :: ks) ((j, v) :: e) = (k, .any) :: mrg ks ((j, v) :: e) := by
  rw [mrg, if_neg (by omega), if_neg (by omega)]
theorem ixs_nil (i : Nat) : ixs i [] = [] := rfl
theorem ixs_cons (i : Nat) (v : V) (l : List V) : ixs i (v :: l) = (i, v) :: ixs (i + 1) l := rfl

theorem getD_sp {i n : Nat} (h : i < n) (e : SE) : (sp n e).getD i .any = look e i := by simp [sp, List.getD, h]
theorem look_ins (d : Nat) (v : V) (i : Nat) : ∀ e : SE, look (ins d v e) i = if i = d then v else look e i
  | [] => by
    simp only [ins, look]
    by_cases h : i = d <;> simp [h]
  | (k, w) :: e => by
    have ih := look_ins d v i e
    rcases Nat.lt_trichotomy k d with h | h | h
    · rw [ins_gt h]
      by_cases h1 : i = k
      · subst h1; rw [look_eq, look_eq, if_neg (by omega)]
      · by_cases h2 : i < k
        · rw [look_lt h2, look_lt h2, if_neg (by omega)]
        · rw [look_gt (by omega), look_gt (by omega), ih]
    · subst h
      rw [ins_eq]
      by_cases h1 : i = k
      · subst h1; rw [look_eq, if_pos rfl]
      · rw [if_neg h1]
        by_cases h2 : i < k
        · rw [look_lt h2, look_lt h2]
        · rw [look_gt (by omega), look_gt (by omega)]
    · rw [ins_lt h]
      by_cases h1 : i = d
      · subst h1; rw [look_eq, if_pos rfl]
      · rw [if_neg h1]
        by_cases h2 : i < d
        · rw [look_lt h2, look_lt (by omega)]
        · rw [look_gt (by omega)]
theorem set_sp (n d : Nat) (v : V) (e : SE) : (sp n e).set d v = sp n (ins d v e) := by
  apply List.ext_getElem (by simp [sp])
  intro i h1 h2
  simp only [sp, List.getElem_set, List.getElem_map, List.getElem_range, look_ins]
  by_cases h : d = i
  · subst h; simp
  · rw [if_neg h, if_neg (fun x => h x.symm)]
theorem look_mrg (i : Nat) : ∀ (ks : List Nat) (e : SE), look (mrg ks e) i = if memO ks i then look e i else .any
  | [], e => by rw [mrg_nil]; rfl
  | k :: ks, [] => by
    rw [mrg_any]
    have ih := look_mrg i ks []
    simp only [look_nil, ite_self] at ih ⊢
    by_cases h1 : i = k
    · subst h1; rw [look_eq]
    · by_cases h2 : i < k
      · rw [look_lt h2]
      · rw [look_gt (by omega), ih]
  | k :: ks, (j, v) :: e => by
    have hm1 : i = k → memO (k :: ks) i = true := fun h => by simp [memO, h]
    have hm2 : i < k → memO (k :: ks) i = false := fun h => by simp only [memO]; rw [if_neg (by omega), if_pos h]
    have hm3 : k < i → memO (k :: ks) i = memO ks i := fun h => by simp only [memO]; rw [if_neg (by omega), if_neg (by omega)]
    rcases Nat.lt_trichotomy j k with h | h | h
    · rw [mrg_gt h, look_mrg i (k :: ks) e]
      by_cases h2 : i < k
      · rw [hm2 h2]; rfl
      · rw [look_gt (by omega)]
    · subst h
      rw [mrg_eq]
      have ih := look_mrg i ks e
      rcases Nat.lt_trichotomy i j with h2 | h2 | h2
      · rw [hm2 h2, look_lt h2]; rfl
      · rw [hm1 h2, h2, look_eq, look_eq]; rfl
      · rw [hm3 h2, look_gt h2, look_gt h2, ih]
    · rw [mrg_lt h]
      have ih := look_mrg i ks ((j, v) :: e)
      rcases Nat.lt_trichotomy i k with h2 | h2 | h2
      · rw [hm2 h2, look_lt h2]; rfl
      · rw [hm1 h2, h2, look_eq, look_lt h]; rfl
      · rw [hm3 h2, look_gt h2, ih]
  termination_by ks e => ks.length + e.length
theorem bitsL_contains (i : Nat) : ∀ ks : List Nat, (bitsL ks).testBit i = ks.contains i
  | [] => by simp [bitsL]
  | k :: ks => by
    rw [bitsL, Nat.testBit_or, bitsL_contains i ks, List.contains_cons]
    congr 1
    rw [Nat.one_shiftLeft, Nat.testBit_two_pow]
    by_cases h : k = i
    · subst h; simp
    · rw [decide_eq_false h]; symm; rw [beq_eq_false_iff_ne]; exact fun x => h x.symm
theorem srt_lt : ∀ {l : List Nat} {a : Nat}, srt (a :: l) = true → ∀ x ∈ l, a < x
  | [], _, _, x, hx => by cases hx
  | b :: l, a, h, x, hx => by
    rw [srt, Bool.and_eq_true] at h
    have h1 : a < b := by simpa using h.1
    rcases List.mem_cons.1 hx with rfl | hx
    · exact h1
    · exact Nat.lt_trans h1 (srt_lt h.2 x hx)
theorem srt_tl {l : List Nat} {a : Nat} (h : srt (a :: l) = true) : srt l = true := by
  cases l with
  | nil => rfl
  | cons b l => rw [srt, Bool.and_eq_true] at h; exact h.2
theorem memO_contains (i : Nat) : ∀ ks : List Nat, srt ks = true → memO ks i = ks.contains i
  | [], _ => rfl
  | k :: ks, h => by
    rw [List.contains_cons, memO]
    by_cases h1 : i = k
    · subst h1; simp
    · rw [if_neg h1, show (i == k) = false by simpa using h1, Bool.false_or]
      by_cases h2 : i < k
      · rw [if_pos h2]; symm
        rw [List.contains_eq_mem, decide_eq_false_iff_not]
        intro hm
        have := srt_lt h i hm
        omega
      · rw [if_neg h2]; exact memO_contains i ks (srt_tl h)
theorem kp_eq (n : Nat) (ks : List Nat) : kp n ks = (List.range n).map (memO ks) := by
  unfold kp
  cases h : srt ks with
  | false => rfl
  | true =>
    show keepOf n (bitsL ks) = _
    unfold keepOf
    refine List.map_congr_left fun i _ => ?_
    rw [bitsL_contains, memO_contains i ks h]
theorem maskEnv_map (f : Nat → Bool) (g : Nat → V) : ∀ l : List Nat, maskEnv (l.map f) (l.map g) = l.map fun i => if f i then g i else .any
  | [] => rfl
  | i :: l => by simp only [List.map_cons, maskEnv, maskEnv_map f g l]
theorem mask_sp (n : Nat) (ks : List Nat) (e : SE) : maskEnv (kp n ks) (sp n e) = sp n (mrg ks e) := by
  rw [kp_eq, sp, maskEnv_map, sp]
  exact List.map_congr_left fun i _ => (look_mrg i ks e).symm
theorem look_ixs : ∀ (l : List V) (j i : Nat), look (ixs j l) (j + i) = l.getD i .any
  | [], j, i => by simp [ixs, look]
  | v :: l, j, 0 => look_eq j v _
  | v :: l, j, i + 1 => by
    rw [ixs_cons, look_gt (by omega), show j + (i + 1) = (j + 1) + i by omega, look_ixs l (j + 1) i]; rfl
theorem initS_sp {n : Nat} {args : List V} (h : args.length ≤ n) : initS n args = sp n (ixs 0 args) := by
  unfold initS sp
  apply List.ext_getElem (by simp; omega)
  intro i h1 h2
  have e := look_ixs args 0 i
  rw [Nat.zero_add] at e
  simp only [List.getElem_map, List.getElem_range, e, List.getD, List.getElem_append, List.getElem_replicate]
  split
  · rename_i hl; simp [hl]
  · rename_i hl; rw [List.getElem?_eq_none (by omega)]; rfl
theorem call_runY (Y : Yt) {f : Nat} {fn : IFn} (hf : F f = some fn) (args : List V) (s : St) (h0 : f < yBase := by decide) : callY F Y f args s = go (loopY F Y) (callY F Y) fn.body (initS fn.ntmps args) s (finR fn.results) := by
  rw [call_eq F Y f fn hf args s h0]
  unfold initEnv
  rfl
theorem call_run {f : Nat} {fn : IFn} (hf : F f = some fn) (args : List V) (s : St) (h0 : f < yBase := by decide) : call F f args s = go (loop F) (call F) fn.body (initS fn.ntmps args) s (finR fn.results) := call_runY noY hf args s h0

/- Short forms of operations and operands. -/
def oa (d : Nat) (op : IOp) : II := ⟨some d, op, none⟩
def ob (op : IOp) : II := ⟨none, op, none⟩
def oc (d : Nat) (op : IOp) (t : Nat) (b : Bool) : II := ⟨some d, op, some (t, b)⟩
def oe (op : IOp) (t : Nat) (b : Bool) : II := ⟨none, op, some (t, b)⟩
def ai (n : Int) : Arg := .c (.int .i64 n)
def sk (n : Nat) (ks : List Nat) : IC := .region [] (kp n ks)
def sx (n : Nat) (ks : List Nat) (i : Nat) : IC := .seq (.region [] (kp n ks)) (.exit i)
def sr (n : Nat) (ks : List Nat) : IC := .seq (.region [] (kp n ks)) .ret
theorem go_sk (n : Nat) (ks : List Nat) : go L C (sk n ks) e s K = K .normal (maskEnv (kp n ks) e) s := rfl
theorem go_sx (n : Nat) (ks : List Nat) (i : Nat) : go L C (sx n ks i) e s K = K (.exit i) (maskEnv (kp n ks) e) s := rfl
theorem go_sr (n : Nat) (ks : List Nat) : go L C (sr n ks) e s K = K .ret (maskEnv (kp n ks) e) s := rfl
theorem go_oa (d : Nat) (op : IOp) (r : List II) (Q : Env → St → Res) : goOps C (oa d op :: r) e s Q = contO C (some d) r e Q (execI C op e s) := goOps_plain ..
theorem go_ob (op : IOp) (r : List II) (Q : Env → St → Res) : goOps C (ob op :: r) e s Q = contO C none r e Q (execI C op e s) := goOps_plain ..
theorem go_oc (d : Nat) (op : IOp) (r : List II) (Q : Env → St → Res) (t : Nat) (b : Bool) : goOps C (oc d op t b :: r) e s Q = guardO C (some d) op r e s Q b (e.getD t .any) := goOps_guard ..
theorem go_oe (op : IOp) (r : List II) (Q : Env → St → Res) (t : Nat) (b : Bool) : goOps C (oe op t b :: r) e s Q = guardO C none op r e s Q b (e.getD t .any) := goOps_guard ..
theorem ev_ai (e : Env) (n : Int) : ev e (ai n) = .int .i64 n := rfl

/-- One round. -/
theorem round {F : Nat → Option IFn} {a : IC} {e : Env} {s : St} {K : Kt} {R : Res}
    (h : ∀ LL : Env → St → Kt → Res, LL = loop F (.loop a) → go (loop F) (call F) a e s (roundK LL K) = R) : loop F (.loop a) e s K = R := by
  rw [loop, loop_eq F noY (.loop a)]; exact h _ rfl
theorem roundY {F : Nat → Option IFn} {Y : Yt} {a : IC} {e : Env} {s : St} {K : Kt} {R : Res}
    (h : ∀ LL : Env → St → Kt → Res, LL = loopY F Y (.loop a) → go (loopY F Y) (callY F Y) a e s (roundK LL K) = R) : loopY F Y (.loop a) e s K = R := by
  rw [loop_eq F Y (.loop a)]; exact h _ rfl

@[simp] theorem put_some (e : Env) (d : Nat) (v : V) : put e (some d) v = e.set d v := via rfl
@[simp] theorem put_none (e : Env) (v : V) : put e none v = e := via rfl
@[simp] theorem ev_t (e : Env) (i : Nat) : ev e (.t i) = e.getD i .any := via rfl
@[simp] theorem ev_c (e : Env) (v : V) : ev e (.c v) = v := via rfl

@[simp] theorem execI_call (f : Nat) (args : List Arg) : execI C (.call f args) e s = C f (args.map (ev e)) s := via rfl

section
variable (e s)
def pickV (c a b : V) : Option V := match c with | .bool t => some (if t then a else b) | _ => none
def convV (k : IntKind) (v : V) : Option V := match v with | .int _ n => some (wrapI k n) | _ => none
def nilV (v : V) : Option V := match v with | .ptr (some a) => some (.ptr (some a)) | .func f p c => some (.func f p c) | _ => none
def lenV (v : V) : Option V := match v with | .slice _ n _ => some (.int .i64 n) | _ => none
def fldV (off : Nat) (v : V) : Option V := match v with | .ptr (some a) => some (.ptr (some ⟨a.id, a.off + off⟩)) | _ => none
def partV (off : Nat) (n : Option Nat) (v : V) : Option V := match v with | .agg cs => partI n cs off | _ => none
def extV (i : Nat) (v : V) : Option V := match v with | .tuple vs => vs[i]? | _ => none
def ixV (sz : Nat) (v i : V) : Option V := match v with
  | .slice (some a) len _ => (asNat i).bind fun n => if n < len then some (.ptr (some ⟨a.id, a.off + n * sz⟩)) else none
  | _ => none
def loadV (n : Option Nat) (v : V) (s : St) : Option V := match v with | .ptr (some a) => (readCells s a (n.getD 1)).bind (packI n) | _ => none
def boxV (v : V) (s : St) : Res := if v.cells.all V.one then some (.ptr (some ⟨.new s.next, 0⟩), s.alloc (.cells v.cells none)) else none
def mkV (bytes : Nat) (z : List V) (len cap : V) (s : St) : Res :=
  (asNat len).bind fun l => (asNat cap).bind fun c =>
    if l ≤ c ∧ c * bytes ≤ maxRow ∧ c ≤ maxRow then some (.slice (some ⟨.new s.next, 0⟩) l (some c), s.alloc (.cells (zeros z c) none)) else none
def callvV (C : CallT) (g : V) (args : List V) (s : St) : Res := match g with | .func f pre caps => C f (pre ++ args ++ caps) s | _ => none
def againV (v w : V) (s : St) : Res := if beqV v w then some (.any, s) else none
def withS (s : St) : Option V → Res := Option.map fun v => (v, s)
@[simp] theorem withS_some (v : V) : withS s (some v) = some (v, s) := rfl
@[simp] theorem withS_none : withS s none = none := rfl

@[simp] theorem pickV_bool (t : Bool) (a b : V) : pickV (.bool t) a b = some (if t then a else b) := rfl
@[simp] theorem convV_int (k k' : IntKind) (n : Int) : convV k (.int k' n) = some (wrapI k n) := rfl
@[simp] theorem nilV_ptr (a : Ad) : nilV (.ptr (some a)) = some (.ptr (some a)) := rfl
@[simp] theorem nilV_func (f : Nat) (p c : List V) : nilV (.func f p c) = some (.func f p c) := rfl
@[simp] theorem lenV_slice (a : Option Ad) (n : Nat) (c : Option Nat) : lenV (.slice a n c) = some (.int .i64 n) := rfl
@[simp] theorem fldV_ptr (off : Nat) (a : Ad) : fldV off (.ptr (some a)) = some (.ptr (some ⟨a.id, a.off + off⟩)) := rfl
@[simp] theorem partV_agg (off : Nat) (n : Option Nat) (cs : List V) : partV off n (.agg cs) = partI n cs off := rfl
@[simp] theorem extV_tuple (i : Nat) (vs : List V) : extV i (.tuple vs) = vs[i]? := rfl
@[simp] theorem loadV_ptr (n : Option Nat) (a : Ad) : loadV n (.ptr (some a)) s = (readCells s a (n.getD 1)).bind (packI n) := rfl
@[simp] theorem callvV_func (C : CallT) (f : Nat) (pre caps args : List V) : callvV C (.func f pre caps) args s = C f (pre ++ args ++ caps) s := rfl
theorem ixV_int {sz len : Nat} {a : Ad} {c : Option Nat} {k : IntKind} {n : Int} (h0 : 0 ≤ n) (h1 : n < len) : ixV sz (.slice (some a) len c) (.int k n) = some (.ptr (some ⟨a.id, a.off + n.toNat * sz⟩)) := by
  have : n.toNat < len := by omega
  simp [ixV, asNat, h0, this]
theorem mkV_int {bytes : Nat} {z : List V} {k k' : IntKind} {l c : Int} (h0 : 0 ≤ l) (h1 : l ≤ c) (h2 : c * bytes ≤ 2 ^ 47) (h3 : c ≤ 2 ^ 47) :
    mkV bytes z (.int k l) (.int k' c) s = some (.slice (some ⟨.new s.next, 0⟩) l.toNat (some c.toNat), s.alloc (.cells (zeros z c.toNat) none)) := by
  have g2 : c.toNat * bytes ≤ maxRow := by
    have : ((c.toNat * bytes : Nat) : Int) = c * bytes := by push_cast; rw [Int.toNat_of_nonneg (by omega)]
    have h4 : ((c.toNat * bytes : Nat) : Int) ≤ ((2 ^ 47 : Nat) : Int) := by rw [this]; exact_mod_cast h2
    exact_mod_cast h4
  have g3 : c.toNat ≤ maxRow := by unfold maxRow; omega
  simp [mkV, asNat, h0, show (0:Int) ≤ c by omega, g2, g3]
  omega

@[simp] theorem x_mov (x : Arg) : execI C (.mov x) e s = some (ev e x, s) := via rfl
@[simp] theorem x_pick (c a b : Arg) : execI C (.pick c a b) e s = withS s (pickV (ev e c) (ev e a) (ev e b)) := via rfl
@[simp] theorem x_build (z : List V) (ps : List (Nat × Nat × Arg)) : execI C (.build z ps) e s = withS s ((fillI e z ps).map .agg) := via rfl
@[simp] theorem x_bin (op : BinOp) (x y : Arg) : execI C (.bin op x y) e s = withS s (binI op (ev e x) (ev e y)) := via rfl
@[simp] theorem x_eql (neg : Bool) (k : EK) (x y : Arg) : execI C (.eql neg k x y) e s = withS s ((eqI k (ev e x) (ev e y)).map fun b => .bool (if neg then !b else b)) := via rfl
@[simp] theorem x_un (op : UnOp) (x : Arg) : execI C (.un op x) e s = withS s (unI op (ev e x)) := via rfl
@[simp] theorem x_conv (k : IntKind) (x : Arg) : execI C (.conv k x) e s = withS s (convV k (ev e x)) := via rfl
@[simp] theorem x_mkFunc (f : Nat) (pre caps : List Arg) : execI C (.mkFunc f pre caps) e s = some (.func f (pre.map (ev e)) (caps.map (ev e)), s) := via rfl
@[simp] theorem x_nilCheck (x : Arg) : execI C (.nilCheck x) e s = withS s (nilV (ev e x)) := via rfl
@[simp] theorem x_lenSlice (x : Arg) : execI C (.lenSlice x) e s = withS s (lenV (ev e x)) := via rfl
@[simp] theorem x_fieldAddr (off : Nat) (x : Arg) : execI C (.fieldAddr off x) e s = withS s (fldV off (ev e x)) := via rfl
@[simp] theorem x_field (off : Nat) (n : Option Nat) (x : Arg) : execI C (.field off n x) e s = withS s (partV off n (ev e x)) := via rfl
@[simp] theorem x_extract (x : Arg) (i : Nat) : execI C (.extract x i) e s = withS s (extV i (ev e x)) := via rfl
@[simp] theorem x_indexAddr (sz : Nat) (x i : Arg) : execI C (.indexAddr sz x i) e s = withS s (ixV sz (ev e x) (ev e i)) := via rfl
@[simp] theorem x_load (n : Option Nat) (x : Arg) : execI C (.load n x) e s = withS s (loadV n (ev e x) s) := via rfl
@[simp] theorem x_again (t : Nat) (op : IOp) : execI C (.again t op) e s = (evalLook op e s).bind fun v => againV v (e.getD t .any) s := by
  simp only [execI, evalOp, IOp.kind, evalL, ev]
  cases evalLook op e s with
  | none => rfl
  | some v => simp only [Option.bind_some, againV]; by_cases hb : beqV v (e.getD t .any) = true <;> simp [hb]
@[simp] theorem look_load (n : Option Nat) (x : Arg) : evalLook (.load n x) e s = loadV n (ev e x) s := rfl
@[simp] theorem look_lookup (kt : KT) (z : V) (ok : Bool) (m k : Arg) : evalLook (.lookup kt z ok m k) e s = lookupI kt z ok (ev e m) (ev e k) s := rfl
@[simp] theorem look_len (x : Arg) : evalLook (.lenMap x) e s = lenMapI (ev e x) s := rfl
@[simp] theorem x_alloc (z : List V) : execI C (.alloc z) e s = some (.ptr (some ⟨.new s.next, 0⟩), s.alloc (.cells z none)) := via rfl
@[simp] theorem x_box (x : Arg) : execI C (.box x) e s = boxV (ev e x) s := by
  simp only [execI, evalOp, IOp.kind, evalA, boxV]
  split <;> rfl
@[simp] theorem x_buildSlice (len : Nat) (z : List V) (ps : List (Nat × Nat × Arg)) : execI C (.buildSlice len z ps) e s = (fillI e z ps).bind fun cs => some (.slice (some ⟨.new s.next, 0⟩) len (some len), s.alloc (.cells cs none)) := by
  simp only [execI, evalOp, IOp.kind, evalA]; cases fillI e z ps <;> rfl
@[simp] theorem x_mkMap : execI C .mkMap e s = some (.map (some (.new s.next)), s.alloc (.map [] 0)) := via rfl
@[simp] theorem x_mkSlice (bytes : Nat) (z : List V) (len cap : Arg) : execI C (.mkSlice bytes z len cap) e s = mkV bytes z (ev e len) (ev e cap) s := by
  simp only [execI, evalOp, IOp.kind, evalA, mkV]
  cases asNat (ev e len) with
  | none => rfl
  | some l => cases asNat (ev e cap) with
    | none => rfl
    | some c => simp only [Option.bind_some]; split <;> rfl
@[simp] theorem x_callv (g : Arg) (args : List Arg) : execI C (.callv g args) e s = callvV C (ev e g) (args.map (ev e)) s := via rfl
@[simp] theorem x_slice (sz : Nat) (x : Arg) (lo hi mx : Option Arg) : execI C (.slice sz x lo hi mx) e s = (sliceI sz (ev e x) (lo.map (ev e)) (hi.map (ev e)) (mx.map (ev e))).bind fun v => some (v, s) := by
  simp only [execI, evalOp, IOp.kind, evalP]; cases sliceI sz (ev e x) (lo.map (ev e)) (hi.map (ev e)) (mx.map (ev e)) <;> rfl
@[simp] theorem x_lookup (kt : KT) (z : V) (ok : Bool) (m k : Arg) : execI C (.lookup kt z ok m k) e s = withS s (lookupI kt z ok (ev e m) (ev e k) s) := via rfl
@[simp] theorem x_lenMap (x : Arg) : execI C (.lenMap x) e s = withS s (lenMapI (ev e x) s) := via rfl
@[simp] theorem x_store (n : Nat) (a v : Arg) : execI C (.store n a v) e s = (storeI n (ev e a) (ev e v) s).map fun s1 => (.any, s1) := by
  simp only [execI, evalOp, IOp.kind, evalS]
@[simp] theorem x_mapSet (kt : KT) (m k v : Arg) : execI C (.mapSet kt m k v) e s = (mapSetI kt (ev e m) (ev e k) (ev e v) s).map fun s1 => (.any, s1) := by
  simp only [execI, evalOp, IOp.kind, evalS]
@[simp] theorem x_mapEnt (kt : KT) (z : V) (m k : Arg) : execI C (.mapEnt kt z m k) e s = mapEntI kt z (ev e m) (ev e k) s := via rfl
@[simp] theorem x_entSet (m st v : Arg) : execI C (.entSet m st v) e s = (entSetI (ev e m) (ev e st) (ev e v) s).map fun s1 => (.any, s1) := by
  simp only [execI, evalOp, IOp.kind, evalS]
@[simp] theorem x_append (sz bytes : Nat) (x y : Arg) : execI C (.append sz bytes x y) e s = appendI sz bytes (ev e x) (ev e y) s := via rfl
end

@[simp] theorem maskEnv_nil (e : Env) : maskEnv [] e = e := by cases e <;> rfl
@[simp] theorem maskEnv_t (bs : List Bool) (v : V) (e : Env) : maskEnv (true :: bs) (v :: e) = v :: maskEnv bs e := via rfl
@[simp] theorem maskEnv_f (bs : List Bool) (v : V) (e : Env) : maskEnv (false :: bs) (v :: e) = .any :: maskEnv bs e := via rfl

@[simp] theorem binI_int (op : BinOp) (k : IntKind) (a b : Int) (h1 : op ≠ .shl) (h2 : op ≠ .shr) : binI op (.int k a) (.int k b) = intI op k a b := by
  cases op <;> simp_all [binI]
@[simp] theorem eqI_nil (b : Option Ad) : eqI .ptr (.ptr none) (.ptr b) = some b.isNone := rfl
@[simp] theorem eqI_ptr (a : Ad) : eqI .ptr (.ptr (some a)) (.ptr none) = some false := rfl
@[simp] theorem unI_not (b : Bool) : unI .not (.bool b) = some (.bool !b) := rfl
@[simp] theorem intI_add (k : IntKind) (a b : Int) : intI .add k a b = some (wrapI k (a + b)) := rfl
@[simp] theorem intI_sub (k : IntKind) (a b : Int) : intI .sub k a b = some (wrapI k (a - b)) := rfl
@[simp] theorem intI_mul (k : IntKind) (a b : Int) : intI .mul k a b = some (wrapI k (a * b)) := rfl
@[simp] theorem intI_eql (k : IntKind) (a b : Int) : intI .eql k a b = some (.bool (a == b)) := rfl
@[simp] theorem intI_neq (k : IntKind) (a b : Int) : intI .neq k a b = some (.bool (a != b)) := rfl
@[simp] theorem intI_lss (k : IntKind) (a b : Int) : intI .lss k a b = some (.bool (a < b)) := rfl
@[simp] theorem intI_leq (k : IntKind) (a b : Int) : intI .leq k a b = some (.bool (a ≤ b)) := rfl
@[simp] theorem intI_gtr (k : IntKind) (a b : Int) : intI .gtr k a b = some (.bool (a > b)) := rfl
@[simp] theorem intI_geq (k : IntKind) (a b : Int) : intI .geq k a b = some (.bool (a ≥ b)) := rfl

theorem wrap64 {n : Int} (h : -9223372036854775808 ≤ n) (h' : n < 9223372036854775808) : wrapI .i64 n = .int .i64 n := by
  have e : IntKind.i64.wrap n = n := by
    show (if (true && decide (n % 18446744073709551616 ≥ 9223372036854775808)) = true then n % 18446744073709551616 - 18446744073709551616 else n % 18446744073709551616) = n
    simp only [Bool.true_and, decide_eq_true_eq]
    split <;> omega
  unfold wrapI
  rw [e]

@[simp] theorem alloc_next (s : St) (o : O) : (s.alloc o).next = s.next + 1 := rfl
@[simp] theorem set_next (s : St) (k : Nat) (o : O) : (s.set k o).next = s.next := rfl
@[simp] theorem kill_next (s : St) (k : Nat) : (s.kill k).next = s.next := rfl
@[simp] theorem alloc_new_same (s : St) (o : O) : (s.alloc o).new s.next = some o := by simp [St.alloc]
theorem alloc_new (s : St) (o : O) {k : Nat} (h : k ≠ s.next) : (s.alloc o).new k = s.new k := by simp [St.alloc, h]
@[simp] theorem set_new_same (s : St) (k : Nat) (o : O) : (s.set k o).new k = some o := by simp [St.set]
theorem set_new (s : St) (o : O) {j k : Nat} (h : k ≠ j) : (s.set j o).new k = s.new k := by simp [St.set, h]
theorem kill_new (s : St) {j k : Nat} (h : k ≠ j) : (s.kill j).new k = s.new k := by simp [St.kill, h]

theorem readCells_new {s : St} {k off n : Nat} {cs : List V} {g : Option Nat} (h : s.new k = some (.cells cs g)) : readCells s ⟨.new k, off⟩ n = cut cs off n := by
  simp [readCells, St.row, St.get, h]
theorem writeCells_new {s : St} {k off : Nat} {cs vs : List V} {g : Option Nat} (h : s.new k = some (.cells cs g)) (h1 : off + vs.length ≤ cs.length) (h2 : vs.all V.one = true) : writeCells s ⟨.new k, off⟩ vs = some (s.set k (.cells (over cs off vs) g)) := by
  simp [writeCells, h, h1, h2]

theorem cut_one {cs : List V} {i : Nat} {v : V} (h : cs[i]? = some v) : cut cs i 1 = some [v] := by
  have hl : i < cs.length := (List.getElem?_eq_some_iff.1 h).1
  have e : (cs.drop i).take 1 = [v] := by
    rw [List.drop_eq_getElem_cons hl]
    simp [(List.getElem?_eq_some_iff.1 h).2]
  simp [cut, show i + 1 ≤ cs.length by omega, e]
end
theorem againV_slice (a : Option Ad) (n : Nat) (c : Option Nat) (s : St) : againV (.slice a n c) (.slice a n c) s = some (.any, s) := by simp [againV, beqV]
theorem againV_ptr (a : Option Ad) (s : St) : againV (.ptr a) (.ptr a) s = some (.any, s) := by simp [againV, beqV]
theorem againV_map (a : Option Id) (s : St) : againV (.map a) (.map a) s = some (.any, s) := by simp [againV, beqV]
theorem againV_int (k : IntKind) (n : Int) (s : St) : againV (.int k n) (.int k n) s = some (.any, s) := by simp [againV, beqV]
theorem againV_bool (b : Bool) (s : St) : againV (.bool b) (.bool b) s = some (.any, s) := by simp [againV, beqV]

/-- A field's cell. -/
theorem load_cell {s : St} {k off : Nat} {cs : List V} {g : Option Nat} {v : V} (h : s.new k = some (.cells cs g)) (hv : cs[off]? = some v) : loadV none (.ptr (some ⟨.new k, off⟩)) s = some v := by
  rw [loadV_ptr, readCells_new h]
  show (cut cs off 1).bind (packI none) = some v
  rw [cut_one hv]; rfl

/-- The place of an element. -/
theorem ix_cell {sz len : Nat} {k : Nat} {off : Nat} {c : Option Nat} {kk : IntKind} {i : Nat} (h1 : i < len) : ixV sz (.slice (some ⟨.new k, off⟩) len c) (.int kk (i : Int)) = some (.ptr (some ⟨.new k, off + i * sz⟩)) := by
  rw [ixV_int (by omega) (by omega)]
  simp
end Go.IM
