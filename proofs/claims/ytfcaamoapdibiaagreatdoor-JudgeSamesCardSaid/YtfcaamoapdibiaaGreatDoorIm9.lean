/- Regions in the order of the text; code; calls. -/
import Derived.Test.YtfcaamoapdibiaaGreatDoorIm8
import Derived.OrdersIn
import Derived.RangeFuncLeaves
set_option linter.unusedSimpArgs false
set_option linter.unusedVariables false
namespace Go.IM
open Go.RowKit (Below)
section
variable {P : Program} {B : Nat} {ρ : Rn} {s : St} {w : World} {a : Act} {e : Env}

/-- A function that can be entered. -/
def Enters (P : Program) (f : FuncId) : Prop := ∃ fn, P.funcs[f]? = some fn ∧ (fn.name == "runtime.NumGoroutine") = false ∧ fn.body.isSome = true

/-- The fence: none, but for the round in which the code stands. -/
def fen (ro : Option Nat) : Fence := { Fence.wide with round := ro }

/-- What a call leaves. -/
def Left (B : Nat) (ρ : Rn) (s : St) (w : World) (v : V) (s' : St) (en : Ending) (w' : World) : Prop := ∃ ρ' v', en = .returned v' ∧ VR ρ' v v' ∧ Sim B ρ' s' w' ∧ Step B ρ s w ρ' s' w'

/-- The machine's calls are Go's; those of yield too. -/
def CallsOk (P : Program) (B : Nat) (ρ0 : Rn) (C : CallT) : Prop := ∀ f args s v s', C f args s = some (v, s') →
  (f < yBase → Enters P f ∧ ∀ ρ w (cargs : Array Value), Le ρ0 ρ → VRs ρ args cargs.toList → Sim B ρ s w → CallsIn Fence.wide 0 P f cargs w (Left B ρ s w v s') ∧
    CallsDIn Fence.wide 0 P f cargs .returning w (fun en u' w' => u' = .returning ∧ Left B ρ s w v s' en w')) ∧
  (yBase ≤ f → ∀ ρ w (cargs : Array Value) p, Le ρ0 ρ → VRs ρ args cargs.toList → Sim B ρ s w → ρ (f - yBase) = some p →
    ∃ fn tmps assign body, (Instr.yield p.blk cargs).run P w = .ok (.round p.blk fn tmps assign body) w ∧ RoundIn Fence.wide 0 P p.blk fn tmps assign body w (Left B ρ s w v s'))

def runOps (C : CallT) : List II → Env → St → Option (Env × St)
  | [], e, s => some (e, s)
  | i :: r, e, s => (stepI C i e s).bind fun p => runOps C r p.1 p.2

theorem goOps_run (C : CallT) : ∀ (l : List II) (e : Env) (s : St) (K : Env → St → Res), goOps C l e s K = (runOps C l e s).bind fun p => K p.1 p.2
  | [], e, s, K => rfl
  | i :: r, e, s, K => by
    rw [goOps, runOps, Option.bind_assoc]
    congr 1
    funext p
    exact goOps_run C r p.1 p.2 K

theorem put_VRs (he : VRs ρ e a.tmps.toList) (dst : Option Nat) {v : V} {v' : Value} (hv : VR ρ v v') : VRs ρ (put e dst v) (a.put dst v').tmps.toList := by
  cases dst with
  | none => exact he
  | some d =>
    simp only [put, Act.put, Array.toList_setIfInBounds]
    exact VRs_set he d hv

theorem callFunc_enters {f : FuncId} (h : Enters P f) (args : Array Value) (w : World) : (callFunc f args).run P w = .ok (.enter f args) w := by
  obtain ⟨fn, h1, h2, h3⟩ := h
  have h3' : fn.body.isNone = false := by cases hb : fn.body <;> simp_all
  simp only [callFunc, Sem.run_bind, run_program, Result.andThen_ok, h1, h2, h3', Bool.false_eq_true, if_false, Sem.run_pure]

theorem wanted_ok {ops : Array Oper} {o : Oper} {i : II} (hc : compII P ops.toList o = some i) (he : VRs ρ e a.tmps.toList) {b : Bool} (hw : wantedI e i.guard = some b) :
    Region.wanted o (yielded ops a.tmps) = b := by
  simp only [compII, Option.bind_eq_bind, Option.pure_def, Option.bind_eq_some_iff] at hc
  obtain ⟨op, hop, hc⟩ := hc
  cases hg : o.guard with
  | none =>
    simp only [hg, Option.some.injEq] at hc
    subst hc
    simp only [wantedI, Option.some.injEq] at hw
    simp [Region.wanted, hg, hw]
  | some g =>
    obtain ⟨j, want⟩ := g
    simp only [hg, Option.bind_eq_some_iff, Option.some.injEq] at hc
    obtain ⟨t, ⟨oj, hoj, ht⟩, hc⟩ := hc
    subst hc
    simp only [wantedI] at hw
    cases hv : e[t]? with
    | none => simp [List.getD, hv] at hw
    | some v =>
      simp only [List.getD, hv, Option.getD_some] at hw
      split at hw
      · rename_i c
        cases hw
        obtain ⟨y, hy, hyv⟩ := VRs_get he hv
        have hyb := VR_bool hyv
        subst hyb
        have hy' : a.tmps[t]? = some (.bool c) := by simpa using hy
        have hoj' : ops[j]? = some oj := by simpa using hoj
        simp [Region.wanted, hg, yielded, hoj', ht, hy']
      · cases hw
        obtain ⟨y, hy, hyv⟩ := VRs_get he hv
        obtain ⟨c, rfl, -⟩ := hyv
        have hy' : a.tmps[t]? = some (.tuple c) := by simpa using hy
        have hoj' : ops[j]? = some oj := by simpa using hoj
        simp [Region.wanted, hg, yielded, hoj', ht, hy']
      · cases hw

/-- What is known behind a step. -/
def After (B : Nat) (ρ : Rn) (s : St) (w : World) (a : Act) (e' : Env) (s' : St) (a' : Act) (w' : World) : Prop :=
  ∃ ρ', VRs ρ' e' a'.tmps.toList ∧ Sim B ρ' s' w' ∧ Step B ρ s w ρ' s' w' ∧ a'.defers = a.defers

theorem After.trans {ρ1 : Rn} {s1 : St} {w1 : World} {a1 : Act} {e2 : Env} {s2 : St} {a2 : Act} {w2 : World} (h : Step B ρ s w ρ1 s1 w1) (hd : a1.defers = a.defers) (k : After B ρ1 s1 w1 a1 e2 s2 a2 w2) : After B ρ s w a e2 s2 a2 w2 := by
  obtain ⟨ρ', h1, h2, h3, h4⟩ := k
  exact ⟨ρ', h1, h2, h.trans h3, h4.trans hd⟩

theorem put_defers (dst : Option Nat) (v : Value) : (a.put dst v).defers = a.defers := by cases dst <;> rfl

theorem uponIn_mono {ro : Option Nat} {o : Oper} {r : Result Next} {next : Act → World → Prop} {Q : Exit → Act → World → Prop} (h : o.uponIn (fen ro) 0 P a next Q r) (hnd : ∀ c, o.op ≠ .defer c) (hr : (execOp a.eval o).run P w = r) :
    o.wpIn (fen ro) 0 P a w next Q := by
  refine ⟨fun _ _ => trivial, ?_⟩
  rw [Oper.semAt_eq _ _ _ hnd, hr]
  exact h

/-- A call, met. -/
theorem call_ok {ρ0 : Rn} {C : CallT} (hC : CallsOk P B ρ0 C) (hle : Le ρ0 ρ) {ro : Option Nat} {o : Oper} (hnd : ∀ c, o.op ≠ .defer c) {f : FuncId} (h0 : f < yBase) {args : List V} {v : V} {s' : St} (hs : Sim B ρ s w) (hcall : C f args s = some (v, s')) {cargs : Array Value} (ha : VRs ρ args cargs.toList)
    (hrun : (execOp a.eval o).run P w = (callFunc f cargs).run P w) (he : VRs ρ e a.tmps.toList) {next : Act → World → Prop} {Q : Exit → Act → World → Prop}
    (hn : ∀ a' w', After B ρ s w a (put e o.dst v) s' a' w' → next a' w') : o.wpIn (fen ro) 0 P a w next Q := by
  obtain ⟨hent, hcs⟩ := (hC f args s v s' hcall).1 h0
  refine uponIn_mono ?_ hnd (hrun.trans (callFunc_enters hent _ _))
  rw [Oper.uponIn_enter]
  refine ⟨fun h => absurd h (by simp [fen, Fence.wide]), ?_⟩
  have hc : CallsIn (fen ro) 0 P f cargs w (Left B ρ s w v s') := (hcs ρ w cargs hle ha hs).1
  refine hc.mono ?_
  rintro en w' ⟨ρ', v', rfl, hv, hsim, hstep⟩
  exact hn _ _ ⟨ρ', put_VRs (VRs_mono hstep.le _ _ he) _ hv, hsim, hstep, put_defers _ _⟩

/-- A call of yield, met. -/
theorem yield_ok {ρ0 : Rn} {C : CallT} (hC : CallsOk P B ρ0 C) (hle : Le ρ0 ρ) {ro : Option Nat} {o : Oper} (hnd : ∀ c, o.op ≠ .defer c) {f : FuncId} (h0 : yBase ≤ f) {p : Pl} (hp : ρ (f - yBase) = some p) {args : List V} {v : V} {s' : St} (hs : Sim B ρ s w) (hcall : C f args s = some (v, s')) {cargs : Array Value} (ha : VRs ρ args cargs.toList)
    (hrun : (execOp a.eval o).run P w = (Instr.yield p.blk cargs).run P w) (he : VRs ρ e a.tmps.toList) {next : Act → World → Prop} {Q : Exit → Act → World → Prop}
    (hn : ∀ a' w', After B ρ s w a (put e o.dst v) s' a' w' → next a' w') : o.wpIn (fen ro) 0 P a w next Q := by
  obtain ⟨fn, tmps, assign, body, h1, h2⟩ := (hC f args s v s' hcall).2 h0 ρ w cargs p hle ha hs hp
  refine uponIn_mono ?_ hnd (hrun.trans h1)
  rw [Oper.uponIn_round]
  refine ⟨fun h => absurd h (by simp [fen, Fence.wide]), ?_⟩
  have hc : RoundIn (fen ro) 0 P p.blk fn tmps assign body w (Left B ρ s w v s') := h2
  refine hc.mono ?_
  rintro en w' ⟨ρ', v', rfl, hv, hsim, hstep⟩
  exact hn _ _ ⟨ρ', put_VRs (VRs_mono hstep.le _ _ he) _ hv, hsim, hstep, put_defers _ _⟩

theorem compCall_kind {c : Call} {op : IOp} (hc : compCall P c = some op) :
    (∃ f, c.callee = .value (.func f) ∧ f < yBase ∧ op = .call f (c.args.toList.map argOf)) ∨ (∃ f, c.callee = .value f ∧ (∀ g, f ≠ .func g) ∧ op = .callv (argOf f) (c.args.toList.map argOf)) ∨
    ((∀ f l, op ≠ .call f l) ∧ (∀ f l, op ≠ .callv f l)) := by
  unfold compCall at hc
  simp only at hc
  split at hc
  · split at hc
    · cases hc; exact .inl ⟨_, by assumption, by assumption, rfl⟩
    · cases hc
  · rename_i f hf _
    cases hc
    exact .inr (.inl ⟨_, by assumption, by assumption, rfl⟩)
  · refine .inr (.inr ?_)
    split at hc
    · split at hc <;> first | (cases hc; exact ⟨by simp, by simp⟩) | cases hc
    · cases hc
  · split at hc
    · rcases compAppend_or hc with hc | hc
      · obtain ⟨_, _, _, _, _, _, _, _, rfl⟩ := compAppend_form hc; exact .inr (.inr ⟨by simp, by simp⟩)
      · obtain ⟨_, _, _, _, _, _, _, _, _, _, rfl⟩ := compAppendZ_form hc; exact .inr (.inr ⟨by simp, by simp⟩)
    · cases hc
  · split at hc
    · split at hc
      · cases hc; exact .inr (.inr ⟨by simp, by simp⟩)
      · cases hc
    · cases hc
  · split at hc
    · obtain ⟨_, _, _, _, _, _, _, rfl⟩ := compClear_form hc; exact .inr (.inr ⟨by simp, by simp⟩)
    · cases hc
  · split at hc
    · cases hc; exact .inr (.inr ⟨by simp, by simp⟩)
    · cases hc
  · split at hc
    · cases hc; exact .inr (.inr ⟨by simp, by simp⟩)
    · cases hc
  · cases hc

/-- What operations become. -/
def Shape (P : Program) (o : Oper) (op : IOp) : Prop :=
  (∀ t q, op ≠ .again t q) ∧ ((∃ c, o.op = .call c ∧ compCall P c = some op) ∨ ((∀ f l, op ≠ .call f l) ∧ (∀ f l, op ≠ .callv f l)))

theorem compCall_again {c : Call} {op : IOp} (hc : compCall P c = some op) : ∀ t q, op ≠ .again t q := by
  unfold compCall at hc
  simp only at hc
  split at hc
  · split at hc
    · cases hc; simp
    · cases hc
  · cases hc; simp
  · split at hc
    · split at hc <;> first | (cases hc; simp; done) | cases hc
    · cases hc
  · split at hc
    · rcases compAppend_or hc with hc | hc
      · obtain ⟨_, _, _, _, _, _, _, _, rfl⟩ := compAppend_form hc; simp
      · obtain ⟨_, _, _, _, _, _, _, _, _, _, rfl⟩ := compAppendZ_form hc; simp
    · cases hc
  · split at hc
    · split at hc
      · cases hc; simp
      · cases hc
    · cases hc
  · split at hc
    · obtain ⟨_, _, _, _, _, _, _, rfl⟩ := compClear_form hc; simp
    · cases hc
  · split at hc
    · cases hc; simp
    · cases hc
  · split at hc
    · cases hc; simp
    · cases hc
  · cases hc

theorem compOp_shape {o : Oper} {op : IOp} (hc : compOp P o = some op) : Shape P o op := by
  obtain ⟨dst, opp, ty, pos, after, guard⟩ := o
  cases opp with
  | call c => exact ⟨compCall_again hc, .inl ⟨c, rfl, hc⟩⟩
  | move x => simp only [compOp] at hc; cases hc; exact ⟨by simp, .inr ⟨by simp, by simp⟩⟩
  | assign x => simp only [compOp] at hc; cases hc; exact ⟨by simp, .inr ⟨by simp, by simp⟩⟩
  | pick c x y => simp only [compOp] at hc; cases hc; exact ⟨by simp, .inr ⟨by simp, by simp⟩⟩
  | nilCheck x => simp only [compOp] at hc; cases hc; exact ⟨by simp, .inr ⟨by simp, by simp⟩⟩
  | unOp op t x => simp only [compOp] at hc; cases hc; exact ⟨by simp, .inr ⟨by simp, by simp⟩⟩
  | extract x i => simp only [compOp] at hc; cases hc; exact ⟨by simp, .inr ⟨by simp, by simp⟩⟩
  | box t x => simp only [compOp] at hc; cases hc; exact ⟨by simp, .inr ⟨by simp, by simp⟩⟩
  | alloc t => simp only [compOp, Option.map_eq_some_iff] at hc; obtain ⟨n, _, rfl⟩ := hc; exact ⟨by simp, .inr ⟨by simp, by simp⟩⟩
  | load t x => simp only [compOp, Option.bind_eq_bind, Option.pure_def, Option.bind_eq_some_iff] at hc; obtain ⟨n, _, hc⟩ := hc; cases hc; exact ⟨by simp, .inr ⟨by simp, by simp⟩⟩
  | store t x y => simp only [compOp, Option.bind_eq_bind, Option.pure_def, Option.bind_eq_some_iff] at hc; obtain ⟨n, _, hc⟩ := hc; cases hc; exact ⟨by simp, .inr ⟨by simp, by simp⟩⟩
  | build t parts =>
    simp only [compOp, Option.bind_eq_bind, Option.pure_def, Option.bind_eq_some_iff] at hc
    obtain ⟨_, _, _, _, _, _, hc⟩ := hc; cases hc; exact ⟨by simp, .inr ⟨by simp, by simp⟩⟩
  | buildSlice t len parts =>
    simp only [compOp, Option.bind_eq_bind, Option.pure_def, Option.bind_eq_some_iff] at hc
    obtain ⟨_, _, _, _, _, _, hc⟩ := hc
    split at hc
    · cases hc
    · simp only [Option.bind_eq_some_iff] at hc; obtain ⟨_, _, hc⟩ := hc; cases hc; exact ⟨by simp, .inr ⟨by simp, by simp⟩⟩
  | makeMap t r =>
    simp only [compOp] at hc
    split at hc
    · cases hc; exact ⟨by simp, .inr ⟨by simp, by simp⟩⟩
    · cases hc
  | makeSlice t l c =>
    simp only [compOp, Option.bind_eq_bind, Option.pure_def, Option.bind_eq_some_iff] at hc
    obtain ⟨_, _, _, _, _, _, hc⟩ := hc
    split at hc
    · cases hc
    · cases hc; exact ⟨by simp, .inr ⟨by simp, by simp⟩⟩
  | lookup t m k ok =>
    simp only [compOp, Option.bind_eq_bind, Option.pure_def, Option.bind_eq_some_iff] at hc
    obtain ⟨_, _, _, _, _, _, _, _, hc⟩ := hc
    cases hc; exact ⟨by simp, .inr ⟨by simp, by simp⟩⟩
  | mapEntry t m k =>
    simp only [compOp, Option.bind_eq_bind, Option.pure_def, Option.bind_eq_some_iff] at hc
    obtain ⟨_, _, _, _, _, _, _, _, hc⟩ := hc
    cases hc; exact ⟨by simp, .inr ⟨by simp, by simp⟩⟩
  | entryStore t m st v => simp only [compOp] at hc; cases hc; exact ⟨by simp, .inr ⟨by simp, by simp⟩⟩
  | mapUpdate t m k v =>
    simp only [compOp, Option.bind_eq_bind, Option.pure_def, Option.bind_eq_some_iff] at hc
    obtain ⟨_, _, _, _, hc⟩ := hc
    cases hc; exact ⟨by simp, .inr ⟨by simp, by simp⟩⟩
  | insert t m k v =>
    simp only [compOp, Option.bind_eq_bind, Option.pure_def, Option.bind_eq_some_iff] at hc
    obtain ⟨_, _, _, _, hc⟩ := hc
    cases hc; exact ⟨by simp, .inr ⟨by simp, by simp⟩⟩
  | binOp op t x y yt =>
    simp only [compOp, compBin] at hc
    split at hc
    · cases hc; exact ⟨by simp, .inr ⟨by simp, by simp⟩⟩
    · cases hc; exact ⟨by simp, .inr ⟨by simp, by simp⟩⟩
    · simp only [Option.map_eq_some_iff] at hc; obtain ⟨_, _, rfl⟩ := hc; exact ⟨by simp, .inr ⟨by simp, by simp⟩⟩
    · simp only [Option.map_eq_some_iff] at hc; obtain ⟨_, _, rfl⟩ := hc; exact ⟨by simp, .inr ⟨by simp, by simp⟩⟩
    · cases hc
  | convert t u x =>
    simp only [compOp] at hc
    split at hc
    · cases hc; exact ⟨by simp, .inr ⟨by simp, by simp⟩⟩
    · cases hc
  | makeFunc f p c =>
    simp only [compOp] at hc
    cases f <;> simp at hc
    obtain ⟨_, rfl⟩ := hc; exact ⟨by simp, .inr ⟨by simp, by simp⟩⟩
  | slice t x lo hi mx =>
    simp only [compOp] at hc
    split at hc
    · split at hc
      · cases hc
      · cases hc; exact ⟨by simp, .inr ⟨by simp, by simp⟩⟩
    · simp only [Option.map_eq_some_iff] at hc; obtain ⟨_, _, rfl⟩ := hc; exact ⟨by simp, .inr ⟨by simp, by simp⟩⟩
    · cases hc
  | fieldAddr t x i =>
    simp only [compOp, Option.bind_eq_bind, Option.pure_def, Option.bind_eq_some_iff] at hc
    obtain ⟨_, _, _, _, hc⟩ := hc
    split at hc
    · cases hc
    · cases hc; exact ⟨by simp, .inr ⟨by simp, by simp⟩⟩
  | field t x i =>
    simp only [compOp, Option.bind_eq_bind, Option.pure_def, Option.bind_eq_some_iff] at hc
    obtain ⟨_, _, _, _, hc⟩ := hc
    cases hc; exact ⟨by simp, .inr ⟨by simp, by simp⟩⟩
  | indexAddr t x i =>
    simp only [compOp, Option.bind_eq_bind, Option.pure_def, Option.bind_eq_some_iff] at hc
    obtain ⟨_, _, _, _, hc⟩ := hc
    cases hc; exact ⟨by simp, .inr ⟨by simp, by simp⟩⟩
  | index t x i =>
    simp only [compOp] at hc
    split at hc
    · cases hc; exact ⟨by simp, .inr ⟨by simp, by simp⟩⟩
    · cases hc
  | range t x =>
    simp only [compOp] at hc
    split at hc
    · cases hc; exact ⟨by simp, .inr ⟨by simp, by simp⟩⟩
    · cases hc
  | next it str =>
    simp only [compOp] at hc
    split at hc
    · cases hc
    · cases hc; exact ⟨by simp, .inr ⟨by simp, by simp⟩⟩
  | _ => simp [compOp] at hc

/-- An operation that the machine has, or one that stops it. -/
theorem compOpD_or {o : Oper} {op : IOp} (hc : compOpD P o = some op) : compOp P o = some op ∨ op = .dead := by
  unfold compOpD at hc
  split at hc
  · cases hc
  · cases h : compOp P o with
    | some x => rw [h] at hc; left; simpa using hc
    | none => rw [h] at hc; right; simpa using hc.symm
theorem compOpD_again {o : Oper} {op : IOp} (hc : compOpD P o = some op) : ∀ t q, op ≠ .again t q := by
  rcases compOpD_or hc with h | rfl
  · exact (compOp_shape h).1
  · simp
theorem compOpD_defer {o : Oper} {op : IOp} (hc : compOpD P o = some op) : ∀ c, o.op ≠ .defer c := by
  intro c h
  simp [compOpD, h] at hc

theorem evalOp_ok {o : Oper} {op : IOp} {v : V} {s' : St} (hc : compOp P o = some op) (hev : evalOp op e s = some (v, s')) (he : VRs ρ e a.tmps.toList) (hs : Sim B ρ s w) :
    ActsOk P B ρ s w ((execOp a.eval o).run P w) v s' := by
  unfold evalOp at hev
  split at hev
  · rename_i hk
    simp only [Option.map_eq_some_iff, Prod.mk.injEq] at hev
    obtain ⟨v0, hev, rfl, rfl⟩ := hev
    obtain ⟨v', h1, h2⟩ := evalP_ok hc hk hev he
    exact ⟨ρ, w, hs, Step.refl _ _ _ _, .inl ⟨v', h1 w, h2⟩⟩
  · rename_i hk
    simp only [Option.map_eq_some_iff, Prod.mk.injEq] at hev
    obtain ⟨v0, hev, rfl, rfl⟩ := hev
    have hna := (compOp_shape hc).1
    have hlook : evalLook op e s = some v0 := by
      unfold evalL at hev
      split at hev
      · exact absurd rfl (hna _ _)
      · exact hev
    obtain ⟨v', h1, h2⟩ := evalLook_ok hc hlook he hs
    exact ⟨ρ, w, hs, Step.refl _ _ _ _, .inl ⟨v', h1, h2⟩⟩
  · rename_i hk
    simp only [Option.map_eq_some_iff, Prod.mk.injEq] at hev
    obtain ⟨x, hev, rfl, rfl⟩ := hev
    obtain ⟨ob, mk, h1, h2, h3⟩ := evalA_ok (ρ := ρ) hc hk hev he
    have hsim := hs.alloc x.1 ob ⟨w.heap.size, 0, 0, 0, none⟩ rfl (h2 _ _)
    exact ⟨_, _, hsim, Step.alloc hs x.1 ob _ rfl, .inl ⟨_, h1 w, h3 _ _ ⟨w.heap.size, 0, 0, 0, none⟩ (by simp [Rn.put]) rfl rfl⟩⟩
  · exact evalS_ok hc hev he hs

theorem upon_acts {ro : Option Nat} {o : Oper} {r : Result Next} {v : V} {s' : St} (h : ActsOk P B ρ s w r v s') (he : VRs ρ e a.tmps.toList) {next : Act → World → Prop} {Q : Exit → Act → World → Prop}
    (hn : ∀ a' w', After B ρ s w a (put e o.dst v) s' a' w' → next a' w') : o.uponIn (fen ro) 0 P a next Q r := by
  obtain ⟨ρ', w', hsim, hstep, h | h⟩ := h
  · obtain ⟨v', rfl, hv⟩ := h
    rw [Oper.uponIn_value]
    exact hn _ _ ⟨ρ', put_VRs (VRs_mono hstep.le _ _ he) _ hv, hsim, hstep, put_defers _ _⟩
  · obtain ⟨rfl, rfl⟩ := h
    rw [Oper.uponIn_skip]
    exact hn _ _ ⟨ρ', put_VRs (VRs_mono hstep.le _ _ he) _ trivial, hsim, hstep, put_defers _ _⟩

theorem compOp_defer {o : Oper} {op : IOp} (hc : compOp P o = some op) : ∀ c, o.op ≠ .defer c := by
  intro c h
  simp [compOp, h] at hc

theorem compII_op {ops : List Oper} {o : Oper} {i : II} (hc : compII P ops o = some i) : compOpD P o = some i.op ∧ i.dst = o.dst := by
  simp only [compII, Option.bind_eq_bind, Option.pure_def, Option.bind_eq_some_iff] at hc
  obtain ⟨op, hop, hc⟩ := hc
  split at hc
  · cases hc; exact ⟨hop, rfl⟩
  · simp only [Option.bind_eq_some_iff, Option.some.injEq] at hc
    obtain ⟨t, _, rfl⟩ := hc
    exact ⟨hop, rfl⟩

/-- One operation that is wanted. -/
theorem execI_ok {ρ0 : Rn} {C : CallT} (hC : CallsOk P B ρ0 C) (hle : Le ρ0 ρ) {ro : Option Nat} {o : Oper} {op : IOp} (hc : compOpD P o = some op) {v : V} {s' : St} (hev : execI C op e s = some (v, s')) (he : VRs ρ e a.tmps.toList) (hs : Sim B ρ s w)
    {next : Act → World → Prop} {Q : Exit → Act → World → Prop} (hn : ∀ a' w', After B ρ s w a (put e o.dst v) s' a' w' → next a' w') : o.wpIn (fen ro) 0 P a w next Q := by
  have hnd := compOpD_defer hc
  rcases compOpD_or hc with hc | rfl
  rotate_left
  · simp [execI, evalOp, IOp.kind, evalS] at hev
  rcases (compOp_shape hc).2 with ⟨c, hoc, hcc⟩ | ⟨h1, h2⟩
  · have hargs : VRs ρ ((c.args.toList.map argOf).map (ev e)) (c.args.map a.eval).toList := by
      rw [Array.toList_map]; exact VRs_map he
    rcases compCall_kind hcc with ⟨f, hf, h0, rfl⟩ | ⟨f, hf, hnf, rfl⟩ | ⟨h1, h2⟩
    · simp only [execI] at hev
      refine call_ok hC hle hnd h0 hs hev hargs ?_ he hn
      simp only [execOp, hoc, resolve, hf, Act.eval, Deferred.ofValue, Sem.run_bind, Sem.run_pure, Result.andThen_ok, invoke]
      congr 2
      simp
    · simp only [execI] at hev
      have hfv := eval_VR he f
      split at hev
      · rename_i g pre caps hg
        rw [hg] at hfv
        rcases hfv with ⟨h0, p', c', hfe, hp, hcp⟩ | ⟨h0, rfl, rfl, p, hp, hfe⟩
        · refine call_ok hC hle hnd h0 hs hev (cargs := (p' ++ c.args.map a.eval) ++ c') ?_ ?_ he hn
          · simp only [Array.toList_append]
            exact VRs_append (VRs_append hp hargs) hcp
          · simp only [execOp, hoc, resolve, hf, hfe, Deferred.ofValue, Sem.run_bind, Sem.run_pure, Result.andThen_ok, invoke]
        · simp only [List.nil_append, List.append_nil] at hev
          refine yield_ok hC hle hnd h0 hp hs hev hargs ?_ he hn
          simp only [execOp, hoc, resolve, hf, hfe, Deferred.ofValue, Sem.run_bind, Sem.run_pure, Result.andThen_ok, invoke]
          simp
      · cases hev
    · have hev' : evalOp op e s = some (v, s') := by
        unfold execI at hev
        split at hev
        · exact absurd rfl (h1 _ _)
        · exact absurd rfl (h2 _ _)
        · exact hev
      exact uponIn_mono (upon_acts (evalOp_ok hc hev' he hs) he hn) hnd rfl
  · have hev' : evalOp op e s = some (v, s') := by
      unfold execI at hev
      split at hev
      · exact absurd rfl (h1 _ _)
      · exact absurd rfl (h2 _ _)
      · exact hev
    exact uponIn_mono (upon_acts (evalOp_ok hc hev' he hs) he hn) hnd rfl

/-- Operations one behind the other. -/
theorem runOps_ok {ρ0 : Rn} {C : CallT} (hC : CallsOk P B ρ0 C) {ro : Option Nat} {ops : Array Oper} {Q : Exit → Act → World → Prop} : ∀ (l : List Oper) (il : List II), l.mapM (compII P ops.toList) = some il → ∀ {e : Env} {s : St} {e' : Env} {s' : St},
    runOps C il e s = some (e', s') → ∀ {ρ : Rn} {a : Act} {w : World}, Le ρ0 ρ → VRs ρ e a.tmps.toList → Sim B ρ s w → (∀ a' w', After B ρ s w a e' s' a' w' → Q .normal a' w') → wpListIn (fen ro) 0 P ops Q l a w
  | [], il, hl, e, s, e', s', hr, ρ, a, w, hle, he, hs, hq => by
    simp at hl; subst hl
    simp only [runOps, Option.some.injEq, Prod.mk.injEq] at hr
    obtain ⟨rfl, rfl⟩ := hr
    exact hq _ _ ⟨ρ, he, hs, Step.refl _ _ _ _, rfl⟩
  | o :: l, il, hl, e, s, e', s', hr, ρ, a, w, hle, he, hs, hq => by
    simp only [List.mapM_cons, Option.bind_eq_bind, Option.pure_def, Option.bind_eq_some_iff, Option.some.injEq] at hl
    obtain ⟨i, hi, il', hil, rfl⟩ := hl
    simp only [runOps, Option.bind_eq_some_iff] at hr
    obtain ⟨⟨e1, s1⟩, h1, hr⟩ := hr
    obtain ⟨hop, hdst⟩ := compII_op hi
    have step : ∀ a1 w1, After B ρ s w a e1 s1 a1 w1 → wpListIn (fen ro) 0 P ops Q l a1 w1 := by
      rintro a1 w1 ⟨ρ1, k1, k2, k3, k4⟩
      exact runOps_ok hC l il' hil hr (hle.trans k3.le) k1 k2 (fun a' w' hA => hq _ _ (After.trans k3 k4 hA))
    unfold stepI at h1
    unfold wpListIn
    split at h1
    · rename_i hw
      rw [wanted_ok hi he hw, if_pos rfl]
      simp only [Option.map_eq_some_iff, Prod.mk.injEq] at h1
      obtain ⟨⟨v, s2⟩, h2, rfl, rfl⟩ := h1
      rw [hdst] at step
      exact execI_ok hC hle hop h2 he hs step
    · rename_i hw
      rw [wanted_ok hi he hw]
      simp only [Option.some.injEq, Prod.mk.injEq] at h1
      obtain ⟨rfl, rfl⟩ := h1
      rw [hdst] at step
      simp only [Bool.false_eq_true, if_false]
      exact ⟨fun _ _ => trivial, step _ _ ⟨ρ, put_VRs he _ ⟨#[], rfl, rfl⟩, hs, Step.refl _ _ _ _, put_defers _ _⟩⟩
    · cases h1
/-- Operations one behind the other, and others behind them. -/
theorem runOps_ok2 {ρ0 : Rn} {C : CallT} (hC : CallsOk P B ρ0 C) {ro : Option Nat} {ops : Array Oper} {Q : Exit → Act → World → Prop} : ∀ (l : List Oper) (il : List II), l.mapM (compII P ops.toList) = some il → ∀ {m : List Oper} {e : Env} {s : St} {e' : Env} {s' : St},
    runOps C il e s = some (e', s') → ∀ {ρ : Rn} {a : Act} {w : World}, Le ρ0 ρ → VRs ρ e a.tmps.toList → Sim B ρ s w → (∀ a' w', After B ρ s w a e' s' a' w' → wpListIn (fen ro) 0 P ops Q m a' w') → wpListIn (fen ro) 0 P ops Q (l ++ m) a w
  | [], il, hl, m, e, s, e', s', hr, ρ, a, w, hle, he, hs, hq => by
    simp at hl; subst hl
    simp only [runOps, Option.some.injEq, Prod.mk.injEq] at hr
    obtain ⟨rfl, rfl⟩ := hr
    exact hq _ _ ⟨ρ, he, hs, Step.refl _ _ _ _, rfl⟩
  | o :: l, il, hl, m, e, s, e', s', hr, ρ, a, w, hle, he, hs, hq => by
    simp only [List.mapM_cons, Option.bind_eq_bind, Option.pure_def, Option.bind_eq_some_iff, Option.some.injEq] at hl
    obtain ⟨i, hi, il', hil, rfl⟩ := hl
    simp only [runOps, Option.bind_eq_some_iff] at hr
    obtain ⟨⟨e1, s1⟩, h1, hr⟩ := hr
    obtain ⟨hop, hdst⟩ := compII_op hi
    have step : ∀ a1 w1, After B ρ s w a e1 s1 a1 w1 → wpListIn (fen ro) 0 P ops Q (l ++ m) a1 w1 := by
      rintro a1 w1 ⟨ρ1, k1, k2, k3, k4⟩
      exact runOps_ok2 hC l il' hil hr (hle.trans k3.le) k1 k2 (fun a' w' hA => hq _ _ (After.trans k3 k4 hA))
    unfold stepI at h1
    rw [List.cons_append]
    unfold wpListIn
    split at h1
    · rename_i hw
      rw [wanted_ok hi he hw, if_pos rfl]
      simp only [Option.map_eq_some_iff, Prod.mk.injEq] at h1
      obtain ⟨⟨v, s2⟩, h2, rfl, rfl⟩ := h1
      rw [hdst] at step
      exact execI_ok hC hle hop h2 he hs step
    · rename_i hw
      rw [wanted_ok hi he hw]
      simp only [Option.some.injEq, Prod.mk.injEq] at h1
      obtain ⟨rfl, rfl⟩ := h1
      rw [hdst] at step
      simp only [Bool.false_eq_true, if_false]
      exact ⟨fun _ _ => trivial, step _ _ ⟨ρ, put_VRs he _ ⟨#[], rfl, rfl⟩, hs, Step.refl _ _ _ _, put_defers _ _⟩⟩
    · cases h1
end
end Go.IM
