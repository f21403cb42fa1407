/- Layer 15: what an act does to a pair: writing, reading. -/
import Derived.Test.YtoldkemimhebaaaPgO
set_option linter.unusedSimpArgs false
set_option linter.unusedVariables false
namespace Go.Proofs.Ytoldkemimhebaaa
open Go Go.IM

section
variable {o : Nat → Option O} {s : St} {C F : Ch} {Q : V → St → Prop} {p r q t : Nat} {u : List Bool} {others : List Nat} {G : PairG}
set_option maxRecDepth 10000
set_option maxHeartbeats 4000000

/-- Words that change, and are as many as before, change nothing else. -/
theorem RInv.congr {rg rg' : Reg} (h : RInv rg) (h1 : rg'.size = rg.size) (h2 : rg'.life = rg.life) (h3 : rg'.fill = rg.fill) (h4 : rg'.pages = rg.pages) (h5 : rg'.objs.map (fun x => (x.at_, x.kind, x.ws.length)) = rg.objs.map (fun x => (x.at_, x.kind, x.ws.length))) : RInv rg' := by
  have len : rg'.objs.length = rg.objs.length := by have := congrArg List.length h5; simpa using this
  have tr : ∀ x ∈ rg'.objs, ∃ y ∈ rg.objs, y.at_ = x.at_ ∧ y.kind = x.kind ∧ y.ws.length = x.ws.length := by
    intro x hx
    have : (x.at_, x.kind, x.ws.length) ∈ rg.objs.map (fun x => (x.at_, x.kind, x.ws.length)) := by rw [← h5]; exact List.mem_map.2 ⟨x, hx, rfl⟩
    obtain ⟨y, hy, e⟩ := List.mem_map.1 this
    simp only [Prod.mk.injEq] at e
    exact ⟨y, hy, e⟩
  refine ⟨by rw [h1]; exact h.size, fun x hx => ?_, fun hs => ?_, fun hs => ?_⟩
  · obtain ⟨y, hy, _, e2, e3⟩ := tr x hx
    have := h.ws y hy
    omega
  · rw [h1] at hs
    obtain ⟨k1, k2, k3, k4⟩ := h.fin hs
    refine ⟨by rw [h4]; exact k1, by rw [h3]; exact k2, by rw [len]; exact k3, fun x hx => ?_⟩
    obtain ⟨y, hy, e1, _⟩ := tr x hx
    rw [h2, ← k4 y hy, e1]
  · rw [h1] at hs
    have := h.inf hs
    have e : rg'.objs.map (fun x => (x.at_, x.ws.length + 1)) = rg.objs.map (fun x => (x.at_, x.ws.length + 1)) := by
      have := congrArg (List.map fun z : Nat × Nat × Nat => (z.1, z.2.2 + 1)) h5
      simpa [List.map_map, Function.comp_def] using this
    rw [e, h3, h4]; exact this

def PObj.write (x : PObj) (i : Nat) (w : Int × Int) : PObj := { x with b := { x.b with ws := x.b.ws.set i w } }
def RObj.write (x : RObj) (i : Nat) (w : Int × Int) : RObj := { x with b := { x.b with ws := x.b.ws.set i w } }
theorem ok_write {g : PReg} {X Y : List PObj} {x : PObj} (e : g.objs = X ++ x :: Y) (h : g.ok) (i : Nat) (w : Int × Int) : PReg.ok { g with objs := X ++ x.write i w :: Y } := by
  obtain ⟨l, c, e1, hl⟩ := h
  refine ⟨l, c, e1, fun a => (hl a).trans ?_⟩
  simp only [e, List.find?_append, List.find?_cons]
  have : (x.write i w).b.at_ = x.b.at_ := rfl
  rw [this]
  cases List.find? (fun x => decide ((x.b.at_ : Int) = a)) X with
  | some _ => rfl
  | none => simp only [Option.none_or]; cases decide ((x.b.at_ : Int) = a) <;> rfl

theorem PairOk.write (h : PairOk u others G) {A B : List PReg} {A' B' : List RReg} {g : PReg} {g' : RReg} {X Y : List PObj} {X' Y' : List RObj} {x : PObj} {x' : RObj} (e1 : G.hp.regs = A ++ g :: B) (e2 : G.hr.regs = A' ++ g' :: B') (hA : A.map PReg.m = A'.map RReg.m) (hB : B.map PReg.m = B'.map RReg.m) (hm : g.m = g'.m)
    (ex : g.objs = X ++ x :: Y) (ex' : g'.objs = X' ++ x' :: Y') (hX : X.length = X'.length) (i : Nat) (w : Int × Int) :
    PairOk u others { G with hp := { G.hp with regs := A ++ { g with objs := X ++ x.write i w :: Y } :: B }, hr := { G.hr with regs := A' ++ { g' with objs := X' ++ x'.write i w :: Y' } :: B' } } := by
  have mg : g ∈ G.hp.regs := by rw [e1]; simp
  have hob : g.objs.map (·.b) = g'.objs.map (·.b) := congrArg Reg.objs hm
  have hsz : g.size = g'.size := congrArg Reg.size hm
  have hlf : g.life = g'.life := congrArg Reg.life hm
  have hfl : g.fill = g'.fill := congrArg Reg.fill hm
  have hpg : g.pages = g'.pages := congrArg Reg.pages hm
  rw [ex, ex'] at hob
  simp only [List.map_append, List.map_cons] at hob
  obtain ⟨k1, k2⟩ := List.append_inj hob (by simpa using hX)
  simp only [List.cons.injEq] at k2
  have hri := (h.inv.reg g.m (List.mem_map.2 ⟨g, mg, rfl⟩)).congr (rg' := PReg.m { g with objs := X ++ x.write i w :: Y }) rfl rfl rfl rfl (by simp [PReg.m, ex, PObj.write])
  exact h.upd (u' := u) e1 e2 hA hB (by simp [PReg.m, RReg.m, hsz, hlf, hfl, hpg, k1, k2.2, PObj.write, RObj.write, k2.1]) rfl hri (ok_write ex (h.pok g mg) i w) rfl (h.pool1 (g := g) e1)

theorem list_split {α : Type} {l : List α} {i : Nat} {x : α} (h : l[i]? = some x) : l = l.take i ++ x :: l.drop (i + 1) ∧ (l.take i).length = i := by
  obtain ⟨hi, e⟩ := List.getElem?_eq_some_iff.1 h
  refine ⟨?_, by simp; omega⟩
  rw [← e, ← List.drop_eq_getElem_cons hi, List.take_append_drop]

/-- Where a word points, in both. -/
theorem PairOk.find (h : PairOk u others G) {N L : Int} (hL : 1 ≤ L) :
    (rfind N L G.hr.regs 0 = none ∧ pfind N L G.hp.regs = none) ∨
    ∃ a b A g B A' g' B' X x Y X' x' Y', rfind N L G.hr.regs 0 = some (a, b) ∧ pfind N L G.hp.regs = some x ∧ G.hr.regs[a]? = some g' ∧ g'.objs[b]? = some x' ∧ x.b = x'.b ∧ g ∈ G.hp.regs ∧ x ∈ g.objs ∧
      G.hp.regs = A ++ g :: B ∧ G.hr.regs = A' ++ g' :: B' ∧ A.map PReg.m = A'.map RReg.m ∧ B.map PReg.m = B'.map RReg.m ∧ g.m = g'.m ∧ g.objs = X ++ x :: Y ∧ g'.objs = X' ++ x' :: Y' ∧ X.length = X'.length := by
  have hf := find_same (N := N) hL G.hp.regs G.hr.regs 0 h.same
  cases hr : rfind N L G.hr.regs 0 with
  | none => rw [hr] at hf; exact .inl ⟨rfl, hf⟩
  | some ab =>
    obtain ⟨a, b⟩ := ab
    rw [hr] at hf
    obtain ⟨g, g', x, x', _, k1, k2, k3, k4, k5, k6, k7, _, _⟩ := hf
    rw [Nat.sub_zero] at k1 k2
    obtain ⟨e1, l1⟩ := list_split k1
    obtain ⟨e2, l2⟩ := list_split k2
    obtain ⟨e3, l3⟩ := list_split k3
    obtain ⟨e4, l4⟩ := list_split k4
    refine .inr ⟨a, b, _, g, _, _, g', _, _, x, _, _, x', _, rfl, k7, k2, k4, k5, List.mem_of_getElem? k1, List.mem_of_getElem? k3, e1, e2, ?_, ?_, k6, e3, e4, by omega⟩
    · rw [List.map_take, List.map_take, h.same]
    · rw [List.map_drop, List.map_drop, h.same]

theorem bb_true {VL : Int} (h : 0 ≤ VL ∧ VL ≤ 100000) : (decide (0 ≤ VL) && decide (VL ≤ 100000)) = true := by simpa using h
theorem bb_iff {VL : Int} : (decide (0 ≤ VL) && decide (VL ≤ 100000)) = true ↔ (0 ≤ VL ∧ VL ≤ 100000) := by simp

/-- Both refuse to write, with the same error; or both write. -/
theorem PairOk.setCases (h : PairOk u others G) {D : Ch} (hin : In D p G.hp) (rin : RIn D q G.hr) (N L i VL : Int) :
    (∃ err : Int, WordErr D (ptrN G.hp.id) N L i (decide (0 ≤ VL) && decide (VL ≤ 100000)) err ∧ RSetErr D (ptrN G.hr.id) N L i VL err) ∨
    (1 ≤ L ∧ 0 ≤ VL ∧ VL ≤ 100000 ∧ ∃ n : Nat, i = n ∧ ∃ a b A g B A' g' B' X x Y X' x' Y', rfind N L G.hr.regs 0 = some (a, b) ∧ pfind N L G.hp.regs = some x ∧ G.hr.regs[a]? = some g' ∧ g'.objs[b]? = some x' ∧ x.b = x'.b ∧ g ∈ G.hp.regs ∧ x ∈ g.objs ∧
      G.hp.regs = A ++ g :: B ∧ G.hr.regs = A' ++ g' :: B' ∧ A.map PReg.m = A'.map RReg.m ∧ B.map PReg.m = B'.map RReg.m ∧ g.m = g'.m ∧ g.objs = X ++ x :: Y ∧ g'.objs = X' ++ x' :: Y' ∧ X.length = X'.length ∧ n < x.b.ws.length ∧ x.b.ws.length ≤ 31) := by
  by_cases hL : 1 ≤ L
  · by_cases hv : 0 ≤ VL ∧ VL ≤ 100000
    · rcases h.find (N := N) hL with ⟨h1, h2⟩ | ⟨a, b, A, g, B, A', g', B', X, x, Y, X', x', Y', k1, k2, k3, k4, k5, k6, k7, k8⟩
      · exact .inl ⟨80, .inl (.inr ⟨G.hp, p, rfl, hin, h.pne, h.plen, h.pok, .inr ⟨rfl, by omega, bb_true hv, h2⟩⟩), .inr ⟨G.hr, q, rfl, rin, h.rne, h.rlen, h.rol', .inr ⟨hL, hv.1, hv.2, .inl ⟨rfl, h1⟩⟩⟩⟩
      · have hws := (h.inv.reg g.m (List.mem_map.2 ⟨g, k6, rfl⟩)).ws x.b (List.mem_map.2 ⟨x, k7, rfl⟩)
        by_cases hi : 0 ≤ i ∧ i < x.b.ws.length
        · exact .inr ⟨hL, hv.1, hv.2, i.toNat, by omega, a, b, A, g, B, A', g', B', X, x, Y, X', x', Y', k1, k2, k3, k4, k5, k6, k7, k8.1, k8.2.1, k8.2.2.1, k8.2.2.2.1, k8.2.2.2.2.1, k8.2.2.2.2.2.1, k8.2.2.2.2.2.2.1, k8.2.2.2.2.2.2.2, by omega, hws.2.1⟩
        · refine .inl ⟨2, .inr ⟨rfl, bb_true hv, by omega, G.hp, p, x, rfl, hin, h.pne, h.plen, h.pok, k2, hws.2.1, List.length_pos_iff.1 (by omega), hi⟩, .inr ⟨G.hr, q, rfl, rin, h.rne, h.rlen, h.rol', .inr ⟨hL, hv.1, hv.2, .inr ⟨rfl, a, b, g', x', k1, k3, k4, by rw [← k5]; exact hi⟩⟩⟩⟩
    · exact .inl ⟨2, .inl (.inr ⟨G.hp, p, rfl, hin, h.pne, h.plen, h.pok, .inl ⟨rfl, fun k => hv (bb_iff.1 k.2)⟩⟩), .inr ⟨G.hr, q, rfl, rin, h.rne, h.rlen, h.rol', .inl ⟨rfl, fun k => hv k.2⟩⟩⟩
  · exact .inl ⟨2, .inl (.inr ⟨G.hp, p, rfl, hin, h.pne, h.plen, h.pok, .inl ⟨rfl, fun k => hL (by omega)⟩⟩), .inr ⟨G.hr, q, rfl, rin, h.rne, h.rlen, h.rol', .inl ⟨rfl, fun k => hL k.1⟩⟩⟩

theorem do_set (x : ActG) (hd : intI .rem .u8 x.d 8 = some (.int .u8 4)) (h : PairOk u others G) (H : Holds o s (World p r q t u G F))
    (k : ∀ s' u' G', Next others u G u' G' → Holds o s' (World p r q t u' G' F) → Q (.bool true) s') : WP (call PF 26 [ptrN G.id, .agg x.cells] s) Q := by
  have h1 := H.alloc (.cells x.cells none)
  have hin := World.in_ (p := p) (r := r) (q := q) (t := t) (u := u) (G := G) (F := F)
  have rin := World.rin (p := p) (r := r) (q := q) (t := t) (u := u) (G := G) (F := F)
  have hpl := h.plen
  have hrl := h.rlen
  rw [call_run F26]; simp -implicitDefEqProofs only [↓GP, GB, GL, Nat.reduceAdd, Nat.reduceSub, Nat.reduceEqDiff, Nat.reduceMul, Nat.reduceLeDiff, Int.reduceBNe, Int.reduceBEq, Nat.reduceLT, reduceCtorEq, c26, hd, Int.reduceBEq]
  refine wp_in (s64 h1 (List.mem_cons_of_mem _ World.id) (List.mem_cons_of_mem _ World.wk) x fun s1 h2 => ?_)
  generalize wordG G.ws x = w
  have f2 := h2.f1
  have fG := h2.tl.mem World.id
  simp only [PairG.hd] at fG
  have h3 := (h2.alloc (.cells [I 0, I 0] none)).set0 (.cells [I w.1, I w.2] none)
  simp -implicitDefEqProofs only [↓GP, GB, GL, Nat.reduceAdd, Nat.reduceSub, Nat.reduceEqDiff, Nat.reduceMul, Nat.reduceLeDiff, Int.reduceBNe, Int.reduceBEq, Nat.reduceLT, reduceCtorEq, f2, fG, encW]
  generalize (s1.alloc (.cells [I 0, I 0] none)).set s1.next (.cells [I w.1, I w.2] none) = S at h3 ⊢
  rcases h.setCases ((hin.cons (s.next, some (.cells x.cells none))).cons (s1.next, some (.cells [I w.1, I w.2] none))) ((rin.cons (s.next, some (.cells x.cells none))).cons (s1.next, some (.cells [I w.1, I w.2] none))) w.1 w.2 x.a x.v.2 with
    ⟨err, e1, e2⟩ | ⟨hL, hv1, hv2, n, hn, a, b, A, g, B, A', g', B', X, y, Y, X', y', Y', k1, k2, k3, k4, k5, k6, k7, k8, k9, k10, k11, k12, k13, k14, k15, k16, k17⟩
  · refine wp_in (s65_err (VN := x.v.1) h3 e1 fun s2 h4 => ?_)
    have f4 := h4.f2
    have fG4 := h4.tl.tl.mem World.id
    simp only [PairG.hd] at fG4
    simp -implicitDefEqProofs only [↓GP, GB, GL, Nat.reduceAdd, Nat.reduceSub, Nat.reduceEqDiff, Nat.reduceMul, Nat.reduceLeDiff, Int.reduceBNe, Int.reduceBEq, Nat.reduceLT, reduceCtorEq, f4, fG4]
    refine wp_in (s66_err h4 e2 fun s3 h5 => ?_)
    have hbe : (err == err) = true := by simp
    simp -implicitDefEqProofs only [↓GP, GB, GL, Nat.reduceAdd, Nat.reduceSub, Nat.reduceEqDiff, Nat.reduceMul, Nat.reduceLeDiff, Int.reduceBNe, Int.reduceBEq, Nat.reduceLT, reduceCtorEq, hbe]
    exact k _ u G h.nx h5.tl.tl
  · rw [hn]
    have hin2 := (hin.cons (s.next, some (.cells x.cells none))).cons (s1.next, some (.cells [I w.1, I w.2] none))
    refine wp_in (s65 (w := x.v) (F := (s1.next, some (.cells [I w.1, I w.2] none)) :: (s.next, some (.cells x.cells none)) :: (y.id, some y.O) :: (g.id, some g.hd) :: (g.pgk, pagesO g.pages) :: (g.obk, PReg.obO g.objs) :: (g.plk, some g.pl) :: (X.flatMap PObj.ch ++ (Y.flatMap PObj.ch ++ ((G.hp.id, some (G.hp.hd p)) :: (G.hp.rowk, G.hp.row) :: (A.flatMap PReg.ch ++ (B.flatMap PReg.ch ++ (poolC p r u ++ (poolC q t u ++ (G.pc ++ (G.hr.ch q ++ F)))))))))) h3 hin2 h.pne h.plen h.pok (by omega) ⟨hv1, hv2⟩ k2 k16 k17 (fun s1 h => (Holds.of (h) (fun k => by simp +arith only [k8, k13, HA, HB]) (fun k x => by simp only [k8, k13, HA, HC]; grind only))) fun s2 h4 => ?_)
    have h5 : Holds o s2 ((s1.next, some (.cells [I w.1, I w.2] none)) :: (s.next, some (.cells x.cells none)) :: (G.id, some (.cells [ptrN G.hp.id, ptrN G.hr.id, rowV G.wk G.ws.length] none)) :: (G.hr.ch q ++ ((G.wk, rowO 2 G.ws.length (G.ws.flatMap encW)) :: (poolC p r u ++ (poolC q t u ++ (PHeap.ch p { G.hp with regs := A ++ { g with objs := X ++ y.write n x.v :: Y } :: B } ++ F)))))) :=
      (Holds.of (h4) (fun k => by simp +arith only [PObj.write, PReg.hd, PReg.obO, PObj.O, PObj.W, PHeap.hd, PHeap.row, k8, k13, List.length_append, List.length_cons, List.map_append, List.map_cons, List.length_set, HA, HB]) (fun k x => by simp only [PObj.write, PReg.hd, PReg.obO, PObj.O, PObj.W, PHeap.hd, PHeap.row, k8, k13, List.length_append, List.length_cons, List.map_append, List.map_cons, List.length_set, HA, HC]; grind only))
    have f5 := h5.f3
    simp only [ActG.cells, hn] at f5
    simp -implicitDefEqProofs only [↓GP, GB, GL, Nat.reduceAdd, Nat.reduceSub, Nat.reduceEqDiff, Nat.reduceMul, Nat.reduceLeDiff, Int.reduceBNe, Int.reduceBEq, Nat.reduceLT, reduceCtorEq, f5]
    have rin5 : RIn ((s1.next, some (.cells [I w.1, I w.2] none)) :: (s.next, some (.cells x.cells none)) :: (G.id, some (.cells [ptrN G.hp.id, ptrN G.hr.id, rowV G.wk G.ws.length] none)) :: (G.hr.ch q ++ ((G.wk, rowO 2 G.ws.length (G.ws.flatMap encW)) :: (poolC p r u ++ (poolC q t u ++ (PHeap.ch p { G.hp with regs := A ++ { g with objs := X ++ y.write n x.v :: Y } :: B } ++ F)))))) q G.hr :=
      ⟨fun z hz => List.mem_cons_of_mem _ (List.mem_cons_of_mem _ (List.mem_cons_of_mem _ (List.mem_append_left _ hz)))⟩
    refine wp_in (s66 (w := x.v) (p := q) (F := (g'.pgk, pagesO g'.pages) :: (g'.obk, RReg.obO g'.objs) :: (X'.flatMap RObj.ch ++ (Y'.flatMap RObj.ch ++ ((G.hr.id, some (G.hr.hd q)) :: (G.hr.rowk, some G.hr.row) :: (A'.flatMap RReg.ch ++ (B'.flatMap RReg.ch ++ ((G.id, some (.cells [ptrN G.hp.id, ptrN G.hr.id, rowV G.wk G.ws.length] none)) :: (G.wk, rowO 2 G.ws.length (G.ws.flatMap encW)) :: (poolC p r u ++ (poolC q t u ++ (PHeap.ch p { G.hp with regs := A ++ { g with objs := X ++ y.write n x.v :: Y } :: B } ++ F)))))))))) h5 rin5 h.rne h.rlen h.rol' hL ⟨hv1, hv2⟩ k1 k3 k4 (by rw [← k5]; exact k16) (fun s1 h => (Holds.of (h) (fun k => by simp +arith only [k9, k14, HA, HB]) (fun k x => by simp only [k9, k14, HA, HC]; grind only))) fun s3 h6 => ?_)
    simp -implicitDefEqProofs only [↓GP, GB, GL, Nat.reduceAdd, Nat.reduceSub, Nat.reduceEqDiff, Nat.reduceMul, Nat.reduceLeDiff, Int.reduceBNe, Int.reduceBEq, Nat.reduceLT, reduceCtorEq, Int.reduceBEq]
    refine k _ u { G with hp := { G.hp with regs := A ++ { g with objs := X ++ y.write n x.v :: Y } :: B }, hr := { G.hr with regs := A' ++ { g' with objs := X' ++ y'.write n x.v :: Y' } :: B' } } ⟨rfl, rfl, rfl, h.write k8 k9 k10 k11 k12 k13 k14 k15 n x.v, rfl, by simp, by simp⟩ ?_
    exact (Holds.of (h6) (fun k => by simp +arith only [RObj.write, RReg.obO, RHeap.hd, RHeap.rv, RHeap.row, RReg.enc, RObj.enc, k9, k14, List.length_append, List.length_cons, List.flatMap_append, List.flatMap_cons, List.length_set, HA, HB]) (fun k x => by simp only [RObj.write, RReg.obO, RHeap.hd, RHeap.rv, RHeap.row, RReg.enc, RObj.enc, k9, k14, List.length_append, List.length_cons, List.flatMap_append, List.flatMap_cons, List.length_set, HA, HC]; grind only))

/-- Both read the same word, or refuse with the same error. -/
theorem PairOk.get (h : PairOk u others G) (p q : Nat) (o : Nat → Option O) (N L i : Int) :
    ∃ (w : Int × Int) (err : Int), ∀ D : Ch, In D p G.hp → RIn D q G.hr → (∀ s, Holds o s D → ∀ Q, (∀ s', Holds o s' D → Q (.tuple [.agg [I w.1, I w.2], I err]) s') → WP (call PF 67 [ptrN G.hp.id, .agg [I N, I L], I i] s) Q) ∧
      (∀ s, Holds o s D → ∀ Q, (∀ s', Holds o s' D → Q (.tuple [.agg [I w.1, I w.2], I err]) s') → WP (call PF 68 [ptrN G.hr.id, .agg [I N, I L], I i] s) Q) := by
  by_cases hL : 1 ≤ L
  · rcases h.find (N := N) hL with ⟨h1, h2⟩ | ⟨a, b, A, g, B, A', g', B', X, x, Y, X', x', Y', k1, k2, k3, k4, k5, k6, k7, k8⟩
    · exact ⟨(0, 0), 80, fun D hin rin => ⟨fun s hs Q q => s67_err hs (.inl (.inr ⟨G.hp, p, rfl, hin, h.pne, h.plen, h.pok, .inr ⟨rfl, by omega, rfl, h2⟩⟩)) q, fun s hs Q q' => s68_err hs (.inl (.inr ⟨G.hr, q, rfl, rin, h.rne, h.rlen, h.rol', .inr ⟨rfl, by omega, h1⟩⟩)) q'⟩⟩
    · have hws := (h.inv.reg g.m (List.mem_map.2 ⟨g, k6, rfl⟩)).ws x.b (List.mem_map.2 ⟨x, k7, rfl⟩)
      by_cases hi : 0 ≤ i ∧ i < x.b.ws.length
      · obtain ⟨n, hn⟩ : ∃ n : Nat, i = n := ⟨i.toNat, by omega⟩
        subst hn
        have hlt : n < x.b.ws.length := by omega
        refine ⟨x.b.ws[n], 0, fun D hin rin => ⟨fun s hs Q q => s67 (w := x.b.ws[n]) hs hin h.pne h.plen h.pok (by omega) k2 (by simp [hlt]) hws.2.1 q, fun s hs Q q' => s68 (w := x.b.ws[n]) hs rin h.rne h.rlen h.rol' (by omega) k1 k3 k4 (by rw [← k5]; simp [hlt]) q'⟩⟩
      · exact ⟨(0, 0), 2, fun D hin rin => ⟨fun s hs Q q => s67_err hs (.inr ⟨rfl, rfl, by omega, G.hp, p, x, rfl, hin, h.pne, h.plen, h.pok, k2, hws.2.1, List.length_pos_iff.1 (by omega), hi⟩) q,
          fun s hs Q q' => s68_err hs (.inr ⟨rfl, by omega, G.hr, q, a, b, g', x', rfl, rin, h.rne, h.rlen, h.rol', k1, k3, k4, by rw [← k5]; exact hi⟩) q'⟩⟩
  · exact ⟨(0, 0), 2, fun D hin rin => ⟨fun s hs Q q => s67_err hs (.inl (.inr ⟨G.hp, p, rfl, hin, h.pne, h.plen, h.pok, .inl ⟨rfl, fun k => hL (by omega)⟩⟩)) q, fun s hs Q q' => s68_err hs (.inl (.inr ⟨G.hr, q, rfl, rin, h.rne, h.rlen, h.rol', .inl ⟨rfl, by omega⟩⟩)) q'⟩⟩
theorem PairOk.head (h : PairOk u others G) (p q : Nat) (o : Nat → Option O) (N L : Int) :
    ∃ kd n err : Int, ∀ D : Ch, In D p G.hp → RIn D q G.hr → (∀ s, Holds o s D → ∀ Q, (∀ s', Holds o s' D → Q (.tuple [I kd, I n, I err]) s') → WP (call PF 30 [ptrN G.hp.id, .agg [I N, I L]] s) Q) ∧
      (∀ s, Holds o s D → ∀ Q, (∀ s', Holds o s' D → Q (.tuple [I kd, I n, I err]) s') → WP (call PF 69 [ptrN G.hr.id, .agg [I N, I L]] s) Q) := by
  by_cases hL : 1 ≤ L
  · rcases h.find (N := N) hL with ⟨h1, h2⟩ | ⟨a, b, A, g, B, A', g', B', X, x, Y, X', x', Y', k1, k2, k3, k4, k5, k6, k7, k8⟩
    · exact ⟨0, 0, 80, fun D hin rin => ⟨fun s hs Q q => s30_err hs (.inr ⟨G.hp, p, rfl, hin, h.pne, h.plen, h.pok, .inr ⟨rfl, by omega, rfl, h2⟩⟩) q, fun s hs Q q' => s69_err hs (.inr ⟨G.hr, q, rfl, rin, h.rne, h.rlen, h.rol', .inr ⟨rfl, by omega, h1⟩⟩) q'⟩⟩
    · refine ⟨x.b.kind, x.b.ws.length, 0, fun D hin rin => ⟨fun s hs Q q => s30 hs hin h.pne h.plen h.pok (by omega) k2 q, fun s hs Q q' => s69 hs rin h.rne h.rlen h.rol' (by omega) k1 k3 k4 ?_⟩⟩
      rw [← k5]; exact q'
  · exact ⟨0, 0, 2, fun D hin rin => ⟨fun s hs Q q => s30_err hs (.inr ⟨G.hp, p, rfl, hin, h.pne, h.plen, h.pok, .inl ⟨rfl, fun k => hL (by omega)⟩⟩) q, fun s hs Q q' => s69_err hs (.inr ⟨G.hr, q, rfl, rin, h.rne, h.rlen, h.rol', .inl ⟨rfl, by omega⟩⟩) q'⟩⟩

theorem beq_refl_int (a : Int) : (a == a) = true := by simp
theorem do_get (x : ActG) (hd : intI .rem .u8 x.d 8 = some (.int .u8 5)) (h : PairOk u others G) (H : Holds o s (World p r q t u G F))
    (k : ∀ s', Holds o s' (World p r q t u G F) → Q (.bool true) s') : WP (call PF 26 [ptrN G.id, .agg x.cells] s) Q := by
  have h1 := H.alloc (.cells x.cells none)
  have hin := World.in_ (p := p) (r := r) (q := q) (t := t) (u := u) (G := G) (F := F)
  have rin := World.rin (p := p) (r := r) (q := q) (t := t) (u := u) (G := G) (F := F)
  rw [call_run F26]; simp -implicitDefEqProofs only [↓GP, GB, GL, Nat.reduceAdd, Nat.reduceSub, Nat.reduceEqDiff, Nat.reduceMul, Nat.reduceLeDiff, Int.reduceBNe, Int.reduceBEq, Nat.reduceLT, reduceCtorEq, c26, hd, Int.reduceBEq]
  refine wp_in (s64 h1 (List.mem_cons_of_mem _ World.id) (List.mem_cons_of_mem _ World.wk) x fun s1 h2 => ?_)
  generalize wordG G.ws x = w
  have f2 := h2.f1
  have fG := h2.tl.mem World.id
  simp only [PairG.hd] at fG
  have h3 := ((h2.alloc (.cells [I 0, I 0] none)).set0 (.cells [I w.1, I w.2] none)).alloc (.cells [I 0, I 0] none)
  simp only [set_next, alloc_next] at h3
  simp -implicitDefEqProofs only [↓GP, GB, GL, Nat.reduceAdd, Nat.reduceSub, Nat.reduceEqDiff, Nat.reduceMul, Nat.reduceLeDiff, Int.reduceBNe, Int.reduceBEq, Nat.reduceLT, reduceCtorEq, f2, fG, encW]
  generalize ((s1.alloc (.cells [I 0, I 0] none)).set s1.next (.cells [I w.1, I w.2] none)).alloc (.cells [I 0, I 0] none) = S at h3 ⊢
  obtain ⟨v, err, hget⟩ := h.get p q o w.1 w.2 x.a
  obtain ⟨kd, n, err2, hhead⟩ := h.head p q o w.1 w.2
  refine wp_in ((hget _ (((hin.cons (s.next, some (.cells x.cells none))).cons (s1.next, some (.cells [I w.1, I w.2] none))).cons (s1.next + 1, some (.cells [I 0, I 0] none))) (((rin.cons (s.next, some (.cells x.cells none))).cons (s1.next, some (.cells [I w.1, I w.2] none))).cons (s1.next + 1, some (.cells [I 0, I 0] none)))).1 S h3 _ fun s2 h4 => ?_)
  have f4 := h4.f3
  have fG4 := h4.tl.tl.tl.mem World.id
  simp only [PairG.hd] at fG4
  have ne4 := h4.ne (b := G.id) (Holds.ids_mem.2 ⟨_, List.mem_cons_of_mem _ (List.mem_cons_of_mem _ World.id)⟩)
  simp -implicitDefEqProofs only [↓GP, GB, GL, Nat.reduceAdd, Nat.reduceSub, Nat.reduceEqDiff, Nat.reduceMul, Nat.reduceLeDiff, Int.reduceBNe, Int.reduceBEq, Nat.reduceLT, reduceCtorEq, f4, fG4, ne4]
  have h5 := (h4.set0 (.cells [I v.1, I v.2] none)).alloc (.cells [I 0, I 0] none)
  simp only [set_next, alloc_next] at h5
  generalize (s2.set (s1.next + 1) (.cells [I v.1, I v.2] none)).alloc (.cells [I 0, I 0] none) = S2 at h5 ⊢
  have hin5 := (((hin.cons (s.next, some (.cells x.cells none))).cons (s1.next, some (.cells [I w.1, I w.2] none))).cons (s1.next + 1, some (.cells [I v.1, I v.2] none)))
  have rin5 := (((rin.cons (s.next, some (.cells x.cells none))).cons (s1.next, some (.cells [I w.1, I w.2] none))).cons (s1.next + 1, some (.cells [I v.1, I v.2] none)))
  refine wp_in ((hget _ (hin5.cons (s2.next, some (.cells [I 0, I 0] none))) (rin5.cons (s2.next, some (.cells [I 0, I 0] none)))).2 S2 h5 _ fun s3 h6 => ?_)
  have f6 := h6.f3
  have fG6 := h6.tl.tl.tl.tl.mem World.id
  simp only [PairG.hd] at fG6
  have ne6 := h6.ne (b := G.id) (Holds.ids_mem.2 ⟨_, List.mem_cons_of_mem _ (List.mem_cons_of_mem _ (List.mem_cons_of_mem _ World.id))⟩)
  simp -implicitDefEqProofs only [↓GP, GB, GL, Nat.reduceAdd, Nat.reduceSub, Nat.reduceEqDiff, Nat.reduceMul, Nat.reduceLeDiff, Int.reduceBNe, Int.reduceBEq, Nat.reduceLT, reduceCtorEq, f6, fG6, ne6]
  have h7 := h6.set0 (.cells [I v.1, I v.2] none)
  have hin7 := hin5.cons (s2.next, some (.cells [I v.1, I v.2] none))
  have rin7 := rin5.cons (s2.next, some (.cells [I v.1, I v.2] none))
  refine wp_in ((hhead _ hin7 rin7).1 _ h7 _ fun s4 h8 => ?_)
  have f8 := h8.f3
  have fG8 := h8.tl.tl.tl.tl.mem World.id
  simp only [PairG.hd] at fG8
  simp -implicitDefEqProofs only [↓GP, GB, GL, Nat.reduceAdd, Nat.reduceSub, Nat.reduceEqDiff, Nat.reduceMul, Nat.reduceLeDiff, Int.reduceBNe, Int.reduceBEq, Nat.reduceLT, reduceCtorEq, f8, fG8]
  refine wp_in ((hhead _ hin7 rin7).2 _ h8 _ fun s5 h9 => ?_)
  have f9 := h9.f2
  simp -implicitDefEqProofs only [↓GP, GB, GL, Nat.reduceAdd, Nat.reduceSub, Nat.reduceEqDiff, Nat.reduceMul, Nat.reduceLeDiff, Int.reduceBNe, Int.reduceBEq, Nat.reduceLT, reduceCtorEq, f9, words_eq, beq_refl_int]
  exact k _ h9.tl.tl.tl.tl
end
end Go.Proofs.Ytoldkemimhebaaa
