/- Layer 15: several pairs on two pools. -/
import Derived.Test.YtoldkemimhebaaaPgL
set_option linter.unusedSimpArgs false
set_option linter.unusedVariables false
namespace Go.Proofs.Ytoldkemimhebaaa
open Go Go.IM

/-- A pair, or what is left of one that was dropped. -/
inductive PSt where
  | live (G : PairG)
  | dead (id wk hid rid : Nat) (c d : V) (ws : List (Int × Int))
namespace PSt
def ch (p q : Nat) : PSt → Ch
  | live G => G.ch p q
  | dead id wk hid rid c d ws => [(id, some (.cells [ptrN hid, ptrN rid, rowV wk ws.length] none)), (wk, rowO 2 ws.length (ws.flatMap encW)), (hid, some (.cells [.ptr none, .slice none 0 (some 0), c] none)), (rid, some (.cells [ptrN q, .slice none 0 (some 0), d] none))]
def pages : PSt → List Nat
  | live G => (G.hp.regs.map PReg.m).flatMap (·.pages)
  | dead .. => []
def pid : PSt → Nat
  | live G => G.id
  | dead id _ _ _ _ _ _ => id
def hid : PSt → Nat
  | live G => G.hp.id
  | dead _ _ h _ _ _ _ => h
def rid : PSt → Nat
  | live G => G.hr.id
  | dead _ _ _ h _ _ _ => h
def wk : PSt → Nat
  | live G => G.wk
  | dead _ k _ _ _ _ _ => k
def ws : PSt → List (Int × Int)
  | live G => G.ws
  | dead _ _ _ _ _ _ w => w
end PSt
def HW (p r q t : Nat) (u : List Bool) (L : List PSt) (F : Ch) : Ch := poolC p r u ++ (poolC q t u ++ (L.flatMap (PSt.ch p q) ++ F))

/-- What a pair is by itself. -/
structure Lv (G : PairG) : Prop where
  lives : G.hp.lives = G.hr.lives
  same : G.hp.regs.map PReg.m = G.hr.regs.map RReg.m
  inv : HInv G.hp.lives (G.hp.regs.map PReg.m)
  pok : ∀ g ∈ G.hp.regs, g.ok
  grown : RGrown G.hr
  one : G.hr.grown = false → G.hr.regs.length = 1
theorem PairOk.lv {u : List Bool} {others : List Nat} {G : PairG} (h : PairOk u others G) : Lv G := ⟨h.lives, h.same, h.inv, h.pok, h.grown, h.one⟩
theorem Lv.ok {u : List Bool} {others : List Nat} {G : PairG} (h : Lv G) (hu : u.length ≤ 30) (hp : PoolInv u ((PSt.live G).pages ++ others)) : PairOk u others G := ⟨hu, h.lives, h.same, h.inv, hp, h.pok, h.grown, h.one⟩
structure HsOk (u : List Bool) (L : List PSt) (n : Nat) : Prop where
  ulen : u.length ≤ 30
  pool : PoolInv u (L.flatMap PSt.pages)
  lv : ∀ G, PSt.live G ∈ L → Lv G
  wl : ∀ x ∈ L, x.ws.length ≤ 1000 * n
theorem HsOk.mono {u : List Bool} {L : List PSt} {n m : Nat} (h : HsOk u L n) (hm : n ≤ m) : HsOk u L m := ⟨h.ulen, h.pool, h.lv, fun x hx => by have := h.wl x hx; omega⟩
theorem HsOk.at_ {u : List Bool} {L A B : List PSt} {n : Nat} {G : PairG} (h : HsOk u L n) (hL : L = A ++ .live G :: B) : PairOk u (A.flatMap PSt.pages ++ B.flatMap PSt.pages) G := by
  refine (h.lv G (by rw [hL]; simp)).ok h.ulen (h.pool.perm ?_)
  rw [hL]
  simp only [List.flatMap_append, List.flatMap_cons]
  exact List.perm_append_comm_assoc _ _ _
theorem HsOk.repl {u u' : List Bool} {L A B : List PSt} {n m : Nat} {x y : PSt} (h : HsOk u L n) (hL : L = A ++ x :: B) (hu : u'.length ≤ 30) (hp : PoolInv u' (y.pages ++ (A.flatMap PSt.pages ++ B.flatMap PSt.pages))) (hy : ∀ G, y = .live G → Lv G) (hw : y.ws.length ≤ 1000 * m) (hm : n ≤ m) : HsOk u' (A ++ y :: B) m where
  ulen := hu
  pool := hp.perm (by simp only [List.flatMap_append, List.flatMap_cons]; exact (List.perm_append_comm_assoc _ _ _).symm)
  lv := fun G hG => by
    simp only [List.mem_append, List.mem_cons] at hG
    rcases hG with hG | hG | hG
    · exact h.lv G (by rw [hL]; simp [hG])
    · exact hy G hG.symm
    · exact h.lv G (by rw [hL]; simp [hG])
  wl := fun z hz => by
    simp only [List.mem_append, List.mem_cons] at hz
    rcases hz with hz | rfl | hz
    · have := h.wl z (by rw [hL]; simp [hz]); omega
    · exact hw
    · have := h.wl z (by rw [hL]; simp [hz]); omega

section
variable {o : Nat → Option O} {s : St} {C F : Ch} {Q : V → St → Prop} {p r q t : Nat} {u : List Bool} {L : List PSt}
set_option maxRecDepth 10000
set_option maxHeartbeats 4000000

theorem HW.mem {x : PSt} (hx : x ∈ L) {y : Nat × Option O} (hy : y ∈ x.ch p q) : y ∈ HW p r q t u L F := by
  simp only [HW, List.mem_append, List.mem_flatMap]; exact .inr (.inr (.inl ⟨x, hx, hy⟩))
theorem HW.fr {y : Nat × Option O} (hy : y ∈ F) : y ∈ HW p r q t u L F := by
  simp only [HW, List.mem_append]; exact .inr (.inr (.inr hy))
theorem HW.id {x : PSt} (hx : x ∈ L) : (x.pid, some (.cells [ptrN x.hid, ptrN x.rid, rowV x.wk x.ws.length] none)) ∈ HW p r q t u L F := by
  refine HW.mem hx ?_
  cases x with
  | live G => simp [PSt.ch, PairG.ch, PairG.pc, PairG.hd, PSt.pid, PSt.hid, PSt.rid, PSt.wk, PSt.ws]
  | dead id wk hid rid c d ws => simp [PSt.ch, PSt.pid, PSt.hid, PSt.rid, PSt.wk, PSt.ws]
theorem HW.in_ {G : PairG} (hx : PSt.live G ∈ L) : In (HW p r q t u L F) p G.hp := ⟨fun y hy => HW.mem hx (by simp [PSt.ch, PairG.ch, hy])⟩
theorem HW.rin {G : PairG} (hx : PSt.live G ∈ L) : RIn (HW p r q t u L F) q G.hr := ⟨fun y hy => HW.mem hx (by simp [PSt.ch, PairG.ch, hy])⟩
theorem HW.gone {id wk hid rid : Nat} {c d : V} {ws : List (Int × Int)} (hx : PSt.dead id wk hid rid c d ws ∈ L) : GoneP (HW p r q t u L F) id wk (ptrN hid) (ptrN rid) ws :=
  ⟨.inr ⟨hid, .slice none 0 (some 0), c, rfl, HW.mem hx (by simp [PSt.ch])⟩, .inr ⟨rid, ptrN q, d, rfl, HW.mem hx (by simp [PSt.ch])⟩, HW.mem hx (by simp [PSt.ch]), HW.mem hx (by simp [PSt.ch])⟩
theorem mem_split {x : PSt} (h : x ∈ L) : ∃ A B, L = A ++ x :: B := List.append_of_mem h

/-- What a heap has in use. -/
theorem hs_inuse {n : Nat} (h : HsOk u L n) (H : Holds o s (HW p r q t u L F)) {x : PSt} (hx : x ∈ L) : call PF 36 [ptrN x.hid] s = some (I x.pages.length, s) := by
  cases x with
  | live G =>
    obtain ⟨A, B, hL⟩ := mem_split hx
    have ok := h.at_ hL
    have e := s36 H (HW.in_ hx) ok.pne ok.plen (fun g hg => by have := (ok.okp hg).2.1; simp only [PReg.m] at this; omega)
    have e2 : inUseM (G.hp.regs.map (·.pages)) = (PSt.live G).pages.length := by
      simp only [inUseM, PSt.pages, List.length_flatMap, List.map_map]; rfl
    rw [e2] at e
    exact e
  | dead id wk hid rid c d ws => exact s36_gone H (HW.gone hx).g
theorem hs_is {n : Nat} (h : HsOk u L n) (H : Holds o s (HW p r q t u L F)) {x : PSt} (hx : x ∈ L) (q1 : ∀ s', Holds o s' (HW p r q t u L F) → Q (.bool true) s') : WP (call PF 38 [ptrN x.pid] s) Q := by
  cases x with
  | live G =>
    obtain ⟨A, B, hL⟩ := mem_split hx
    exact pair_is (h.at_ hL) (HW.in_ hx) (HW.rin hx) (HW.mem hx (by simp [PSt.ch, PairG.ch, PairG.pc])) H q1
  | dead id wk hid rid c d ws =>
    have g := HW.gone (p := p) (r := r) (q := q) (t := t) (u := u) (F := F) hx
    exact gone_is g.g g.g' g.mid H q1

/-- An act on one of the pairs. -/
theorem hs_act {n : Nat} {bs : List Bool} (a : ActG) (hd : 0 ≤ a.d) (hS : SomeAt o a bs) (h : HsOk u L n) (hn : n ≤ 150) (H : Holds o s (HW p r q t u L F)) {x : PSt} (hx : x ∈ L)
    (k : ∀ s' u' L', HsOk u' L' (n + 1) → L'.map PSt.pid = L.map PSt.pid → u'.length = u.length → Holds o s' (HW p r q t u' L' F) → Q (.bool true) s') : WP (call PF 26 [ptrN x.pid, .agg a.cells] s) Q := by
  cases x with
  | live G =>
    obtain ⟨A, B, hL⟩ := mem_split hx
    have ok := h.at_ hL
    have hw := h.wl _ hx
    refine s26 (p := p) (r := r) (q := q) (t := t) (G := G) (F := A.flatMap (PSt.ch p q) ++ (B.flatMap (PSt.ch p q) ++ F)) a hd hS ok (by simp only [PSt.ws] at hw; omega) (Holds.of (H) (fun k => by simp +arith only [HW, hL, PSt.ch, HA, HB]) (fun k x => by simp only [HW, hL, PSt.ch, HA, HC]; grind only)) fun s1 u1 G1 n1 h1 => ?_
    have hw1 := n1.ws
    refine k s1 u1 (A ++ .live G1 :: B) (h.repl hL n1.ok.ulen n1.ok.pool (fun G' e => by cases e; exact n1.ok.lv) (by simp only [PSt.ws] at hw ⊢; omega) (by omega)) (by simp [hL, PSt.pid, n1.id]) n1.ul (Holds.of (h1) (fun k => by simp +arith only [HW, PSt.ch, HA, HB]) (fun k x => by simp only [HW, PSt.ch, HA, HC]; grind only))
  | dead id wk hid rid c d ws => exact s26_gone a hd hS (HW.gone hx) H fun s1 h1 => k s1 u L (h.mono (by omega)) rfl rfl h1

theorem s39_dead {rid : Nat} {a d : V} (H : Holds o s ((rid, some (.cells [a, .slice none 0 (some 0), d] none)) :: F)) (q1 : ∀ s', Holds o s' ((rid, some (.cells [a, .slice none 0 (some 0), d] none)) :: F) → Q (.tuple []) s') : WP (call PF 39 [ptrN rid] s) Q := by
  have e := s87_gone H (.inr ⟨rid, a, d, rfl, List.mem_cons_self ..⟩)
  rw [call_run F39]; simp -implicitDefEqProofs only [↓GP, GB, GL, Nat.reduceAdd, Nat.reduceSub, Nat.reduceEqDiff, Nat.reduceMul, Nat.reduceLeDiff, Int.reduceBNe, Int.reduceBEq, Nat.reduceLT, reduceCtorEq, c39]
  refine wp_round fun LL hLL => ?_
  simp -implicitDefEqProofs only [↓GP, GB, GL, Nat.reduceAdd, Nat.reduceSub, Nat.reduceEqDiff, Nat.reduceMul, Nat.reduceLeDiff, Int.reduceBNe, Int.reduceBEq, Nat.reduceLT, reduceCtorEq, l39_0, e, H.f1]
  exact q1 _ (H.set0 _)
theorem freeAll_inv2 {a : List Nat} : ∀ (L : List (List Nat)) {u : List Bool}, PoolInv u (L.flatMap id ++ a) → PoolInv (freeAll u L) a
  | [], u, h => h
  | b :: L, u, h => by
    rw [List.flatMap_cons, List.append_assoc] at h
    exact freeAll_inv2 L (u := freeP u b) h.free

/-- Dropping one of the pairs, both of its heaps. -/
theorem hs_drop {n : Nat} (h : HsOk u L n) (H : Holds o s (HW p r q t u L F)) {x : PSt} (hx : x ∈ L)
    (k : ∀ s1, s1.new x.pid = some (.cells [ptrN x.hid, ptrN x.rid, rowV x.wk x.ws.length] none) → (∀ y z, (y, some z) ∈ F → s1.new y = some z) → s1.old = o →
      WP (call PF 39 [ptrN x.rid] s1) (fun v2 s2 => v2 = .tuple [] ∧ ∃ u' L', HsOk u' L' n ∧ L'.map PSt.pid = L.map PSt.pid ∧ u'.length = u.length ∧ Holds o s2 (HW p r q t u' L' F)) → Q (.tuple []) s1) : WP (call PF 33 [ptrN x.hid] s) Q := by
  cases x with
  | live G =>
    obtain ⟨A, B, hL⟩ := mem_split hx
    have ok := h.at_ hL
    have hu := h.ulen
    have e1 : G.hp.regs.map (·.pages) = G.hr.regs.map (·.pages) := by
      have := congrArg (List.map Reg.pages) ok.same
      rwa [List.map_map, List.map_map] at this
    have hpg : ∀ r ∈ G.hp.regs.map PReg.m, (∀ x ∈ r.pages, x < u.length) ∧ r.pages.length ≤ 400 := fun r hr => by
      have hs : r.pages.Sublist ((G.hp.regs.map PReg.m).flatMap (·.pages) ++ (A.flatMap PSt.pages ++ B.flatMap PSt.pages)) := (sub_flatMap (fun r : Reg => r.pages) hr).trans (List.sublist_append_left _ _)
      have := ok.pool.sub_len hs
      exact ⟨fun x hx => ok.pool.lt (hs.subset hx), by omega⟩
    refine s33 (hp := G.hp) (p := p) (r := r) (u := u) (F := poolC q t u ++ (G.pc ++ (G.hr.ch q ++ (A.flatMap (PSt.ch p q) ++ (B.flatMap (PSt.ch p q) ++ F))))) (Holds.of (H) (fun k => by simp +arith only [HW, hL, PSt.ch, HA, HB]) (fun k x => by simp only [HW, hL, PSt.ch, HA, HC]; grind only)) ok.pne ok.plen (by omega) (fun g hg => hpg g.m (List.mem_map.2 ⟨g, hg, rfl⟩)) fun s1 h1 => ?_
    refine k s1 (h1.mem (by simp [PairG.pc, PairG.hd, PSt.pid, PSt.hid, PSt.rid, PSt.wk, PSt.ws])).1 (fun y z hy => (h1.mem (by simp [hy])).1) h1.old ?_
    refine s39 (hr := G.hr) (p := q) (r := t) (u := u) (F := (G.hp.id, some (.cells [.ptr none, .slice none 0 (some 0), I G.hp.lives] none)) :: (poolC p r (freeAll u (G.hp.regs.map (·.pages))) ++ (G.pc ++ (A.flatMap (PSt.ch p q) ++ (B.flatMap (PSt.ch p q) ++ F))))) (Holds.of (h1) (fun k => by simp +arith only [HA, HB]) (fun k x => by simp only [HA, HC]; grind only)) ok.rne ok.rlen (by omega) (fun g hg => hpg g.m (by rw [ok.same]; exact List.mem_map.2 ⟨g, hg, rfl⟩)) fun s2 h2 => ?_
    rw [← e1] at h2
    refine ⟨rfl, freeAll u (G.hp.regs.map (·.pages)), A ++ .dead G.id G.wk G.hp.id G.hr.id (I G.hp.lives) (I G.hr.lives) G.ws :: B, h.repl hL (by rw [freeAll_len]; exact hu) ?_ (fun G' e => by cases e) (by have := h.wl _ hx; exact this) (Nat.le_refl _), by simp [hL, PSt.pid], freeAll_len _ _, (Holds.of (h2) (fun k => by simp +arith only [HW, PSt.ch, HA, HB]) (fun k x => by simp only [HW, PSt.ch, HA, HC]; grind only))⟩
    refine freeAll_inv2 _ ?_
    have := ok.pool
    rw [List.flatMap_map] at this
    rw [List.flatMap_map]
    exact this
  | dead id wk hid rid c d ws =>
    obtain ⟨A, B, hL⟩ := mem_split hx
    have g := HW.gone (p := p) (r := r) (q := q) (t := t) (u := u) (F := F) hx
    refine ⟨_, s, s33_gone H g.g, ?_⟩
    refine k s (H.mem g.mid).1 (fun y z hy => (H.mem (HW.fr hy)).1) H.old ?_
    refine s39_dead (rid := rid) (a := ptrN q) (d := d) (F := poolC p r u ++ (poolC q t u ++ ((id, some (.cells [ptrN hid, ptrN rid, rowV wk ws.length] none)) :: (wk, rowO 2 ws.length (ws.flatMap encW)) :: (hid, some (.cells [.ptr none, .slice none 0 (some 0), c] none)) :: (A.flatMap (PSt.ch p q) ++ (B.flatMap (PSt.ch p q) ++ F))))) (Holds.of (H) (fun k => by simp +arith only [HW, hL, PSt.ch, HA, HB]) (fun k x => by simp only [HW, hL, PSt.ch, HA, HC]; grind only)) fun s2 h2 => ?_
    exact ⟨rfl, u, L, h, rfl, rfl, (Holds.of (h2) (fun k => by simp +arith only [HW, hL, PSt.ch, HA, HB]) (fun k x => by simp only [HW, hL, PSt.ch, HA, HC]; grind only))⟩

/-- New pairs. -/
theorem heaps_loop {n many : Nat} {K : Kt} (h1 : 1 ≤ n) (h2 : n ≤ 30) (hm : many ≤ 10)
    (k : ∀ s' hk' L', HsOk (List.replicate n false) L' 0 → L'.length = many → Holds o s' ((hk', rowO 1 many (L'.map fun x => ptrN x.pid)) :: HW p r q t (List.replicate n false) L' F) → WP (K (.exit 0) (sp 67 [(8, ptrN p), (10, ptrN q), (12, rowV hk' many)]) s') Q) :
    ∀ (m j hk : Nat) (s : St) (L : List PSt), j + m = many → L.length = j → HsOk (List.replicate n false) L 0 → Holds o s ((hk, rowO 1 j (L.map fun x => ptrN x.pid)) :: HW p r q t (List.replicate n false) L F) →
    WP (loop PF (.loop l25_0) (sp 67 [(1, I many), (8, ptrN p), (10, ptrN q), (12, rowV hk j), (13, I j)]) s K) Q
  | 0, j, hk, s, L, hj, hl, h, H => by
    have hlt : ¬ ((j : Int) < (many : Int)) := by omega
    have e : j = many := by omega
    subst e
    refine wp_round fun LL hLL => ?_
    simp -implicitDefEqProofs only [↓GP, GB, GL, Nat.reduceAdd, Nat.reduceSub, Nat.reduceEqDiff, Nat.reduceMul, Nat.reduceLeDiff, Int.reduceBNe, Int.reduceBEq, Nat.reduceLT, reduceCtorEq, l25_0, hlt]
    exact k s hk L h hl H
  | m + 1, j, hk, s, L, hj, hl, h, H => by
    have hlt : ((j : Int) < (many : Int)) := by omega
    have w := wrap_add1 (a := j) (by omega)
    refine wp_round fun LL hLL => ?_
    simp -implicitDefEqProofs only [↓GP, GB, GL, Nat.reduceAdd, Nat.reduceSub, Nat.reduceEqDiff, Nat.reduceMul, Nat.reduceLeDiff, Int.reduceBNe, Int.reduceBEq, Nat.reduceLT, reduceCtorEq, l25_0, hlt]
    refine wp_in (s22 (p := p) (r := r) (u := List.replicate n false) (F := (hk, rowO 1 j (L.map fun x => ptrN x.pid)) :: (poolC q t (List.replicate n false) ++ (L.flatMap (PSt.ch p q) ++ F))) (Holds.of (H) (fun k => by simp +arith only [HW, HA, HB]) (fun k x => by simp only [HW, HA, HC]; grind only)) (by simp; omega) fun s3 id rk kk m' sl H4 => ?_)
    simp -implicitDefEqProofs only [↓GP, GB, GL, Nat.reduceAdd, Nat.reduceSub, Nat.reduceEqDiff, Nat.reduceMul, Nat.reduceLeDiff, Int.reduceBNe, Int.reduceBEq, Nat.reduceLT, reduceCtorEq]
    refine wp_in (s58 (p := q) (r := t) (u := List.replicate n false) (F := (hk, rowO 1 j (L.map fun x => ptrN x.pid)) :: (poolC p r (List.replicate n false) ++ (PHeap.ch p ⟨id, rk, 1, [⟨kk, 0, 0, m', .map [] 0, 0, 1, 0, [], []⟩], sl⟩ ++ (L.flatMap (PSt.ch p q) ++ F)))) (Holds.of (H4) (fun k => by simp +arith only [HA, HB]) (fun k x => by simp only [HA, HC]; grind only)) (by simp; omega) fun s4 id' rk' H5 => ?_)
    simp -implicitDefEqProofs only [↓GP, GB, GL, Nat.reduceAdd, Nat.reduceSub, Nat.reduceEqDiff, Nat.reduceMul, Nat.reduceLeDiff, Int.reduceBNe, Int.reduceBEq, Nat.reduceLT, reduceCtorEq, Int.reduceBNe, Int.reduceBEq]
    have H6 := (H5.alloc (.cells [ptrN id, ptrN id', .slice none 0 (some 0)] none)).alloc (.cells [ptrN s4.next] none)
    refine wp_append (k := hk) (n := j) (cs := L.map fun x => ptrN x.pid) (F := (s4.next + 1, some (.cells [ptrN s4.next] none)) :: (s4.next, some (.cells [ptrN id, ptrN id', .slice none 0 (some 0)] none)) :: (poolC q t (List.replicate n false) ++ (RHeap.ch q ⟨id', rk', false, 1, [⟨0, 0, 0, 1, 0, [], []⟩], []⟩ ++ (poolC p r (List.replicate n false) ++ (PHeap.ch p ⟨id, rk, 1, [⟨kk, 0, 0, m', .map [] 0, 0, 1, 0, [], []⟩], sl⟩ ++ (L.flatMap (PSt.ch p q) ++ F))))))
      (Holds.of (H6) (fun k => by simp +arith only [HA, HB]) (fun k x => by simp only [HA, HC]; grind only)) (by simp [hl]) (new_cells' (alloc_new_same _ _) rfl) rfl rfl (by omega) (by unfold maxRow; omega) (by unfold maxRow; omega) fun hk' s5 H7 => ?_
    simp -implicitDefEqProofs only [↓GP, GB, GL, Nat.reduceAdd, Nat.reduceSub, Nat.reduceEqDiff, Nat.reduceMul, Nat.reduceLeDiff, Int.reduceBNe, Int.reduceBEq, Nat.reduceLT, reduceCtorEq, w]
    rw [hLL]
    have hnew : PairOk (List.replicate n false) [] ⟨s4.next, 0, ⟨id, rk, 1, [⟨kk, 0, 0, m', .map [] 0, 0, 1, 0, [], []⟩], sl⟩, ⟨id', rk', false, 1, [⟨0, 0, 0, 1, 0, [], []⟩], []⟩, []⟩ := PairOk.init h2
    refine heaps_loop h1 h2 hm k m (j + 1) hk' s5 (L ++ [.live ⟨s4.next, 0, ⟨id, rk, 1, [⟨kk, 0, 0, m', .map [] 0, 0, 1, 0, [], []⟩], sl⟩, ⟨id', rk', false, 1, [⟨0, 0, 0, 1, 0, [], []⟩], []⟩, []⟩]) (by omega) (by simp [hl]) ⟨h.ulen, ?_, fun G hG => ?_, fun x hx => ?_⟩ (Holds.of (H7) (fun k => by simp +arith only [HW, PSt.ch, PSt.pid, List.map_append, List.map_cons, List.map_nil, rowV_zero, rowO_zero, List.length_nil, HA, HB]) (fun k x => by simp only [HW, PSt.ch, PSt.pid, List.map_append, List.map_cons, List.map_nil, rowV_zero, rowO_zero, List.length_nil, HA, HC]; grind only))
    · have := h.pool
      simpa [List.flatMap_append, PSt.pages, PReg.m] using this
    · simp only [List.mem_append, List.mem_cons, List.not_mem_nil, or_false] at hG
      rcases hG with hG | hG
      · exact h.lv G hG
      · cases hG; exact hnew.lv
    · simp only [List.mem_append, List.mem_cons, List.not_mem_nil, or_false] at hx
      rcases hx with hx | rfl
      · exact h.wl x hx
      · simp [PSt.ws]
theorem s25_many {n many : Nat} (h1 : 1 ≤ n) (h2 : n ≤ 30) (hm : many ≤ 10) (H : Holds o s F)
    (k : ∀ s' p r q t hk L, HsOk (List.replicate n false) L 0 → L.length = many → Holds o s' ((hk, rowO 1 many (L.map fun x => ptrN x.pid)) :: HW p r q t (List.replicate n false) L F) → Q (.tuple [rowV hk many, ptrN p, ptrN q, .bool true]) s') : WP (call PF 25 [I n, I many] s) Q := by
  have e17 := s17 s (n : Int) (by omega) (by omega)
  have H1 := (H.alloc (.cells (zeros [.bool false] (n : Int).toNat) none)).alloc (.cells [slN s.next (n : Int).toNat] none)
  simp only [Int.toNat_natCast, alloc_next] at e17 H1
  generalize (s.alloc (.cells (zeros [.bool false] n) none)).alloc (.cells [slN s.next n] none) = s1 at e17 H1
  have e18 := s18 s1 (n : Int) (by omega) (by omega)
  have H2 := (H1.alloc (.cells (zeros [.bool false] (n : Int).toNat) none)).alloc (.cells [slN s1.next (n : Int).toNat] none)
  simp only [Int.toNat_natCast, alloc_next] at e18 H2
  generalize (s1.alloc (.cells (zeros [.bool false] n) none)).alloc (.cells [slN s1.next n] none) = s2 at e18 H2
  have H3 : Holds o s2 ((0, rowO 1 0 (([] : List PSt).map fun x => ptrN x.pid)) :: HW (s.next + 1) s.next (s1.next + 1) s1.next (List.replicate n false) [] F) := (Holds.of (H2.nilEntry 0) (fun k => by simp +arith only [HW, zeros_bool, List.length_replicate, rowO_zero, HA, HB]) (fun k x => by simp only [HW, zeros_bool, List.length_replicate, rowO_zero, HA, HC]; grind only))
  rw [call_run F25]; simp -implicitDefEqProofs only [↓GP, GB, GL, Nat.reduceAdd, Nat.reduceSub, Nat.reduceEqDiff, Nat.reduceMul, Nat.reduceLeDiff, Int.reduceBNe, Int.reduceBEq, Nat.reduceLT, reduceCtorEq, c25, e17, e18]
  refine heaps_loop h1 h2 hm (fun s3 hk L h hl h3 => ?_) many 0 0 s2 [] (by omega) rfl ⟨by simpa using h2, pool_init n, (fun G hG => by cases hG), (fun x hx => by cases hx)⟩ H3
  simp -implicitDefEqProofs only [↓GP, GB, GL, Nat.reduceAdd, Nat.reduceSub, Nat.reduceEqDiff, Nat.reduceMul, Nat.reduceLeDiff, Int.reduceBNe, Int.reduceBEq, Nat.reduceLT, reduceCtorEq]
  exact k s3 _ _ _ _ hk L h hl h3
end
end Go.Proofs.Ytoldkemimhebaaa
