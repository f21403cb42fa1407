/- The functions of layer 15, on the ideal machine: laying (all cases), storing, opening, making. -/
import Derived.Test.YtoldkemimhebaaaPgS
set_option linter.unusedSimpArgs false
set_option linter.unusedVariables false
namespace Go.Proofs.Ytoldkemimhebaaa
open Go Go.IM

section
variable {o : Nat → Option O} {s : St} {C F : Ch} {Q : V → St → Prop}
set_option maxRecDepth 10000

/-- Where an object of so many words (with its header) comes to lie: its address, the pool, how full the last page is, the pages. -/
def putM (u : List Bool) (size life fill : Nat) (pages : List Nat) (need : Nat) : Option (Nat × List Bool × Nat × List Nat) :=
  if 0 < size then some (1000000 + life, u, fill, pages) else
  match pages.getLast? with
  | some p => if fill + need ≤ 32 then some (p * 32 + fill, u, fill + need, pages) else (takeP u).map fun n => (n * 32, u.set n true, need, pages ++ [n])
  | none => (takeP u).map fun n => (n * 32, u.set n true, need, pages ++ [n])

theorem s77_none {h p r : Nat} {u : List Bool} {c d : V} {g : PReg} {x : PObj} (H : Holds o s (poolC p r u ++ (g.ch ++ (x.ch ++ F)))) (mh : (h, some (.cells [ptrN p, c, d] none)) ∈ F) (hu : u.length ≤ 400)
    (hr : RegB u.length g.size g.life g.fill g.pages) (hw : x.b.ws.length ≤ 31) (hp : putM u g.size g.life g.fill g.pages (x.b.ws.length + 1) = none) : call PF 77 [ptrN h, ptrN g.id, ptrN x.id] s = some (.bool false, s) := by
  have h1 := hr.fill
  have h2 := hr.npages
  unfold putM at hp
  split at hp
  · cases hp
  · rename_i hs
    split at hp
    · rename_i pg hpg
      split at hp
      · cases hp
      · rename_i hf
        exact s77_full H mh hu hw h1 h2 ⟨by omega, .inr hf⟩ (by simpa using hp)
    · rename_i hpg
      exact s77_full H mh hu hw h1 h2 ⟨by omega, .inl (List.getLast?_eq_none_iff.1 hpg)⟩ (by simpa using hp)

theorem s77 {h p r : Nat} {u : List Bool} {c d : V} {g : PReg} {x : PObj} (H : Holds o s (poolC p r u ++ (g.ch ++ (x.ch ++ F)))) (mh : (h, some (.cells [ptrN p, c, d] none)) ∈ F) (hu : u.length ≤ 400)
    (hg : g.ok) (hr : RegB u.length g.size g.life g.fill g.pages) (hn : g.objs.length < 100000) (hw : x.b.ws.length ≤ 31) {at_ fill : Nat} {u' : List Bool} {pages : List Nat} (hp : putM u g.size g.life g.fill g.pages (x.b.ws.length + 1) = some (at_, u', fill, pages))
    (hf : ∀ y ∈ g.objs, y.b.at_ ≠ at_)
    (q : ∀ s' pgk' obk' pl', Holds o s' (poolC p r u' ++ ((({ g with pgk := pgk', pages := pages, fill := fill } : PReg).lay obk' pl' (x.at at_)).ch ++ F)) →
      (({ g with pgk := pgk', pages := pages, fill := fill } : PReg).lay obk' pl' (x.at at_)).ok → Q (.bool true) s') : WP (call PF 77 [ptrN h, ptrN g.id, ptrN x.id] s) Q := by
  have h1 := hr.fill
  have h2 := hr.npages
  have h3 := hr.size
  have h4 := hr.life
  have h5 := hr.pages
  unfold putM at hp
  split at hp
  · rename_i hs
    cases hp
    refine s77_fin (F := poolC p r u ++ F) (p := p) (r := r) (u := u) (c := c) (d := d) (g := g) (x := x) (Holds.of (H) (fun k => by simp +arith only [HA, HB]) (fun k x => by simp only [HA, HC]; grind only)) hg hs h3 h4 (by omega) hw hf fun s' obk' pl' H' ok' => ?_
    exact q s' g.pgk obk' pl' H'.rb ok'
  · rename_i hs
    have hs0 : g.size = 0 := by omega
    split at hp
    · rename_i pg hpg
      split at hp
      · rename_i hfit
        cases hp
        have hpg' : pg < u.length := h5 pg (List.mem_of_getLast? hpg)
        refine s77_fit (F := poolC p r u ++ F) (p := p) (r := r) (u := u) (c := c) (d := d) (g := g) (x := x) (Holds.of (H) (fun k => by simp +arith only [HA, HB]) (fun k x => by simp only [HA, HC]; grind only)) hg hs0 (by omega) hw hpg (by omega) h2 hfit hf fun s' obk' pl' H' ok' => ?_
        exact q s' g.pgk obk' pl' H'.rb ok'
      · rename_i hf'
        simp only [Option.map_eq_some_iff] at hp
        obtain ⟨n, ht, e⟩ := hp
        cases e
        exact s77_page H mh hu hg (by omega) hw h1 h2 ⟨hs0, .inr hf'⟩ ht hf fun s' pgk' obk' pl' H' ok' => q s' pgk' obk' pl' H' ok'
    · rename_i hpg
      simp only [Option.map_eq_some_iff] at hp
      obtain ⟨n, ht, e⟩ := hp
      cases e
      exact s77_page H mh hu hg (by omega) hw h1 h2 ⟨hs0, .inl (List.getLast?_eq_none_iff.1 hpg)⟩ ht hf fun s' pgk' obk' pl' H' ok' => q s' pgk' obk' pl' H' ok'

theorem s34_err (hC : Holds o s C) {hv : V} {n err kind words : Int} (e : AtErr C hv n err) (hone : hv.one = true) (hcl : hv.cells = [hv]) (q : ∀ s', Holds o s' C → Q (.tuple [.agg [I 0, I 0], I err]) s') : WP (call PF 34 [hv, I n, I kind, I words] s) Q := by
  rw [call_run F34]; simp -implicitDefEqProofs only [↓GP, GB, GL, Nat.reduceAdd, Nat.reduceSub, Nat.reduceEqDiff, Nat.reduceMul, Nat.reduceLeDiff, Int.reduceBNe, Int.reduceBEq, Nat.reduceLT, reduceCtorEq, c34]
  have e' : AtErr ((s.next, some (.cells [I 0, I 0] none)) :: C) hv n err := by
    rcases e with ⟨g, h⟩ | ⟨h, hp, p, h1, h2, h3⟩
    · exact .inl ⟨g.mono fun x hx => List.mem_cons_of_mem _ hx, h⟩
    · exact .inr ⟨h, hp, p, h1, List.mem_cons_of_mem _ h2, h3⟩
  refine wp_in (s72_err (hC.alloc _) e' hone hcl fun s1 h1 => ?_)
  have f := h1.f1
  rcases e.ne with rfl | rfl
  · simp -implicitDefEqProofs only [↓GP, GB, GL, Nat.reduceAdd, Nat.reduceSub, Nat.reduceEqDiff, Nat.reduceMul, Nat.reduceLeDiff, Int.reduceBNe, Int.reduceBEq, Nat.reduceLT, reduceCtorEq, f, Int.reduceBNe]
    exact q _ ((h1.set0 _).tl)
  · simp -implicitDefEqProofs only [↓GP, GB, GL, Nat.reduceAdd, Nat.reduceSub, Nat.reduceEqDiff, Nat.reduceMul, Nat.reduceLeDiff, Int.reduceBNe, Int.reduceBEq, Nat.reduceLT, reduceCtorEq, f, Int.reduceBNe]
    exact q _ ((h1.set0 _).tl)

/-- What cannot be stored. -/
def BadStore (g : PReg) (kind words : Int) : Prop := ¬ (1 ≤ kind ∧ kind ≤ 255) ∨ ¬ (1 ≤ words ∧ words ≤ 31) ∨ (0 < g.size ∧ ((g.size : Int) < words ∨ g.objs ≠ []))

theorem s34_bad (hC : Holds o s C) {hp : PHeap} {p i : Nat} {kind words : Int} (m1 : (hp.id, some (hp.hd p)) ∈ C) (m2 : (hp.rowk, hp.row) ∈ C) (hlen : hp.regs.length < 2 ^ 62) {g : PReg} (hr : hp.regs[i]? = some g) (mg : (g.id, some g.hd) ∈ C)
    (hb : BadStore g kind words) (q : ∀ s', Holds o s' C → Q (.tuple [.agg [I 0, I 0], I 2]) s') : WP (call PF 34 [ptrN hp.id, I i, I kind, I words] s) Q := by
  rw [call_run F34]; simp -implicitDefEqProofs only [↓GP, GB, GL, Nat.reduceAdd, Nat.reduceSub, Nat.reduceEqDiff, Nat.reduceMul, Nat.reduceLeDiff, Int.reduceBNe, Int.reduceBEq, Nat.reduceLT, reduceCtorEq, c34]
  refine wp_in (s72 (hC.alloc _) (List.mem_cons_of_mem _ m1) (List.mem_cons_of_mem _ m2) hlen hr fun s1 h1 => ?_)
  have f := h1.f1
  have fg := h1.tl.mem mg
  simp only [PReg.hd] at fg
  by_cases h1k : (decide (1 ≤ kind) && decide (kind ≤ 255)) = true
  · by_cases h1w : (decide (1 ≤ words) && decide (words ≤ 31)) = true
    · have hfin : 0 < g.size ∧ ((g.size : Int) < words ∨ g.objs ≠ []) := by
        rcases hb with h | h | h
        · simp at h1k; omega
        · simp at h1w; omega
        · exact h
      have hs : ((g.size : Int) > 0) := by omega
      by_cases hw : (words > (g.size : Int))
      · simp -implicitDefEqProofs only [↓GP, GB, GL, Nat.reduceAdd, Nat.reduceSub, Nat.reduceEqDiff, Nat.reduceMul, Nat.reduceLeDiff, Int.reduceBNe, Int.reduceBEq, Nat.reduceLT, reduceCtorEq, f, fg, s56, h1k, h1w, hs, hw, Int.reduceBNe]
        exact q _ ((h1.set0 _).tl)
      · have ho : ((g.objs.length : Int) > 0) := by
          rcases hfin.2 with h | h
          · omega
          · have := List.length_pos_iff.2 h; omega
        simp -implicitDefEqProofs only [↓GP, GB, GL, Nat.reduceAdd, Nat.reduceSub, Nat.reduceEqDiff, Nat.reduceMul, Nat.reduceLeDiff, Int.reduceBNe, Int.reduceBEq, Nat.reduceLT, reduceCtorEq, f, fg, s56, h1k, h1w, hs, hw, ho, Int.reduceBNe]
        exact q _ ((h1.set0 _).tl)
    · simp only [Bool.not_eq_true] at h1w
      simp -implicitDefEqProofs only [↓GP, GB, GL, Nat.reduceAdd, Nat.reduceSub, Nat.reduceEqDiff, Nat.reduceMul, Nat.reduceLeDiff, Int.reduceBNe, Int.reduceBEq, Nat.reduceLT, reduceCtorEq, f, fg, s56, h1k, h1w, Int.reduceBNe]
      exact q _ ((h1.set0 _).tl)
  · simp only [Bool.not_eq_true] at h1k
    simp -implicitDefEqProofs only [↓GP, GB, GL, Nat.reduceAdd, Nat.reduceSub, Nat.reduceEqDiff, Nat.reduceMul, Nat.reduceLeDiff, Int.reduceBNe, Int.reduceBEq, Nat.reduceLT, reduceCtorEq, f, fg, s56, h1k, Int.reduceBNe]
    exact q _ ((h1.set0 _).tl)

theorem zeros_words : ∀ w : Nat, zeros [I 0, I 0] w = (List.replicate w ((0 : Int), (0 : Int))).flatMap encW
  | 0 => rfl
  | w + 1 => by rw [zeros, zeros_words w, List.replicate_succ, List.flatMap_cons]; rfl

/-- What can be stored. -/
def GoodStore (g : PReg) (kind words : Nat) : Prop := 1 ≤ kind ∧ kind ≤ 255 ∧ 1 ≤ words ∧ words ≤ 31 ∧ (0 < g.size → words ≤ g.size ∧ g.objs = [])

/-- The run of Store up to where the object is laid. -/
theorem s34_go {hp : PHeap} {p r kind words : Nat} {u : List Bool} {A B : List PReg} {g : PReg} (H : Holds o s (poolC p r u ++ (hp.ch p ++ F))) (hr : hp.regs = A ++ g :: B) (hlen : hp.regs.length ≤ 100000) (hb : GoodStore g kind words)
    (q : ∀ s' t xid wid, Holds o s' (poolC p r u ++ (g.ch ++ (PObj.ch ⟨xid, wid, ⟨0, kind, List.replicate words (0, 0)⟩⟩ ++ ((t, some (.cells [I 0, I 0] none)) :: (hp.id, some (hp.hd p)) :: (hp.rowk, hp.row) :: (A.flatMap PReg.ch ++ (B.flatMap PReg.ch ++ F)))))) →
      WP (call PF 77 [ptrN hp.id, ptrN g.id, ptrN xid] s') fun v s2 => ∃ b, v = .bool b ∧ (b = false → ∀ s3, s3 = s2.set t (.cells [I 0, I 0] none) → s2.new t = some (.cells [I 0, I 0] none) ∧ Q (.tuple [.agg [I 0, I 0], I 81]) s3) ∧
        (b = true → ∃ (at_ life : Int), ∃ d1 d2 d3 d4 d5 d6 d7, s2.new t = some (.cells [I 0, I 0] none) ∧ s2.new xid = some (.cells [I at_, d1, d2] none) ∧ s2.new g.id = some (.cells [I life, d3, d4, d5, d6, d7] none) ∧ ∀ s3, s3 = s2.set t (.cells [I at_, I life] none) → Q (.tuple [.agg [I at_, I life], I 0]) s3)) :
    WP (call PF 34 [ptrN hp.id, I A.length, I kind, I words] s) Q := by
  obtain ⟨b1, b2, b3, b4, b5⟩ := hb
  rw [call_run F34]; simp -implicitDefEqProofs only [↓GP, GB, GL, Nat.reduceAdd, Nat.reduceSub, Nat.reduceEqDiff, Nat.reduceMul, Nat.reduceLeDiff, Int.reduceBNe, Int.reduceBEq, Nat.reduceLT, reduceCtorEq, c34]
  refine wp_in (s72 (hp := hp) (p := p) (r := g) (H.alloc _) (by simp [PHeap.ch]) (by simp [PHeap.ch]) (by omega) (by rw [hr]; simp) fun s1 h1 => ?_)
  have h2 : Holds o s1 ((s.next, some (.cells [I 0, I 0] none)) :: (g.id, some g.hd) :: (g.pgk, pagesO g.pages) :: (g.obk, PReg.obO g.objs) :: (g.plk, some g.pl) :: (g.objs.flatMap PObj.ch ++ (poolC p r u ++ ((hp.id, some (hp.hd p)) :: (hp.rowk, hp.row) :: (A.flatMap PReg.ch ++ (B.flatMap PReg.ch ++ F)))))) := (Holds.of (h1) (fun k => by simp +arith only [hr, HA, HB]) (fun k x => by simp only [hr, HA, HC]; grind only))
  have f := h2.f2
  simp only [PReg.hd] at f
  have h1k : (decide (1 ≤ (kind : Int)) && decide ((kind : Int) ≤ 255)) = true := by simp; omega
  have h1w : (decide (1 ≤ (words : Int)) && decide ((words : Int) ≤ 31)) = true := by simp; omega
  have hm := fun s => mkV_int (s := s) (bytes := 16) (z := [I 0, I 0]) (k := .i64) (k' := .i64) (l := words) (c := words) (by omega) (by omega) (by omega) (by omega)
  simp only [Int.toNat_natCast] at hm
  have tail : WP (contO (call PF) (some 65) [oa 66 (.un .not (.t 65))] (sp 77 [(0, ptrN hp.id), (8, ptrN s.next), (10, ptrN g.id), (12, ptrN (s1.next + 1)), (62, ptrN hp.id), (63, ptrN g.id), (64, ptrN (s1.next + 1))]) (MK (kp 77 [8,10,12,66]) (seqK (loop PF) (call PF) j34_bbbbab (seqK (loop PF) (call PF) j34_bbbbb (finR [(8, some (some 2)), (9, none)]))))
      (call PF 77 [ptrN hp.id, ptrN g.id, ptrN (s1.next + 1)] ((s1.alloc (.cells (zeros [I 0, I 0] words) none)).alloc (.cells [I 0, I kind, slN s1.next words] none)))) Q := by
    have h3 := (h2.alloc (.cells (zeros [I 0, I 0] words) none)).alloc (.cells [I 0, I kind, slN s1.next words] none)
    obtain ⟨v, s2, e, b, rfl, hF, hT⟩ := q ((s1.alloc (.cells (zeros [I 0, I 0] words) none)).alloc (.cells [I 0, I kind, slN s1.next words] none)) s.next (s1.next + 1) s1.next (Holds.of (h3) (fun k => by simp +arith only [PObj.O, PObj.W, List.length_replicate, zeros_words, Int.natCast_zero, alloc_next, HA, HB]) (fun k x => by simp only [PObj.O, PObj.W, List.length_replicate, zeros_words, Int.natCast_zero, alloc_next, HA, HC]; grind only))
    cases b with
    | false =>
      obtain ⟨f1, hq⟩ := hF rfl _ rfl
      simp -implicitDefEqProofs only [↓GP, GB, GL, Nat.reduceAdd, Nat.reduceSub, Nat.reduceEqDiff, Nat.reduceMul, Nat.reduceLeDiff, Int.reduceBNe, Int.reduceBEq, Nat.reduceLT, reduceCtorEq, e, j34_bbbbab, f1]
      exact hq
    | true =>
      obtain ⟨at_, life, d1, d2, d3, d4, d5, d6, d7, f1, f2, f3, hq⟩ := hT rfl
      simp -implicitDefEqProofs only [↓GP, GB, GL, Nat.reduceAdd, Nat.reduceSub, Nat.reduceEqDiff, Nat.reduceMul, Nat.reduceLeDiff, Int.reduceBNe, Int.reduceBEq, Nat.reduceLT, reduceCtorEq, e, j34_bbbbab, j34_bbbbb, f1, f2, f3]
      exact hq _ rfl
  by_cases hs : ((g.size : Int) > 0)
  · obtain ⟨c1, c2⟩ := b5 (by omega)
    have hw : ¬ ((words : Int) > (g.size : Int)) := by omega
    have ho : ¬ ((0 : Int) > 0) := by omega
    rw [c2] at f
    simp only [List.length_nil, rowV_zero] at f
    simp -implicitDefEqProofs only [↓GP, GB, GL, Nat.reduceAdd, Nat.reduceSub, Nat.reduceEqDiff, Nat.reduceMul, Nat.reduceLeDiff, Int.reduceBNe, Int.reduceBEq, Nat.reduceLT, reduceCtorEq, f, s56, h1k, h1w, hs, hw, ho, hm, Int.reduceBNe, Int.natCast_zero]
    exact tail
  · simp -implicitDefEqProofs only [↓GP, GB, GL, Nat.reduceAdd, Nat.reduceSub, Nat.reduceEqDiff, Nat.reduceMul, Nat.reduceLeDiff, Int.reduceBNe, Int.reduceBEq, Nat.reduceLT, reduceCtorEq, f, s56, h1k, h1w, hs, hm, Int.reduceBNe]
    exact tail
end
end Go.Proofs.Ytoldkemimhebaaa
