/- Layer 15: what an act does to a pair: storing. -/
import Derived.Test.YtoldkemimhebaaaPgN
set_option linter.unusedSimpArgs false
set_option linter.unusedVariables false
namespace Go.Proofs.Ytoldkemimhebaaa
open Go Go.IM

section
variable {o : Nat → Option O} {s : St} {C F : Ch} {Q : V → St → Prop} {p r q t : Nat} {u : List Bool} {others : List Nat} {G : PairG}
set_option maxRecDepth 10000
set_option maxHeartbeats 4000000

/-- An object more in a region. -/
theorem RInv.put {rg : Reg} (hi : RInv rg) {rest : List Nat} (hp : PoolInv u (rg.pages ++ rest)) {kind n : Nat} (hk : kind < 256) (hn : 1 ≤ n ∧ n ≤ 31) (hfin : 0 < rg.size → rg.objs = []) {at_ fill : Nat} {u' : List Bool} {pages : List Nat}
    (e : putM u rg.size rg.life rg.fill rg.pages (n + 1) = some (at_, u', fill, pages)) (ws : List (Int × Int)) (hws : ws.length = n) :
    RInv ⟨rg.size, rg.life, fill, pages, rg.objs ++ [⟨at_, kind, ws⟩]⟩ ∧ PoolInv u' (pages ++ rest) ∧ (∀ y ∈ rg.objs, y.at_ ≠ at_) := by
  have hwsall : ∀ x ∈ rg.objs ++ [(⟨at_, kind, ws⟩ : Obj)], 1 ≤ x.ws.length ∧ x.ws.length ≤ 31 ∧ x.kind < 256 := by
    intro x hx
    rcases List.mem_append.1 hx with hx | hx
    · exact hi.ws x hx
    · simp at hx; subst hx; simp only; omega
  by_cases hs : 0 < rg.size
  · have ho := hfin hs
    obtain ⟨f1, f2, f3, f4⟩ := hi.fin hs
    unfold putM at e
    rw [if_pos hs] at e
    cases e
    refine ⟨⟨hi.size, hwsall, fun _ => ⟨f1, f2, by simp [ho], fun x hx => by rw [ho] at hx; simp at hx; subst hx; rfl⟩, fun h0 => by simp only at h0; omega⟩, hp, fun y hy => by rw [ho] at hy; cases hy⟩
  · have hs0 : rg.size = 0 := by omega
    rw [hs0] at e
    obtain ⟨k1, k2⟩ := put_packed (hi.inf hs0) hp e
    have hr' : RInv ⟨rg.size, rg.life, fill, pages, rg.objs ++ [⟨at_, kind, ws⟩]⟩ := ⟨hi.size, hwsall, fun h0 => absurd h0 hs, fun _ => by
      rw [List.map_append]; simpa [hws] using k1⟩
    refine ⟨hr', k2, fun y hy e => ?_⟩
    have hnd := hr'.nodup
    rw [List.map_append, List.nodup_append] at hnd
    exact hnd.2.2 y.at_ (List.mem_map.2 ⟨y, hy, rfl⟩) at_ (by simp) e

theorem s63 (x : ActG) (h : PairOk u others G) (H : Holds o s (World p r q t u G F)) (hwl : G.ws.length ≤ 1000000)
    (k : ∀ s' u' G', Next others u G u' G' → Holds o s' (World p r q t u' G' F) → Q (.bool true) s') : WP (call PF 63 [ptrN G.id, .agg x.cells] s) Q := by
  have f0 := H.mem World.id
  simp only [PairG.hd] at f0
  have h1 := (H.alloc (.cells x.cells none)).alloc (.cells [I 0, I 0] none)
  have hin := World.in_ (p := p) (r := r) (q := q) (t := t) (u := u) (G := G) (F := F)
  have rin := World.rin (p := p) (r := r) (q := q) (t := t) (u := u) (G := G) (F := F)
  have hrl := h.len
  have hpl := h.plen
  have hu := h.ulen
  -- nothing stored, on either side, with the same error
  have bad : ∀ err : Int, err = 2 ∨ err = 81 → ∀ s1, Holds o s1 ((s.next + 1, some (.cells [I 0, I 0] none)) :: (s.next, some (.cells x.cells none)) :: World p r q t u G F) →
      (∀ s2, Holds o s2 ((s1.next, some (.cells [I 0, I 0] none)) :: (s.next + 1, some (.cells [I 0, I 0] none)) :: (s.next, some (.cells x.cells none)) :: World p r q t u G F) → ∀ Q', (∀ s', Holds o s' ((s1.next, some (.cells [I 0, I 0] none)) :: (s.next + 1, some (.cells [I 0, I 0] none)) :: (s.next, some (.cells x.cells none)) :: World p r q t u G F) → Q' (.tuple [.agg [I 0, I 0], I err]) s') → WP (call PF 107 [ptrN G.hr.id, I x.a, I x.b, I x.c] s2) Q') →
      WP (go (loop PF) (call PF) j63_bb (sp 57 [(0, ptrN G.id), (3, ptrN s.next), (5, ptrN (s.next + 1)), (6, I err)]) s1 (finR [(4, none)])) Q := by
    intro err herr s1 h2 hR
    have fG := h2.tl.tl.mem World.id
    have f := h2.f2
    simp only [PairG.hd] at fG
    simp -implicitDefEqProofs only [↓GP, GB, GL, Nat.reduceAdd, Nat.reduceSub, Nat.reduceEqDiff, Nat.reduceMul, Nat.reduceLeDiff, Int.reduceBNe, Int.reduceBEq, Nat.reduceLT, reduceCtorEq, j63_bb, f, fG]
    have h3 := h2.alloc (.cells [I 0, I 0] none)
    refine wp_in (hR _ h3 _ fun s2 h4 => ?_)
    have f4 := h4.f2
    have h5 := ((h4.set0 (.cells [I 0, I 0] none)).tl).tl.tl
    rcases herr with rfl | rfl
    · simp -implicitDefEqProofs only [↓GP, GB, GL, Nat.reduceAdd, Nat.reduceSub, Nat.reduceEqDiff, Nat.reduceMul, Nat.reduceLeDiff, Int.reduceBNe, Int.reduceBEq, Nat.reduceLT, reduceCtorEq, f4, words_eq, Int.reduceBEq]
      exact k _ u G h.nx h5
    · simp -implicitDefEqProofs only [↓GP, GB, GL, Nat.reduceAdd, Nat.reduceSub, Nat.reduceEqDiff, Nat.reduceMul, Nat.reduceLeDiff, Int.reduceBNe, Int.reduceBEq, Nat.reduceLT, reduceCtorEq, f4, words_eq, Int.reduceBEq]
      exact k _ u G h.nx h5
  by_cases hb : 0 ≤ x.a ∧ x.a < G.hp.regs.length
  · obtain ⟨n, hn⟩ : ∃ n : Nat, x.a = n := ⟨x.a.toNat, by omega⟩
    obtain ⟨A, g, B, A', g', B', e1, e2, l1, l2, hm, hA, hB⟩ := h.at_ (i := n) (by omega)
    have hg : G.hp.regs[n]? = some g := by rw [e1, ← l1]; simp
    have hg' : G.hr.regs[n]? = some g' := by rw [e2, ← l2]; simp
    have mg : g ∈ G.hp.regs := by rw [e1]; simp
    have mg' : g' ∈ G.hr.regs := by rw [e2]; simp
    have ok := h.okp mg
    have ok' := h.okr mg'
    have hsz : g.size = g'.size := congrArg Reg.size hm
    have hlf : g.life = g'.life := congrArg Reg.life hm
    have hfl : g.fill = g'.fill := congrArg Reg.fill hm
    have hpg : g.pages = g'.pages := congrArg Reg.pages hm
    have hob : g.objs.map (·.b) = g'.objs.map (·.b) := congrArg Reg.objs hm
    have hol : g.objs.length = g'.objs.length := by have := congrArg List.length hob; simpa using this
    have hop := h.pol mg
    have hlife := ok'.1.life
    by_cases hbs : BadStore g x.b x.c
    · have hbs' : RBadStore g' x.b x.c := by
        rcases hbs with h | h | ⟨h, h'⟩
        · exact .inl h
        · exact .inr (.inl h)
        · refine .inr (.inr ⟨by omega, h'.imp (fun h => by omega) fun h => ?_⟩)
          intro e; rw [e] at hol; exact h (List.length_eq_zero_iff.1 hol)
      rw [call_run F63]; simp -implicitDefEqProofs only [↓GP, GB, GL, Nat.reduceAdd, Nat.reduceSub, Nat.reduceEqDiff, Nat.reduceMul, Nat.reduceLeDiff, Int.reduceBNe, Int.reduceBEq, Nat.reduceLT, reduceCtorEq, c63, f0]
      rw [hn]
      refine wp_in (s34_bad h1 ((hin.cons _).cons _).id ((hin.cons _).cons _).row (by omega) hg (((hin.cons _).cons _).hd mg) hbs fun s1 h2 => ?_)
      have f2 := h2.f1
      simp only [alloc_next] at f2
      simp -implicitDefEqProofs only [↓GP, GB, GL, Nat.reduceAdd, Nat.reduceSub, Nat.reduceEqDiff, Nat.reduceMul, Nat.reduceLeDiff, Int.reduceBNe, Int.reduceBEq, Nat.reduceLT, reduceCtorEq, f2]
      refine bad 2 (.inl rfl) _ (h2.set0 _) fun s2 h3 Q' hq => ?_
      rw [hn]
      exact s107_bad h3 (((rin.cons _).cons _).cons _) hg' hlife hbs' fun s3 h4 => hq s3 h4
    · obtain ⟨kd, hkd⟩ : ∃ kd : Nat, x.b = kd := ⟨x.b.toNat, by unfold BadStore at hbs; omega⟩
      obtain ⟨wd, hwd⟩ : ∃ wd : Nat, x.c = wd := ⟨x.c.toNat, by unfold BadStore at hbs; omega⟩
      have hgs : GoodStore g kd wd := by
        unfold BadStore at hbs
        rw [hkd, hwd] at hbs
        refine ⟨by omega, by omega, by omega, by omega, fun hs => ?_⟩
        refine ⟨by omega, ?_⟩
        rcases Classical.em (g.objs = []) with h | h
        · exact h
        · exact absurd (.inr (.inr ⟨hs, .inr h⟩)) hbs
      have hgs' : RGoodStore g' kd wd := by
        obtain ⟨b1, b2, b3, b4, b5⟩ := hgs
        refine ⟨b1, b2, b3, b4, fun hs => ?_⟩
        obtain ⟨c1, c2⟩ := b5 (by omega)
        exact ⟨by omega, by rw [c2] at hol; exact List.length_eq_zero_iff.1 hol.symm⟩
      rw [call_run F63]; simp -implicitDefEqProofs only [↓GP, GB, GL, Nat.reduceAdd, Nat.reduceSub, Nat.reduceEqDiff, Nat.reduceMul, Nat.reduceLeDiff, Int.reduceBNe, Int.reduceBEq, Nat.reduceLT, reduceCtorEq, c63, f0]
      rw [hn, hkd, hwd]
      cases hput : putM u g.size g.life g.fill g.pages (wd + 1) with
      | none =>
        have h34 := fun Q' => s34_full (o := o) (s := (s.alloc (.cells x.cells none)).alloc (.cells [I 0, I 0] none)) (Q := Q') (hp := G.hp) (p := p) (r := r) (u := u) (A := A) (B := B) (g := g) (F := (s.next + 1, some (.cells [I 0, I 0] none)) :: (s.next, some (.cells x.cells none)) :: (poolC q t u ++ (G.pc ++ (G.hr.ch q ++ F)))) (Holds.of (h1) (fun k => by simp +arith only [alloc_next, HA, HB]) (fun k x => by simp only [alloc_next, HA, HC]; grind only)) e1 hpl (by omega) ok.1 hgs hput
        rw [l1] at h34
        refine wp_in (h34 _ fun s1 h2 => ?_)
        have h2' : Holds o s1 ((s.next + 1, some (.cells [I 0, I 0] none)) :: (s.next, some (.cells x.cells none)) :: World p r q t u G F) := (Holds.of (h2) (fun k => by simp +arith only [HA, HB]) (fun k x => by simp only [HA, HC]; grind only))
        simp -implicitDefEqProofs only [↓GP, GB, GL, Nat.reduceAdd, Nat.reduceSub, Nat.reduceEqDiff, Nat.reduceMul, Nat.reduceLeDiff, Int.reduceBNe, Int.reduceBEq, Nat.reduceLT, reduceCtorEq, h2'.f1]
        refine bad 81 (.inr rfl) _ (h2'.set0 _) fun s2 h3 Q' hq => ?_
        rw [hn, hkd, hwd]
        have h107 := fun Q' => s107_full (o := o) (s := s2) (Q := Q') (hr := G.hr) (p := q) (r := t) (u := u) (A := A') (B := B') (g := g') (F := (s1.next, some (.cells [I 0, I 0] none)) :: (s.next + 1, some (.cells [I 0, I 0] none)) :: (s.next, some (.cells x.cells none)) :: (poolC p r u ++ (G.pc ++ (G.hp.ch p ++ F)))) (Holds.of (h3) (fun k => by simp +arith only [HA, HB]) (fun k x => by simp only [HA, HC]; grind only)) e2 (by omega) ok'.1.b hgs' (by rw [← hput, hsz, hlf, hfl, hpg])
        rw [l2] at h107
        exact h107 _ fun s3 h4 => hq s3 (Holds.of (h4) (fun k => by simp +arith only [HA, HB]) (fun k x => by simp only [HA, HC]; grind only))
      | some res =>
        obtain ⟨at_, u', fill, pages⟩ := res
        have hput' : putM u g'.size g'.life g'.fill g'.pages (wd + 1) = some (at_, u', fill, pages) := by rw [← hput, hsz, hlf, hfl, hpg]
        obtain ⟨hri, hpool, hfresh⟩ := (h.inv.reg g.m (List.mem_map.2 ⟨g, mg, rfl⟩)).put (h.pool1 e1) (kind := kd) (n := wd) (by have := hgs.2.1; omega) ⟨hgs.2.2.1, hgs.2.2.2.1⟩ (fun hs => by have := (hgs.2.2.2.2 hs).2; simp [PReg.m, this]) hput (List.replicate wd (0, 0)) (by simp)
        have hf : ∀ y ∈ g.objs, y.b.at_ ≠ at_ := fun y hy => hfresh y.b (List.mem_map.2 ⟨y, hy, rfl⟩)
        have h34 := fun Q' => s34 (o := o) (s := (s.alloc (.cells x.cells none)).alloc (.cells [I 0, I 0] none)) (Q := Q') (hp := G.hp) (p := p) (r := r) (u := u) (A := A) (B := B) (g := g) (F := (s.next + 1, some (.cells [I 0, I 0] none)) :: (s.next, some (.cells x.cells none)) :: (poolC q t u ++ (G.pc ++ (G.hr.ch q ++ F)))) (Holds.of (h1) (fun k => by simp +arith only [alloc_next, HA, HB]) (fun k x => by simp only [alloc_next, HA, HC]; grind only)) e1 hpl (by omega) ok.1 (h.pok g mg) (by omega) hgs hput hf
        rw [l1] at h34
        refine wp_in (h34 _ fun s1 pgk obk pl xid wid okp h2 => ?_)
        generalize hgd : (({ g with pgk := pgk, pages := pages, fill := fill } : PReg).lay obk pl ⟨xid, wid, ⟨at_, kd, List.replicate wd (0, 0)⟩⟩) = g1 at okp h2
        have h3 : Holds o s1 ((s.next + 1, some (.cells [I 0, I 0] none)) :: (s.next, some (.cells x.cells none)) :: (G.id, some (.cells [ptrN G.hp.id, ptrN G.hr.id, rowV G.wk G.ws.length] none)) :: (poolC q t u ++ (G.hr.ch q ++ ((G.wk, rowO 2 G.ws.length (G.ws.flatMap encW)) :: (poolC p r u' ++ (PHeap.ch p { G.hp with regs := A ++ g1 :: B } ++ F)))))) := (Holds.of (h2) (fun k => by simp +arith only [HA, HB]) (fun k x => by simp only [HA, HC]; grind only))
        have f3 := h3.f3
        simp only [ActG.cells, hn, hkd, hwd] at f3
        simp -implicitDefEqProofs only [↓GP, GB, GL, Nat.reduceAdd, Nat.reduceSub, Nat.reduceEqDiff, Nat.reduceMul, Nat.reduceLeDiff, Int.reduceBNe, Int.reduceBEq, Nat.reduceLT, reduceCtorEq, j63_bb, f3]
        have h4 := (h3.set0 (.cells [I at_, I g.life] none)).alloc (.cells [I 0, I 0] none)
        have h107 := fun Q' => s107 (o := o) (s := (s1.set (s.next + 1) (.cells [I at_, I g.life] none)).alloc (.cells [I 0, I 0] none)) (Q := Q') (hr := G.hr) (p := q) (r := t) (u := u) (A := A') (B := B') (g := g') (F := (s1.next, some (.cells [I 0, I 0] none)) :: (s.next + 1, some (.cells [I at_, I g.life] none)) :: (G.id, some (.cells [ptrN G.hp.id, ptrN G.hr.id, rowV G.wk G.ws.length] none)) :: ((G.wk, rowO 2 G.ws.length (G.ws.flatMap encW)) :: (poolC p r u' ++ (PHeap.ch p { G.hp with regs := A ++ g1 :: B } ++ F)))) (Holds.of (h4) (fun k => by simp +arith only [set_next, HA, HB]) (fun k x => by simp only [set_next, HA, HC]; grind only)) e2 (by omega) ok'.1.b hgs' (by omega) hput'
        rw [l2] at h107
        refine wp_in (h107 _ fun s2 pgk' obk' wid' h5 => ?_)
        generalize hgd' : ({ g' with pgk := pgk', obk := obk', fill := fill, pages := pages, objs := g'.objs ++ [⟨wid', ⟨at_, kd, List.replicate wd (0, 0)⟩⟩] } : RReg) = g1' at h5
        have h6 : Holds o s2 ((s1.next, some (.cells [I 0, I 0] none)) :: (s.next + 1, some (.cells [I at_, I g.life] none)) :: (G.id, some (.cells [ptrN G.hp.id, ptrN G.hr.id, rowV G.wk G.ws.length] none)) :: (G.wk, rowO 2 G.ws.length (G.ws.flatMap encW)) :: (poolC p r u' ++ (PHeap.ch p { G.hp with regs := A ++ g1 :: B } ++ (poolC q t u' ++ (RHeap.ch q { G.hr with regs := A' ++ g1' :: B' } ++ F))))) := (Holds.of (h5) (fun k => by simp +arith only [HA, HB]) (fun k x => by simp only [HA, HC]; grind only))
        have f6 := h6.f3
        rw [← hlf] at *
        simp -implicitDefEqProofs only [↓GP, GB, GL, Nat.reduceAdd, Nat.reduceSub, Nat.reduceEqDiff, Nat.reduceMul, Nat.reduceLeDiff, Int.reduceBNe, Int.reduceBEq, Nat.reduceLT, reduceCtorEq, f6]
        have h7 := (h6.set0 (.cells [I at_, I g.life] none)).alloc (.cells [I at_, I g.life] none)
        refine wp_append (cs := G.ws.flatMap encW) (h7.r4) (by rw [tab_len encW_len]) (new_cells' (alloc_new_same _ _) rfl) rfl rfl (by omega) (by unfold maxRow; omega) (by unfold maxRow; omega) fun wk' s3 h8 => ?_
        have h9 := h8.r1.tl
        have f9 := h9.tl.f3
        simp -implicitDefEqProofs only [↓GP, GB, GL, Nat.reduceAdd, Nat.reduceSub, Nat.reduceEqDiff, Nat.reduceMul, Nat.reduceLeDiff, Int.reduceBNe, Int.reduceBEq, Nat.reduceLT, reduceCtorEq, f9, words_eq, Int.reduceBEq]
        have h10 := h9.set3 (.cells [ptrN G.hp.id, ptrN G.hr.id, rowV wk' (G.ws.length + 1)] none)
        refine k _ u' { G with wk := wk', hp := { G.hp with regs := A ++ g1 :: B }, hr := { G.hr with regs := A' ++ g1' :: B' }, ws := G.ws ++ [((at_ : Int), (g.life : Int))] } ?_ ?_
        · have hup := h.upd (u' := u') (g1 := g1) (g1' := g1') e1 e2 hA hB (by subst hgd hgd'; simp [PReg.m, PReg.lay, RReg.m, hsz, hlf, hob]) (by subst hgd; rfl) (by subst hgd; simpa [PReg.m, PReg.lay] using hri) okp (putM_len hput) (by subst hgd; exact hpool)
          exact ⟨rfl, rfl, rfl, ⟨hup.ulen, hup.lives, hup.same, hup.inv, hup.pool, hup.pok, hup.grown, hup.one⟩, putM_len hput, by simp, by simp⟩
        · have he : (G.ws ++ [((at_ : Int), (g.life : Int))]).flatMap encW = G.ws.flatMap encW ++ [I at_, I g.life] := by rw [List.flatMap_append]; rfl
          exact (Holds.of (h10) (fun k => by simp +arith only [he, List.length_append, List.length_cons, List.length_nil, Nat.zero_add, HA, HB]) (fun k x => by simp only [he, List.length_append, List.length_cons, List.length_nil, Nat.zero_add, HA, HC]; grind only))
  · rw [call_run F63]; simp -implicitDefEqProofs only [↓GP, GB, GL, Nat.reduceAdd, Nat.reduceSub, Nat.reduceEqDiff, Nat.reduceMul, Nat.reduceLeDiff, Int.reduceBNe, Int.reduceBEq, Nat.reduceLT, reduceCtorEq, c63, f0]
    refine wp_in (s34_err h1 (AtErr.of ((hin.cons _).cons _) h.pne hpl hb) rfl rfl fun s1 h2 => ?_)
    have f2 := h2.f1
    simp only [alloc_next] at f2
    simp -implicitDefEqProofs only [↓GP, GB, GL, Nat.reduceAdd, Nat.reduceSub, Nat.reduceEqDiff, Nat.reduceMul, Nat.reduceLeDiff, Int.reduceBNe, Int.reduceBEq, Nat.reduceLT, reduceCtorEq, f2]
    refine bad 2 (.inl rfl) _ (h2.set0 _) fun s2 h3 Q' hq => ?_
    exact s107_err h3 (RAtErr.of (((rin.cons _).cons _).cons _) h.rne (by rw [← hrl]; exact hb)) fun s3 h4 => hq s3 h4
end
end Go.Proofs.Ytoldkemimhebaaa
