/- Texts PgO, PgU, PgW, Im13, PgB, Pg2, Pc2, Pc3, Pc4, Pg3, Pc5, Pc6, Pc7, Pc8, Pc9, Pca, Pe0, Pcb, Pcc, Pe1, Pe2, PcS, Pci, Pe3, Pn0, Pn1, Pn2, Pk0, Pk1, Pk3. -/
import Derived.ProofKit
import Derived.SizedLaws
import Derived.Test.YtoldkemimhebaaaRd3

set_option linter.unusedSimpArgs false
set_option linter.unusedVariables false
namespace Go.Proofs.Ytoldkemimhebaaa
open Go Go.IM
section
variable {o : Nat → Option O} {s : St} {C F : Ch} {Q : V → St → Prop} {p r q t : Nat} {u : List Bool} {others : List Nat} {G : PairG}
set_option maxRecDepth 10000
set_option maxHeartbeats 4000000
theorem zeros_in {n : Nat} : ∀ w ∈ List.replicate n ((0 : Int), (0 : Int)), 0 ≤ w.2 ∧ w.2 ≤ 100000 := fun w hw => by rw [List.eq_of_mem_replicate hw]; simp
theorem RInv.put {rg : Reg} (hi : RInv rg) {rest : List Nat} (hp : PoolInv u (rg.pages ++ rest)) {kind n : Nat} (hk : kind < 256) (hn : 1 ≤ n ∧ n ≤ 31) (hfin : 0 < rg.size → rg.objs = []) {at_ fill : Nat} {u' : List Bool} {pages : List Nat}
    (e : putM u rg.size rg.life rg.fill rg.pages (n + 1) = some (at_, u', fill, pages)) (ws : List (Int × Int)) (hws : ws.length = n) (hwl : ∀ w ∈ ws, 0 ≤ w.2 ∧ w.2 ≤ 100000) :
    RInv ⟨rg.size, rg.life, fill, pages, rg.objs ++ [⟨at_, kind, ws⟩]⟩ ∧ PoolInv u' (pages ++ rest) ∧ (∀ y ∈ rg.objs, y.at_ ≠ at_) := by
  have hwsall : ∀ x ∈ rg.objs ++ [(⟨at_, kind, ws⟩ : Obj)], 1 ≤ x.ws.length ∧ x.ws.length ≤ 31 ∧ x.kind < 256 := by
    intro x hx
    rcases List.mem_append.1 hx with hx | hx
    · exact hi.ws x hx
    · simp at hx; subst hx; simp only; omega
  have hwlall : ∀ x ∈ rg.objs ++ [(⟨at_, kind, ws⟩ : Obj)], ∀ w ∈ x.ws, 0 ≤ w.2 ∧ w.2 ≤ 100000 := by
    intro x hx
    rcases List.mem_append.1 hx with hx | hx
    · exact hi.wl x hx
    · simp at hx; subst hx; exact hwl
  by_cases hs : 0 < rg.size
  · have ho := hfin hs
    obtain ⟨f1, f2, f3, f4⟩ := hi.fin hs
    unfold putM at e
    rw [if_pos hs] at e
    cases e
    refine ⟨⟨hi.size, hwsall, fun _ => ⟨f1, f2, by simp [ho], fun x hx => by rw [ho] at hx; simp at hx; subst hx; rfl⟩, fun h0 => (by simp only at h0; omega), hwlall⟩, hp, fun y hy => by rw [ho] at hy; cases hy⟩
  · have hs0 : rg.size = 0 := by omega
    rw [hs0] at e
    obtain ⟨k1, k2⟩ := put_packed (hi.inf hs0) hp e
    have hr' : RInv ⟨rg.size, rg.life, fill, pages, rg.objs ++ [⟨at_, kind, ws⟩]⟩ := ⟨hi.size, hwsall, fun h0 => absurd h0 hs, fun _ =>
      (by rw [List.map_append]; simpa [hws] using k1), hwlall⟩
    refine ⟨hr', k2, fun y hy e => ?_⟩
    have hnd := hr'.nodup
    rw [List.map_append, List.nodup_append] at hnd
    exact hnd.2.2 y.at_ (List.mem_map.2 ⟨y, hy, rfl⟩) at_ (by simp) e
theorem s63 (x : ActG) (h : PairOk u others G) (H : Holds o s (World p r q t u G F)) (hwl : G.ws.length ≤ 1000000)
    (k : ∀ s' u' G', Next others u G u' G' → Holds o s' (World p r q t u' G' F) → Q (.bool true) s') : WP (call PF 63 [ptrN G.id, .agg x.cells] s) Q := by
  have f0 := H.mem World.id
  simp only [PairG.hd] at f0
  have h1 := (H.alloc (.cells x.cells none)).alloc (.cells [I 0, I 0] none)
  have hin := World.in_ (p := p) (r := r) (q := q) (t := t) (u := u) (G := G) (F := F)
  have rin := World.rin (p := p) (r := r) (q := q) (t := t) (u := u) (G := G) (F := F)
  have hrl := h.len
  have hpl := h.plen
  have hu := h.ulen
  have bad : ∀ err : Int, err = 2 ∨ err = 81 → ∀ s1, Holds o s1 ((s.next + 1, some (.cells [I 0, I 0] none)) :: (s.next, some (.cells x.cells none)) :: World p r q t u G F) →
      (∀ s2, Holds o s2 ((s1.next, some (.cells [I 0, I 0] none)) :: (s.next + 1, some (.cells [I 0, I 0] none)) :: (s.next, some (.cells x.cells none)) :: World p r q t u G F) → ∀ Q', (∀ s', Holds o s' ((s1.next, some (.cells [I 0, I 0] none)) :: (s.next + 1, some (.cells [I 0, I 0] none)) :: (s.next, some (.cells x.cells none)) :: World p r q t u G F) → Q' (.tuple [.agg [I 0, I 0], I err]) s') → WP (call PF 107 [ptrN G.hr.id, I x.a, I x.b, I x.c] s2) Q') →
      WP (go (loop PF) (call PF) j63_bb (sp 57 [(0, ptrN G.id), (3, ptrN s.next), (5, ptrN (s.next + 1)), (6, I err)]) s1 (finR [(4, none)])) Q := by
    intro err herr s1 h2 hR
    have fG := h2.tl.tl.mem World.id
    have f := h2.f2
    simp only [PairG.hd] at fG
    simp -implicitDefEqProofs only [↓GP, GB, GL, Nat.reduceAdd, Nat.reduceSub, Nat.reduceEqDiff, Nat.reduceMul, Nat.reduceLeDiff, Int.reduceBNe, Int.reduceBEq, Nat.reduceLT, reduceCtorEq, j63_bb, f, fG]
    have h3 := h2.alloc (.cells [I 0, I 0] none)
    refine wp_in (hR _ h3 _ fun s2 h4 => ?_)
    have f4 := h4.f2
    have h5 := ((h4.set0 (.cells [I 0, I 0] none)).tl).tl.tl
    rcases herr with rfl | rfl
    · simp -implicitDefEqProofs only [↓GP, GB, GL, Nat.reduceAdd, Nat.reduceSub, Nat.reduceEqDiff, Nat.reduceMul, Nat.reduceLeDiff, Int.reduceBNe, Int.reduceBEq, Nat.reduceLT, reduceCtorEq, f4, words_eq, Int.reduceBEq]
      exact k _ u G h.nx h5
    · simp -implicitDefEqProofs only [↓GP, GB, GL, Nat.reduceAdd, Nat.reduceSub, Nat.reduceEqDiff, Nat.reduceMul, Nat.reduceLeDiff, Int.reduceBNe, Int.reduceBEq, Nat.reduceLT, reduceCtorEq, f4, words_eq, Int.reduceBEq]
      exact k _ u G h.nx h5
  by_cases hb : 0 ≤ x.a ∧ x.a < G.hp.regs.length
  · obtain ⟨n, hn⟩ : ∃ n : Nat, x.a = n := ⟨x.a.toNat, by omega⟩
    obtain ⟨A, g, B, A', g', B', e1, e2, l1, l2, hm, hA, hB⟩ := h.at_ (i := n) (by omega)
    have hg : G.hp.regs[n]? = some g := by rw [e1, ← l1]; simp
    have hg' : G.hr.regs[n]? = some g' := by rw [e2, ← l2]; simp
    have mg : g ∈ G.hp.regs := by rw [e1]; simp
    have mg' : g' ∈ G.hr.regs := by rw [e2]; simp
    have ok := h.okp mg
    have ok' := h.okr mg'
    have hsz : g.size = g'.size := congrArg Reg.size hm
    have hlf : g.life = g'.life := congrArg Reg.life hm
    have hfl : g.fill = g'.fill := congrArg Reg.fill hm
    have hpg : g.pages = g'.pages := congrArg Reg.pages hm
    have hob : g.objs.map (·.b) = g'.objs.map (·.b) := congrArg Reg.objs hm
    have hol : g.objs.length = g'.objs.length := by have := congrArg List.length hob; simpa using this
    have hop := h.pol mg
    have hlife := ok'.1.life
    by_cases hbs : BadStore g x.b x.c
    · have hbs' : RBadStore g' x.b x.c := by
        rcases hbs with h | h | ⟨h, h'⟩
        · exact .inl h
        · exact .inr (.inl h)
        · refine .inr (.inr ⟨by omega, h'.imp (fun h => by omega) fun h => ?_⟩)
          intro e; rw [e] at hol; exact h (List.length_eq_zero_iff.1 hol)
      rw [call_run F63]; simp -implicitDefEqProofs only [↓GP, GB, GL, Nat.reduceAdd, Nat.reduceSub, Nat.reduceEqDiff, Nat.reduceMul, Nat.reduceLeDiff, Int.reduceBNe, Int.reduceBEq, Nat.reduceLT, reduceCtorEq, c63, f0]
      rw [hn]
      refine wp_in (s34_bad h1 ((hin.cons _).cons _).id ((hin.cons _).cons _).row (by omega) hg (((hin.cons _).cons _).hd mg) hbs fun s1 h2 => ?_)
      have f2 := h2.f1
      simp only [alloc_next] at f2
      simp -implicitDefEqProofs only [↓GP, GB, GL, Nat.reduceAdd, Nat.reduceSub, Nat.reduceEqDiff, Nat.reduceMul, Nat.reduceLeDiff, Int.reduceBNe, Int.reduceBEq, Nat.reduceLT, reduceCtorEq, f2]
      refine bad 2 (.inl rfl) _ (h2.set0 _) fun s2 h3 Q' hq => ?_
      rw [hn]
      exact s107_bad h3 (((rin.cons _).cons _).cons _) hg' hlife hbs' fun s3 h4 => hq s3 h4
    · obtain ⟨kd, hkd⟩ : ∃ kd : Nat, x.b = kd := ⟨x.b.toNat, by unfold BadStore at hbs; omega⟩
      obtain ⟨wd, hwd⟩ : ∃ wd : Nat, x.c = wd := ⟨x.c.toNat, by unfold BadStore at hbs; omega⟩
      have hgs : GoodStore g kd wd := by
        unfold BadStore at hbs
        rw [hkd, hwd] at hbs
        refine ⟨by omega, by omega, by omega, by omega, fun hs => ?_⟩
        refine ⟨by omega, ?_⟩
        rcases Classical.em (g.objs = []) with h | h
        · exact h
        · exact absurd (.inr (.inr ⟨hs, .inr h⟩)) hbs
      have hgs' : RGoodStore g' kd wd := by
        obtain ⟨b1, b2, b3, b4, b5⟩ := hgs
        refine ⟨b1, b2, b3, b4, fun hs => ?_⟩
        obtain ⟨c1, c2⟩ := b5 (by omega)
        exact ⟨by omega, by rw [c2] at hol; exact List.length_eq_zero_iff.1 hol.symm⟩
      rw [call_run F63]; simp -implicitDefEqProofs only [↓GP, GB, GL, Nat.reduceAdd, Nat.reduceSub, Nat.reduceEqDiff, Nat.reduceMul, Nat.reduceLeDiff, Int.reduceBNe, Int.reduceBEq, Nat.reduceLT, reduceCtorEq, c63, f0]
      rw [hn, hkd, hwd]
      cases hput : putM u g.size g.life g.fill g.pages (wd + 1) with
      | none =>
        have h34 := fun Q' => s34_full (o := o) (s := (s.alloc (.cells x.cells none)).alloc (.cells [I 0, I 0] none)) (Q := Q') (hp := G.hp) (p := p) (r := r) (u := u) (A := A) (B := B) (g := g) (F := (s.next + 1, some (.cells [I 0, I 0] none)) :: (s.next, some (.cells x.cells none)) :: (poolC q t u ++ (G.pc ++ (G.hr.ch q ++ F)))) (Holds.of (h1) (fun k => by simp +arith only [alloc_next, HA, HB]) (fun k x => by simp only [alloc_next, HA, HC]; grind only)) e1 hpl (by omega) ok.1 hgs hput
        rw [l1] at h34
        refine wp_in (h34 _ fun s1 h2 => ?_)
        have h2' : Holds o s1 ((s.next + 1, some (.cells [I 0, I 0] none)) :: (s.next, some (.cells x.cells none)) :: World p r q t u G F) := (Holds.of (h2) (fun k => by simp +arith only [HA, HB]) (fun k x => by simp only [HA, HC]; grind only))
        simp -implicitDefEqProofs only [↓GP, GB, GL, Nat.reduceAdd, Nat.reduceSub, Nat.reduceEqDiff, Nat.reduceMul, Nat.reduceLeDiff, Int.reduceBNe, Int.reduceBEq, Nat.reduceLT, reduceCtorEq, h2'.f1]
        refine bad 81 (.inr rfl) _ (h2'.set0 _) fun s2 h3 Q' hq => ?_
        rw [hn, hkd, hwd]
        have h107 := fun Q' => s107_full (o := o) (s := s2) (Q := Q') (hr := G.hr) (p := q) (r := t) (u := u) (A := A') (B := B') (g := g') (F := (s1.next, some (.cells [I 0, I 0] none)) :: (s.next + 1, some (.cells [I 0, I 0] none)) :: (s.next, some (.cells x.cells none)) :: (poolC p r u ++ (G.pc ++ (G.hp.ch p ++ F)))) (Holds.of (h3) (fun k => by simp +arith only [HA, HB]) (fun k x => by simp only [HA, HC]; grind only)) e2 (by omega) ok'.1.b hgs' (by rw [← hput, hsz, hlf, hfl, hpg])
        rw [l2] at h107
        exact h107 _ fun s3 h4 => hq s3 (Holds.of (h4) (fun k => by simp +arith only [HA, HB]) (fun k x => by simp only [HA, HC]; grind only))
      | some res =>
        obtain ⟨at_, u', fill, pages⟩ := res
        have hput' : putM u g'.size g'.life g'.fill g'.pages (wd + 1) = some (at_, u', fill, pages) := by rw [← hput, hsz, hlf, hfl, hpg]
        obtain ⟨hri, hpool, hfresh⟩ := (h.inv.reg g.m (List.mem_map.2 ⟨g, mg, rfl⟩)).put (h.pool1 e1) (kind := kd) (n := wd) (by have := hgs.2.1; omega) ⟨hgs.2.2.1, hgs.2.2.2.1⟩ (fun hs => by have := (hgs.2.2.2.2 hs).2; simp [PReg.m, this]) hput (List.replicate wd (0, 0)) (by simp) zeros_in
        have hf : ∀ y ∈ g.objs, y.b.at_ ≠ at_ := fun y hy => hfresh y.b (List.mem_map.2 ⟨y, hy, rfl⟩)
        have h34 := fun Q' => s34 (o := o) (s := (s.alloc (.cells x.cells none)).alloc (.cells [I 0, I 0] none)) (Q := Q') (hp := G.hp) (p := p) (r := r) (u := u) (A := A) (B := B) (g := g) (F := (s.next + 1, some (.cells [I 0, I 0] none)) :: (s.next, some (.cells x.cells none)) :: (poolC q t u ++ (G.pc ++ (G.hr.ch q ++ F)))) (Holds.of (h1) (fun k => by simp +arith only [alloc_next, HA, HB]) (fun k x => by simp only [alloc_next, HA, HC]; grind only)) e1 hpl (by omega) ok.1 (h.pok g mg) (by omega) hgs hput hf
        rw [l1] at h34
        refine wp_in (h34 _ fun s1 pgk obk pl xid wid okp h2 => ?_)
        generalize hgd : (({ g with pgk := pgk, pages := pages, fill := fill } : PReg).lay obk pl ⟨xid, wid, ⟨at_, kd, List.replicate wd (0, 0)⟩⟩) = g1 at okp h2
        have h3 : Holds o s1 ((s.next + 1, some (.cells [I 0, I 0] none)) :: (s.next, some (.cells x.cells none)) :: (G.id, some (.cells [ptrN G.hp.id, ptrN G.hr.id, rowV G.wk G.ws.length] none)) :: (poolC q t u ++ (G.hr.ch q ++ ((G.wk, rowO 2 G.ws.length (G.ws.flatMap encW)) :: (poolC p r u' ++ (PHeap.ch p { G.hp with regs := A ++ g1 :: B } ++ F)))))) := (Holds.of (h2) (fun k => by simp +arith only [HA, HB]) (fun k x => by simp only [HA, HC]; grind only))
        have f3 := h3.f3
        simp only [ActG.cells, hn, hkd, hwd] at f3
        simp -implicitDefEqProofs only [↓GP, GB, GL, Nat.reduceAdd, Nat.reduceSub, Nat.reduceEqDiff, Nat.reduceMul, Nat.reduceLeDiff, Int.reduceBNe, Int.reduceBEq, Nat.reduceLT, reduceCtorEq, j63_bb, f3]
        have h4 := (h3.set0 (.cells [I at_, I g.life] none)).alloc (.cells [I 0, I 0] none)
        have h107 := fun Q' => s107 (o := o) (s := (s1.set (s.next + 1) (.cells [I at_, I g.life] none)).alloc (.cells [I 0, I 0] none)) (Q := Q') (hr := G.hr) (p := q) (r := t) (u := u) (A := A') (B := B') (g := g') (F := (s1.next, some (.cells [I 0, I 0] none)) :: (s.next + 1, some (.cells [I at_, I g.life] none)) :: (G.id, some (.cells [ptrN G.hp.id, ptrN G.hr.id, rowV G.wk G.ws.length] none)) :: ((G.wk, rowO 2 G.ws.length (G.ws.flatMap encW)) :: (poolC p r u' ++ (PHeap.ch p { G.hp with regs := A ++ g1 :: B } ++ F)))) (Holds.of (h4) (fun k => by simp +arith only [set_next, HA, HB]) (fun k x => by simp only [set_next, HA, HC]; grind only)) e2 (by omega) ok'.1.b hgs' (by omega) (h.pz g' (by rw [e2]; simp)) hput'
        rw [l2] at h107
        refine wp_in (h107 _ fun s2 pgk' obk' wid' hz' h5 => ?_)
        generalize hgd' : ({ g' with pgk := pgk', obk := obk', fill := fill, pages := pages, objs := g'.objs ++ [⟨wid', ⟨at_, kd, List.replicate wd (0, 0)⟩, false⟩] } : RReg) = g1' at h5
        have h6 : Holds o s2 ((s1.next, some (.cells [I 0, I 0] none)) :: (s.next + 1, some (.cells [I at_, I g.life] none)) :: (G.id, some (.cells [ptrN G.hp.id, ptrN G.hr.id, rowV G.wk G.ws.length] none)) :: (G.wk, rowO 2 G.ws.length (G.ws.flatMap encW)) :: (poolC p r u' ++ (PHeap.ch p { G.hp with regs := A ++ g1 :: B } ++ (poolC q t u' ++ (RHeap.ch q { G.hr with regs := A' ++ g1' :: B' } ++ F))))) := (Holds.of (h5) (fun k => by simp +arith only [HA, HB]) (fun k x => by simp only [HA, HC]; grind only))
        have f6 := h6.f3
        rw [← hlf] at *
        simp -implicitDefEqProofs only [↓GP, GB, GL, Nat.reduceAdd, Nat.reduceSub, Nat.reduceEqDiff, Nat.reduceMul, Nat.reduceLeDiff, Int.reduceBNe, Int.reduceBEq, Nat.reduceLT, reduceCtorEq, f6]
        have h7 := (h6.set0 (.cells [I at_, I g.life] none)).alloc (.cells [I at_, I g.life] none)
        refine wp_append (cs := G.ws.flatMap encW) (h7.r4) (by rw [tab_len encW_len]) (new_cells' (alloc_new_same _ _) rfl) rfl rfl (by omega) (by unfold maxRow; omega) (by unfold maxRow; omega) fun wk' s3 h8 => ?_
        have h9 := h8.r1.tl
        have f9 := h9.tl.f3
        simp -implicitDefEqProofs only [↓GP, GB, GL, Nat.reduceAdd, Nat.reduceSub, Nat.reduceEqDiff, Nat.reduceMul, Nat.reduceLeDiff, Int.reduceBNe, Int.reduceBEq, Nat.reduceLT, reduceCtorEq, f9, words_eq, Int.reduceBEq]
        have h10 := h9.set3 (.cells [ptrN G.hp.id, ptrN G.hr.id, rowV wk' (G.ws.length + 1)] none)
        refine k _ u' { G with wk := wk', hp := { G.hp with regs := A ++ g1 :: B }, hr := { G.hr with regs := A' ++ g1' :: B' }, ws := G.ws ++ [((at_ : Int), (g.life : Int))] } ?_ ?_
        · have hup := h.upd (u' := u') (g1 := g1) (g1' := g1') e1 e2 hA hB (by subst hgd hgd'; simp [PReg.m, PReg.lay, RReg.m, hsz, hlf, hob]) (by subst hgd; rfl) (by subst hgd; simpa [PReg.m, PReg.lay] using hri) okp (by subst hgd'; exact hz') (putM_len hput) (by subst hgd; exact hpool)
          exact ⟨rfl, rfl, rfl, ⟨hup.ulen, hup.lives, hup.same, hup.inv, hup.pool, hup.pok, hup.grown, hup.pz, hup.one⟩, putM_len hput, by simp, by simp⟩
        · have he : (G.ws ++ [((at_ : Int), (g.life : Int))]).flatMap encW = G.ws.flatMap encW ++ [I at_, I g.life] := by rw [List.flatMap_append]; rfl
          exact (Holds.of (h10) (fun k => by simp +arith only [he, List.length_append, List.length_cons, List.length_nil, Nat.zero_add, HA, HB]) (fun k x => by simp only [he, List.length_append, List.length_cons, List.length_nil, Nat.zero_add, HA, HC]; grind only))
  · rw [call_run F63]; simp -implicitDefEqProofs only [↓GP, GB, GL, Nat.reduceAdd, Nat.reduceSub, Nat.reduceEqDiff, Nat.reduceMul, Nat.reduceLeDiff, Int.reduceBNe, Int.reduceBEq, Nat.reduceLT, reduceCtorEq, c63, f0]
    refine wp_in (s34_err h1 (AtErr.of ((hin.cons _).cons _) h.pne hpl hb) rfl rfl fun s1 h2 => ?_)
    have f2 := h2.f1
    simp only [alloc_next] at f2
    simp -implicitDefEqProofs only [↓GP, GB, GL, Nat.reduceAdd, Nat.reduceSub, Nat.reduceEqDiff, Nat.reduceMul, Nat.reduceLeDiff, Int.reduceBNe, Int.reduceBEq, Nat.reduceLT, reduceCtorEq, f2]
    refine bad 2 (.inl rfl) _ (h2.set0 _) fun s2 h3 Q' hq => ?_
    exact s107_err h3 (RAtErr.of (((rin.cons _).cons _).cons _) h.rne (by rw [← hrl]; exact hb)) fun s3 h4 => hq s3 h4
end
end Go.Proofs.Ytoldkemimhebaaa

set_option linter.unusedSimpArgs false
set_option linter.unusedVariables false
namespace Go.Proofs.Ytoldkemimhebaaa
open Go Go.IM
section
variable {o : Nat → Option O} {s : St} {C F : Ch} {Q : V → St → Prop} {p r q t : Nat} {u : List Bool} {others : List Nat} {G : PairG}
set_option maxRecDepth 10000
set_option maxHeartbeats 4000000
theorem RInv.congr {rg rg' : Reg} (h : RInv rg) (h1 : rg'.size = rg.size) (h2 : rg'.life = rg.life) (h3 : rg'.fill = rg.fill) (h4 : rg'.pages = rg.pages) (h5 : rg'.objs.map (fun x => (x.at_, x.kind, x.ws.length)) = rg.objs.map (fun x => (x.at_, x.kind, x.ws.length))) (h6 : ∀ x ∈ rg'.objs, ∀ w ∈ x.ws, 0 ≤ w.2 ∧ w.2 ≤ 100000) : RInv rg' := by
  have len : rg'.objs.length = rg.objs.length := by have := congrArg List.length h5; simpa using this
  have tr : ∀ x ∈ rg'.objs, ∃ y ∈ rg.objs, y.at_ = x.at_ ∧ y.kind = x.kind ∧ y.ws.length = x.ws.length := by
    intro x hx
    have : (x.at_, x.kind, x.ws.length) ∈ rg.objs.map (fun x => (x.at_, x.kind, x.ws.length)) := by rw [← h5]; exact List.mem_map.2 ⟨x, hx, rfl⟩
    obtain ⟨y, hy, e⟩ := List.mem_map.1 this
    simp only [Prod.mk.injEq] at e
    exact ⟨y, hy, e⟩
  refine ⟨by rw [h1]; exact h.size, fun x hx => ?_, fun hs => ?_, fun hs => ?_, h6⟩
  · obtain ⟨y, hy, _, e2, e3⟩ := tr x hx
    have := h.ws y hy
    omega
  · rw [h1] at hs
    obtain ⟨k1, k2, k3, k4⟩ := h.fin hs
    refine ⟨by rw [h4]; exact k1, by rw [h3]; exact k2, by rw [len]; exact k3, fun x hx => ?_⟩
    obtain ⟨y, hy, e1, _⟩ := tr x hx
    rw [h2, ← k4 y hy, e1]
  · rw [h1] at hs
    have := h.inf hs
    have e : rg'.objs.map (fun x => (x.at_, x.ws.length + 1)) = rg.objs.map (fun x => (x.at_, x.ws.length + 1)) := by
      have := congrArg (List.map fun z : Nat × Nat × Nat => (z.1, z.2.2 + 1)) h5
      simpa [List.map_map, Function.comp_def] using this
    rw [e, h3, h4]; exact this
def PObj.write (x : PObj) (i : Nat) (w : Int × Int) : PObj := { x with b := { x.b with ws := x.b.ws.set i w } }
def RObj.write (x : RObj) (i : Nat) (w : Int × Int) : RObj := { x with b := { x.b with ws := x.b.ws.set i w } }
theorem ok_write {g : PReg} {X Y : List PObj} {x : PObj} (e : g.objs = X ++ x :: Y) (h : g.ok) (i : Nat) (w : Int × Int) : PReg.ok { g with objs := X ++ x.write i w :: Y } := by
  obtain ⟨l, c, e1, hl⟩ := h
  refine ⟨l, c, e1, fun a => (hl a).trans ?_⟩
  simp only [e, List.find?_append, List.find?_cons]
  have : (x.write i w).b.at_ = x.b.at_ := rfl
  rw [this]
  cases List.find? (fun x => decide ((x.b.at_ : Int) = a)) X with
  | some _ => rfl
  | none => simp only [Option.none_or]; cases decide ((x.b.at_ : Int) = a) <;> rfl
theorem PairOk.write (h : PairOk u others G) {A B : List PReg} {A' B' : List RReg} {g : PReg} {g' : RReg} {X Y : List PObj} {X' Y' : List RObj} {x : PObj} {x' : RObj} (e1 : G.hp.regs = A ++ g :: B) (e2 : G.hr.regs = A' ++ g' :: B') (hA : A.map PReg.m = A'.map RReg.m) (hB : B.map PReg.m = B'.map RReg.m) (hm : g.m = g'.m)
    (ex : g.objs = X ++ x :: Y) (ex' : g'.objs = X' ++ x' :: Y') (hX : X.length = X'.length) (i : Nat) (w : Int × Int) (hw : 0 ≤ w.2 ∧ w.2 ≤ 100000) :
    PairOk u others { G with hp := { G.hp with regs := A ++ { g with objs := X ++ x.write i w :: Y } :: B }, hr := { G.hr with regs := A' ++ { g' with objs := X' ++ x'.write i w :: Y' } :: B' } } := by
  have mg : g ∈ G.hp.regs := by rw [e1]; simp
  have hob : g.objs.map (·.b) = g'.objs.map (·.b) := congrArg Reg.objs hm
  have hsz : g.size = g'.size := congrArg Reg.size hm
  have hlf : g.life = g'.life := congrArg Reg.life hm
  have hfl : g.fill = g'.fill := congrArg Reg.fill hm
  have hpg : g.pages = g'.pages := congrArg Reg.pages hm
  rw [ex, ex'] at hob
  simp only [List.map_append, List.map_cons] at hob
  obtain ⟨k1, k2⟩ := List.append_inj hob (by simpa using hX)
  simp only [List.cons.injEq] at k2
  have hri := (h.inv.reg g.m (List.mem_map.2 ⟨g, mg, rfl⟩)).congr (rg' := PReg.m { g with objs := X ++ x.write i w :: Y }) rfl rfl rfl rfl (by simp [PReg.m, ex, PObj.write]) (fun z hz v hv => by
    have hwl := (h.inv.reg g.m (List.mem_map.2 ⟨g, mg, rfl⟩)).wl
    simp only [PReg.m, ex, List.map_append, List.map_cons, List.mem_append, List.mem_cons] at hz hwl
    rcases hz with hz | rfl | hz
    · exact hwl z (.inl hz) v hv
    · rcases List.mem_or_eq_of_mem_set hv with hv | rfl
      · exact hwl x.b (.inr (.inl rfl)) v hv
      · exact hw
    · exact hwl z (.inr (.inr hz)) v hv)
  exact h.upd (u' := u) e1 e2 hA hB (by simp [PReg.m, RReg.m, hsz, hlf, hfl, hpg, k1, k2.2, PObj.write, RObj.write, k2.1]) rfl hri (ok_write ex (h.pok g mg) i w) (h.pz g' (by rw [e2]; simp)) rfl (h.pool1 (g := g) e1)
theorem list_split {α : Type} {l : List α} {i : Nat} {x : α} (h : l[i]? = some x) : l = l.take i ++ x :: l.drop (i + 1) ∧ (l.take i).length = i := by
  obtain ⟨hi, e⟩ := List.getElem?_eq_some_iff.1 h
  refine ⟨?_, by simp; omega⟩
  rw [← e, ← List.drop_eq_getElem_cons hi, List.take_append_drop]
theorem PairOk.find (h : PairOk u others G) {N L : Int} (hL : 1 ≤ L) :
    (rfind N L G.hr.regs 0 = none ∧ pfind N L G.hp.regs = none) ∨
    ∃ a b A g B A' g' B' X x Y X' x' Y', rfind N L G.hr.regs 0 = some (a, b) ∧ pfind N L G.hp.regs = some x ∧ G.hr.regs[a]? = some g' ∧ g'.objs[b]? = some x' ∧ x.b = x'.b ∧ g ∈ G.hp.regs ∧ x ∈ g.objs ∧
      G.hp.regs = A ++ g :: B ∧ G.hr.regs = A' ++ g' :: B' ∧ A.map PReg.m = A'.map RReg.m ∧ B.map PReg.m = B'.map RReg.m ∧ g.m = g'.m ∧ g.objs = X ++ x :: Y ∧ g'.objs = X' ++ x' :: Y' ∧ X.length = X'.length := by
  have hf := find_same (N := N) hL G.hp.regs G.hr.regs 0 h.same
  cases hr : rfind N L G.hr.regs 0 with
  | none => rw [hr] at hf; exact .inl ⟨rfl, hf⟩
  | some ab =>
    obtain ⟨a, b⟩ := ab
    rw [hr] at hf
    obtain ⟨g, g', x, x', _, k1, k2, k3, k4, k5, k6, k7, _, _⟩ := hf
    rw [Nat.sub_zero] at k1 k2
    obtain ⟨e1, l1⟩ := list_split k1
    obtain ⟨e2, l2⟩ := list_split k2
    obtain ⟨e3, l3⟩ := list_split k3
    obtain ⟨e4, l4⟩ := list_split k4
    refine .inr ⟨a, b, _, g, _, _, g', _, _, x, _, _, x', _, rfl, k7, k2, k4, k5, List.mem_of_getElem? k1, List.mem_of_getElem? k3, e1, e2, ?_, ?_, k6, e3, e4, by omega⟩
    · rw [List.map_take, List.map_take, h.same]
    · rw [List.map_drop, List.map_drop, h.same]
theorem bb_true {VL : Int} (h : 0 ≤ VL ∧ VL ≤ 100000) : (decide (0 ≤ VL) && decide (VL ≤ 100000)) = true := by simpa using h
theorem bb_iff {VL : Int} : (decide (0 ≤ VL) && decide (VL ≤ 100000)) = true ↔ (0 ≤ VL ∧ VL ≤ 100000) := by simp
theorem PairOk.setCases (h : PairOk u others G) {D : Ch} (hin : In D p G.hp) (rin : RIn D q G.hr) (N L i VL : Int) :
    (∃ err : Int, WordErr D (ptrN G.hp.id) N L i (decide (0 ≤ VL) && decide (VL ≤ 100000)) err ∧ RSetErr D (ptrN G.hr.id) N L i VL err) ∨
    (1 ≤ L ∧ 0 ≤ VL ∧ VL ≤ 100000 ∧ ∃ n : Nat, i = n ∧ ∃ a b A g B A' g' B' X x Y X' x' Y', rfind N L G.hr.regs 0 = some (a, b) ∧ pfind N L G.hp.regs = some x ∧ G.hr.regs[a]? = some g' ∧ g'.objs[b]? = some x' ∧ x.b = x'.b ∧ g ∈ G.hp.regs ∧ x ∈ g.objs ∧
      G.hp.regs = A ++ g :: B ∧ G.hr.regs = A' ++ g' :: B' ∧ A.map PReg.m = A'.map RReg.m ∧ B.map PReg.m = B'.map RReg.m ∧ g.m = g'.m ∧ g.objs = X ++ x :: Y ∧ g'.objs = X' ++ x' :: Y' ∧ X.length = X'.length ∧ n < x.b.ws.length ∧ x.b.ws.length ≤ 31) := by
  by_cases hL : 1 ≤ L
  · by_cases hv : 0 ≤ VL ∧ VL ≤ 100000
    · rcases h.find (N := N) hL with ⟨h1, h2⟩ | ⟨a, b, A, g, B, A', g', B', X, x, Y, X', x', Y', k1, k2, k3, k4, k5, k6, k7, k8⟩
      · exact .inl ⟨80, .inl (.inr ⟨G.hp, p, rfl, hin, h.pne, h.plen, h.pok, .inr ⟨rfl, by omega, bb_true hv, h2⟩⟩), .inr ⟨G.hr, q, rfl, rin, h.rne, h.rlen, h.rol', .inr ⟨hL, hv.1, hv.2, .inl ⟨rfl, h1⟩⟩⟩⟩
      · have hws := (h.inv.reg g.m (List.mem_map.2 ⟨g, k6, rfl⟩)).ws x.b (List.mem_map.2 ⟨x, k7, rfl⟩)
        by_cases hi : 0 ≤ i ∧ i < x.b.ws.length
        · exact .inr ⟨hL, hv.1, hv.2, i.toNat, by omega, a, b, A, g, B, A', g', B', X, x, Y, X', x', Y', k1, k2, k3, k4, k5, k6, k7, k8.1, k8.2.1, k8.2.2.1, k8.2.2.2.1, k8.2.2.2.2.1, k8.2.2.2.2.2.1, k8.2.2.2.2.2.2.1, k8.2.2.2.2.2.2.2, by omega, hws.2.1⟩
        · refine .inl ⟨2, .inr ⟨rfl, bb_true hv, by omega, G.hp, p, x, rfl, hin, h.pne, h.plen, h.pok, k2, hws.2.1, List.length_pos_iff.1 (by omega), hi⟩, .inr ⟨G.hr, q, rfl, rin, h.rne, h.rlen, h.rol', .inr ⟨hL, hv.1, hv.2, .inr ⟨rfl, a, b, g', x', k1, k3, k4, by rw [← k5]; exact hi⟩⟩⟩⟩
    · exact .inl ⟨2, .inl (.inr ⟨G.hp, p, rfl, hin, h.pne, h.plen, h.pok, .inl ⟨rfl, fun k => hv (bb_iff.1 k.2)⟩⟩), .inr ⟨G.hr, q, rfl, rin, h.rne, h.rlen, h.rol', .inl ⟨rfl, fun k => hv k.2⟩⟩⟩
  · exact .inl ⟨2, .inl (.inr ⟨G.hp, p, rfl, hin, h.pne, h.plen, h.pok, .inl ⟨rfl, fun k => hL (by omega)⟩⟩), .inr ⟨G.hr, q, rfl, rin, h.rne, h.rlen, h.rol', .inl ⟨rfl, fun k => hL k.1⟩⟩⟩
theorem do_set (x : ActG) (hd : intI .rem .u8 x.d 8 = some (.int .u8 4)) (h : PairOk u others G) (H : Holds o s (World p r q t u G F))
    (k : ∀ s' u' G', Next others u G u' G' → Holds o s' (World p r q t u' G' F) → Q (.bool true) s') : WP (call PF 26 [ptrN G.id, .agg x.cells] s) Q := by
  have h1 := H.alloc (.cells x.cells none)
  have hin := World.in_ (p := p) (r := r) (q := q) (t := t) (u := u) (G := G) (F := F)
  have rin := World.rin (p := p) (r := r) (q := q) (t := t) (u := u) (G := G) (F := F)
  have hpl := h.plen
  have hrl := h.rlen
  rw [call_run F26]; simp -implicitDefEqProofs only [↓GP, GB, GL, Nat.reduceAdd, Nat.reduceSub, Nat.reduceEqDiff, Nat.reduceMul, Nat.reduceLeDiff, Int.reduceBNe, Int.reduceBEq, Nat.reduceLT, reduceCtorEq, c26, hd, Int.reduceBEq]
  refine wp_in (s64 h1 (List.mem_cons_of_mem _ World.id) (List.mem_cons_of_mem _ World.wk) x fun s1 h2 => ?_)
  generalize wordG G.ws x = w
  have f2 := h2.f1
  have fG := h2.tl.mem World.id
  simp only [PairG.hd] at fG
  have h3 := (h2.alloc (.cells [I 0, I 0] none)).set0 (.cells [I w.1, I w.2] none)
  simp -implicitDefEqProofs only [↓GP, GB, GL, Nat.reduceAdd, Nat.reduceSub, Nat.reduceEqDiff, Nat.reduceMul, Nat.reduceLeDiff, Int.reduceBNe, Int.reduceBEq, Nat.reduceLT, reduceCtorEq, f2, fG, encW]
  generalize (s1.alloc (.cells [I 0, I 0] none)).set s1.next (.cells [I w.1, I w.2] none) = S at h3 ⊢
  rcases h.setCases ((hin.cons (s.next, some (.cells x.cells none))).cons (s1.next, some (.cells [I w.1, I w.2] none))) ((rin.cons (s.next, some (.cells x.cells none))).cons (s1.next, some (.cells [I w.1, I w.2] none))) w.1 w.2 x.a x.v.2 with
    ⟨err, e1, e2⟩ | ⟨hL, hv1, hv2, n, hn, a, b, A, g, B, A', g', B', X, y, Y, X', y', Y', k1, k2, k3, k4, k5, k6, k7, k8, k9, k10, k11, k12, k13, k14, k15, k16, k17⟩
  · refine wp_in (s65_err (VN := x.v.1) h3 e1 fun s2 h4 => ?_)
    have f4 := h4.f2
    have fG4 := h4.tl.tl.mem World.id
    simp only [PairG.hd] at fG4
    simp -implicitDefEqProofs only [↓GP, GB, GL, Nat.reduceAdd, Nat.reduceSub, Nat.reduceEqDiff, Nat.reduceMul, Nat.reduceLeDiff, Int.reduceBNe, Int.reduceBEq, Nat.reduceLT, reduceCtorEq, f4, fG4]
    refine wp_in (s66_err h4 e2 fun s3 h5 => ?_)
    have hbe : (err == err) = true := by simp
    simp -implicitDefEqProofs only [↓GP, GB, GL, Nat.reduceAdd, Nat.reduceSub, Nat.reduceEqDiff, Nat.reduceMul, Nat.reduceLeDiff, Int.reduceBNe, Int.reduceBEq, Nat.reduceLT, reduceCtorEq, hbe]
    exact k _ u G h.nx h5.tl.tl
  · rw [hn]
    have hin2 := (hin.cons (s.next, some (.cells x.cells none))).cons (s1.next, some (.cells [I w.1, I w.2] none))
    refine wp_in (s65 (w := x.v) (F := (s1.next, some (.cells [I w.1, I w.2] none)) :: (s.next, some (.cells x.cells none)) :: (y.id, some y.O) :: (g.id, some g.hd) :: (g.pgk, pagesO g.pages) :: (g.obk, PReg.obO g.objs) :: (g.plk, some g.pl) :: (X.flatMap PObj.ch ++ (Y.flatMap PObj.ch ++ ((G.hp.id, some (G.hp.hd p)) :: (G.hp.rowk, G.hp.row) :: (A.flatMap PReg.ch ++ (B.flatMap PReg.ch ++ (poolC p r u ++ (poolC q t u ++ (G.pc ++ (G.hr.ch q ++ F)))))))))) h3 hin2 h.pne h.plen h.pok (by omega) ⟨hv1, hv2⟩ k2 k16 k17 (fun s1 h => (Holds.of (h) (fun k => by simp +arith only [k8, k13, HA, HB]) (fun k x => by simp only [k8, k13, HA, HC]; grind only))) fun s2 h4 => ?_)
    have h5 : Holds o s2 ((s1.next, some (.cells [I w.1, I w.2] none)) :: (s.next, some (.cells x.cells none)) :: (G.id, some (.cells [ptrN G.hp.id, ptrN G.hr.id, rowV G.wk G.ws.length] none)) :: (G.hr.ch q ++ ((G.wk, rowO 2 G.ws.length (G.ws.flatMap encW)) :: (poolC p r u ++ (poolC q t u ++ (PHeap.ch p { G.hp with regs := A ++ { g with objs := X ++ y.write n x.v :: Y } :: B } ++ F)))))) :=
      (Holds.of (h4) (fun k => by simp +arith only [PObj.write, PReg.hd, PReg.obO, PObj.O, PObj.W, PHeap.hd, PHeap.row, k8, k13, List.length_append, List.length_cons, List.map_append, List.map_cons, List.length_set, HA, HB]) (fun k x => by simp only [PObj.write, PReg.hd, PReg.obO, PObj.O, PObj.W, PHeap.hd, PHeap.row, k8, k13, List.length_append, List.length_cons, List.map_append, List.map_cons, List.length_set, HA, HC]; grind only))
    have f5 := h5.f3
    simp only [ActG.cells, hn] at f5
    simp -implicitDefEqProofs only [↓GP, GB, GL, Nat.reduceAdd, Nat.reduceSub, Nat.reduceEqDiff, Nat.reduceMul, Nat.reduceLeDiff, Int.reduceBNe, Int.reduceBEq, Nat.reduceLT, reduceCtorEq, f5]
    have rin5 : RIn ((s1.next, some (.cells [I w.1, I w.2] none)) :: (s.next, some (.cells x.cells none)) :: (G.id, some (.cells [ptrN G.hp.id, ptrN G.hr.id, rowV G.wk G.ws.length] none)) :: (G.hr.ch q ++ ((G.wk, rowO 2 G.ws.length (G.ws.flatMap encW)) :: (poolC p r u ++ (poolC q t u ++ (PHeap.ch p { G.hp with regs := A ++ { g with objs := X ++ y.write n x.v :: Y } :: B } ++ F)))))) q G.hr :=
      ⟨fun z hz => List.mem_cons_of_mem _ (List.mem_cons_of_mem _ (List.mem_cons_of_mem _ (List.mem_append_left _ hz)))⟩
    refine wp_in (s66 (w := x.v) (p := q) (F := (g'.pgk, pagesO g'.pages) :: (g'.obk, RReg.obO g'.objs) :: (X'.flatMap RObj.ch ++ (Y'.flatMap RObj.ch ++ ((G.hr.id, some (G.hr.hd q)) :: (G.hr.rowk, some G.hr.row) :: (A'.flatMap RReg.ch ++ (B'.flatMap RReg.ch ++ ((G.id, some (.cells [ptrN G.hp.id, ptrN G.hr.id, rowV G.wk G.ws.length] none)) :: (G.wk, rowO 2 G.ws.length (G.ws.flatMap encW)) :: (poolC p r u ++ (poolC q t u ++ (PHeap.ch p { G.hp with regs := A ++ { g with objs := X ++ y.write n x.v :: Y } :: B } ++ F)))))))))) h5 rin5 h.rne h.rlen h.rol' hL ⟨hv1, hv2⟩ k1 k3 k4 (by rw [← k5]; exact k16) (fun s1 h => (Holds.of (h) (fun k => by simp +arith only [k9, k14, HA, HB]) (fun k x => by simp only [k9, k14, HA, HC]; grind only))) fun s3 h6 => ?_)
    simp -implicitDefEqProofs only [↓GP, GB, GL, Nat.reduceAdd, Nat.reduceSub, Nat.reduceEqDiff, Nat.reduceMul, Nat.reduceLeDiff, Int.reduceBNe, Int.reduceBEq, Nat.reduceLT, reduceCtorEq, Int.reduceBEq]
    refine k _ u { G with hp := { G.hp with regs := A ++ { g with objs := X ++ y.write n x.v :: Y } :: B }, hr := { G.hr with regs := A' ++ { g' with objs := X' ++ y'.write n x.v :: Y' } :: B' } } ⟨rfl, rfl, rfl, h.write k8 k9 k10 k11 k12 k13 k14 k15 n x.v ⟨hv1, hv2⟩, rfl, by simp, by simp⟩ ?_
    exact (Holds.of (h6) (fun k => by simp +arith only [RObj.write, RReg.obO, RHeap.hd, RHeap.rv, RHeap.row, RReg.enc, RObj.enc, k9, k14, List.length_append, List.length_cons, List.flatMap_append, List.flatMap_cons, List.length_set, HA, HB]) (fun k x => by simp only [RObj.write, RReg.obO, RHeap.hd, RHeap.rv, RHeap.row, RReg.enc, RObj.enc, k9, k14, List.length_append, List.length_cons, List.flatMap_append, List.flatMap_cons, List.length_set, HA, HC]; grind only))
theorem PairOk.get (h : PairOk u others G) (p q : Nat) (o : Nat → Option O) (N L i : Int) :
    ∃ (w : Int × Int) (err : Int), ∀ D : Ch, In D p G.hp → RIn D q G.hr → (∀ s, Holds o s D → ∀ Q, (∀ s', Holds o s' D → Q (.tuple [.agg [I w.1, I w.2], I err]) s') → WP (call PF 67 [ptrN G.hp.id, .agg [I N, I L], I i] s) Q) ∧
      (∀ s, Holds o s D → ∀ Q, (∀ s', Holds o s' D → Q (.tuple [.agg [I w.1, I w.2], I err]) s') → WP (call PF 68 [ptrN G.hr.id, .agg [I N, I L], I i] s) Q) := by
  by_cases hL : 1 ≤ L
  · rcases h.find (N := N) hL with ⟨h1, h2⟩ | ⟨a, b, A, g, B, A', g', B', X, x, Y, X', x', Y', k1, k2, k3, k4, k5, k6, k7, k8⟩
    · exact ⟨(0, 0), 80, fun D hin rin => ⟨fun s hs Q q => s67_err hs (.inl (.inr ⟨G.hp, p, rfl, hin, h.pne, h.plen, h.pok, .inr ⟨rfl, by omega, rfl, h2⟩⟩)) q, fun s hs Q q' => s68_err hs (.inl (.inr ⟨G.hr, q, rfl, rin, h.rne, h.rlen, h.rol', .inr ⟨rfl, by omega, h1⟩⟩)) q'⟩⟩
    · have hws := (h.inv.reg g.m (List.mem_map.2 ⟨g, k6, rfl⟩)).ws x.b (List.mem_map.2 ⟨x, k7, rfl⟩)
      by_cases hi : 0 ≤ i ∧ i < x.b.ws.length
      · obtain ⟨n, hn⟩ : ∃ n : Nat, i = n := ⟨i.toNat, by omega⟩
        subst hn
        have hlt : n < x.b.ws.length := by omega
        refine ⟨x.b.ws[n], 0, fun D hin rin => ⟨fun s hs Q q => s67 (w := x.b.ws[n]) hs hin h.pne h.plen h.pok (by omega) k2 (by simp [hlt]) hws.2.1 q, fun s hs Q q' => s68 (w := x.b.ws[n]) hs rin h.rne h.rlen h.rol' (by omega) k1 k3 k4 (by rw [← k5]; simp [hlt]) q'⟩⟩
      · exact ⟨(0, 0), 2, fun D hin rin => ⟨fun s hs Q q => s67_err hs (.inr ⟨rfl, rfl, by omega, G.hp, p, x, rfl, hin, h.pne, h.plen, h.pok, k2, hws.2.1, List.length_pos_iff.1 (by omega), hi⟩) q,
          fun s hs Q q' => s68_err hs (.inr ⟨rfl, by omega, G.hr, q, a, b, g', x', rfl, rin, h.rne, h.rlen, h.rol', k1, k3, k4, by rw [← k5]; exact hi⟩) q'⟩⟩
  · exact ⟨(0, 0), 2, fun D hin rin => ⟨fun s hs Q q => s67_err hs (.inl (.inr ⟨G.hp, p, rfl, hin, h.pne, h.plen, h.pok, .inl ⟨rfl, fun k => hL (by omega)⟩⟩)) q, fun s hs Q q' => s68_err hs (.inl (.inr ⟨G.hr, q, rfl, rin, h.rne, h.rlen, h.rol', .inl ⟨rfl, by omega⟩⟩)) q'⟩⟩
theorem PairOk.head (h : PairOk u others G) (p q : Nat) (o : Nat → Option O) (N L : Int) :
    ∃ kd n err : Int, ∀ D : Ch, In D p G.hp → RIn D q G.hr → (∀ s, Holds o s D → ∀ Q, (∀ s', Holds o s' D → Q (.tuple [I kd, I n, I err]) s') → WP (call PF 30 [ptrN G.hp.id, .agg [I N, I L]] s) Q) ∧
      (∀ s, Holds o s D → ∀ Q, (∀ s', Holds o s' D → Q (.tuple [I kd, I n, I err]) s') → WP (call PF 69 [ptrN G.hr.id, .agg [I N, I L]] s) Q) := by
  by_cases hL : 1 ≤ L
  · rcases h.find (N := N) hL with ⟨h1, h2⟩ | ⟨a, b, A, g, B, A', g', B', X, x, Y, X', x', Y', k1, k2, k3, k4, k5, k6, k7, k8⟩
    · exact ⟨0, 0, 80, fun D hin rin => ⟨fun s hs Q q => s30_err hs (.inr ⟨G.hp, p, rfl, hin, h.pne, h.plen, h.pok, .inr ⟨rfl, by omega, rfl, h2⟩⟩) q, fun s hs Q q' => s69_err hs (.inr ⟨G.hr, q, rfl, rin, h.rne, h.rlen, h.rol', .inr ⟨rfl, by omega, h1⟩⟩) q'⟩⟩
    · refine ⟨x.b.kind, x.b.ws.length, 0, fun D hin rin => ⟨fun s hs Q q => s30 hs hin h.pne h.plen h.pok (by omega) k2 q, fun s hs Q q' => s69 hs rin h.rne h.rlen h.rol' (by omega) k1 k3 k4 ?_⟩⟩
      rw [← k5]; exact q'
  · exact ⟨0, 0, 2, fun D hin rin => ⟨fun s hs Q q => s30_err hs (.inr ⟨G.hp, p, rfl, hin, h.pne, h.plen, h.pok, .inl ⟨rfl, fun k => hL (by omega)⟩⟩) q, fun s hs Q q' => s69_err hs (.inr ⟨G.hr, q, rfl, rin, h.rne, h.rlen, h.rol', .inl ⟨rfl, by omega⟩⟩) q'⟩⟩
theorem beq_refl_int (a : Int) : (a == a) = true := by simp
theorem do_get (x : ActG) (hd : intI .rem .u8 x.d 8 = some (.int .u8 5)) (h : PairOk u others G) (H : Holds o s (World p r q t u G F))
    (k : ∀ s', Holds o s' (World p r q t u G F) → Q (.bool true) s') : WP (call PF 26 [ptrN G.id, .agg x.cells] s) Q := by
  have h1 := H.alloc (.cells x.cells none)
  have hin := World.in_ (p := p) (r := r) (q := q) (t := t) (u := u) (G := G) (F := F)
  have rin := World.rin (p := p) (r := r) (q := q) (t := t) (u := u) (G := G) (F := F)
  rw [call_run F26]; simp -implicitDefEqProofs only [↓GP, GB, GL, Nat.reduceAdd, Nat.reduceSub, Nat.reduceEqDiff, Nat.reduceMul, Nat.reduceLeDiff, Int.reduceBNe, Int.reduceBEq, Nat.reduceLT, reduceCtorEq, c26, hd, Int.reduceBEq]
  refine wp_in (s64 h1 (List.mem_cons_of_mem _ World.id) (List.mem_cons_of_mem _ World.wk) x fun s1 h2 => ?_)
  generalize wordG G.ws x = w
  have f2 := h2.f1
  have fG := h2.tl.mem World.id
  simp only [PairG.hd] at fG
  have h3 := ((h2.alloc (.cells [I 0, I 0] none)).set0 (.cells [I w.1, I w.2] none)).alloc (.cells [I 0, I 0] none)
  simp only [set_next, alloc_next] at h3
  simp -implicitDefEqProofs only [↓GP, GB, GL, Nat.reduceAdd, Nat.reduceSub, Nat.reduceEqDiff, Nat.reduceMul, Nat.reduceLeDiff, Int.reduceBNe, Int.reduceBEq, Nat.reduceLT, reduceCtorEq, f2, fG, encW]
  generalize ((s1.alloc (.cells [I 0, I 0] none)).set s1.next (.cells [I w.1, I w.2] none)).alloc (.cells [I 0, I 0] none) = S at h3 ⊢
  obtain ⟨v, err, hget⟩ := h.get p q o w.1 w.2 x.a
  obtain ⟨kd, n, err2, hhead⟩ := h.head p q o w.1 w.2
  refine wp_in ((hget _ (((hin.cons (s.next, some (.cells x.cells none))).cons (s1.next, some (.cells [I w.1, I w.2] none))).cons (s1.next + 1, some (.cells [I 0, I 0] none))) (((rin.cons (s.next, some (.cells x.cells none))).cons (s1.next, some (.cells [I w.1, I w.2] none))).cons (s1.next + 1, some (.cells [I 0, I 0] none)))).1 S h3 _ fun s2 h4 => ?_)
  have f4 := h4.f3
  have fG4 := h4.tl.tl.tl.mem World.id
  simp only [PairG.hd] at fG4
  have ne4 := h4.ne (b := G.id) (Holds.ids_mem.2 ⟨_, List.mem_cons_of_mem _ (List.mem_cons_of_mem _ World.id)⟩)
  simp -implicitDefEqProofs only [↓GP, GB, GL, Nat.reduceAdd, Nat.reduceSub, Nat.reduceEqDiff, Nat.reduceMul, Nat.reduceLeDiff, Int.reduceBNe, Int.reduceBEq, Nat.reduceLT, reduceCtorEq, f4, fG4, ne4]
  have h5 := (h4.set0 (.cells [I v.1, I v.2] none)).alloc (.cells [I 0, I 0] none)
  simp only [set_next, alloc_next] at h5
  generalize (s2.set (s1.next + 1) (.cells [I v.1, I v.2] none)).alloc (.cells [I 0, I 0] none) = S2 at h5 ⊢
  have hin5 := (((hin.cons (s.next, some (.cells x.cells none))).cons (s1.next, some (.cells [I w.1, I w.2] none))).cons (s1.next + 1, some (.cells [I v.1, I v.2] none)))
  have rin5 := (((rin.cons (s.next, some (.cells x.cells none))).cons (s1.next, some (.cells [I w.1, I w.2] none))).cons (s1.next + 1, some (.cells [I v.1, I v.2] none)))
  refine wp_in ((hget _ (hin5.cons (s2.next, some (.cells [I 0, I 0] none))) (rin5.cons (s2.next, some (.cells [I 0, I 0] none)))).2 S2 h5 _ fun s3 h6 => ?_)
  have f6 := h6.f3
  have fG6 := h6.tl.tl.tl.tl.mem World.id
  simp only [PairG.hd] at fG6
  have ne6 := h6.ne (b := G.id) (Holds.ids_mem.2 ⟨_, List.mem_cons_of_mem _ (List.mem_cons_of_mem _ (List.mem_cons_of_mem _ World.id))⟩)
  simp -implicitDefEqProofs only [↓GP, GB, GL, Nat.reduceAdd, Nat.reduceSub, Nat.reduceEqDiff, Nat.reduceMul, Nat.reduceLeDiff, Int.reduceBNe, Int.reduceBEq, Nat.reduceLT, reduceCtorEq, f6, fG6, ne6]
  have h7 := h6.set0 (.cells [I v.1, I v.2] none)
  have hin7 := hin5.cons (s2.next, some (.cells [I v.1, I v.2] none))
  have rin7 := rin5.cons (s2.next, some (.cells [I v.1, I v.2] none))
  refine wp_in ((hhead _ hin7 rin7).1 _ h7 _ fun s4 h8 => ?_)
  have f8 := h8.f3
  have fG8 := h8.tl.tl.tl.tl.mem World.id
  simp only [PairG.hd] at fG8
  simp -implicitDefEqProofs only [↓GP, GB, GL, Nat.reduceAdd, Nat.reduceSub, Nat.reduceEqDiff, Nat.reduceMul, Nat.reduceLeDiff, Int.reduceBNe, Int.reduceBEq, Nat.reduceLT, reduceCtorEq, f8, fG8]
  refine wp_in ((hhead _ hin7 rin7).2 _ h8 _ fun s5 h9 => ?_)
  have f9 := h9.f2
  simp -implicitDefEqProofs only [↓GP, GB, GL, Nat.reduceAdd, Nat.reduceSub, Nat.reduceEqDiff, Nat.reduceMul, Nat.reduceLeDiff, Int.reduceBNe, Int.reduceBEq, Nat.reduceLT, reduceCtorEq, f9, words_eq, beq_refl_int]
  exact k _ h9.tl.tl.tl.tl
end
end Go.Proofs.Ytoldkemimhebaaa

set_option linter.unusedSimpArgs false
set_option linter.unusedVariables false
namespace Go.Proofs.Ytoldkemimhebaaa
open Go Go.IM
def l70_0 : IC := (.seq (.seq (.seq (.region [oa 23 (.mov (.t 8)), oa 24 (.mov (.t 5)), oa 25 (.lenSlice (.t 24)), oa 26 (.bin .lss (.t 23) (.t 25))] (kp 99 [0,3,5,7,8,26]))
  (.cond (.t 26)
  (sk 99 [0,3,5,7,8])
  (sx 99 [0,3,7] 0)))
  (.seq (.block 1
  (.seq (.region [oa 29 (.mov (.t 8)), oa 30 (.fieldAddr 10 (.t 3)), oa 31 (.load none (.t 30)), oa 32 (.lenSlice (.t 31)), oa 33 (.bin .lss (.t 29) (.t 32)), oa 34 (.mov (.t 33)), oc 35 (.fieldAddr 10 (.t 3)) 34 tt, oc 36 (.load none (.t 35)) 34 tt, oc 37 (.mov (.t 8)) 34 tt, oc 38 (.indexAddr 1 (.t 36) (.t 37)) 34 tt, oc 39 (.load none (.t 38)) 34 tt, oa 40 (.pick (.t 34) (.t 39) (.c (.bool false)))] (kp 99 [0,3,5,7,8,40]))
  (.cond (.t 40)
  (.region [oa 41 (.mov (.t 7)), oa 42 (.mov (.t 5)), oa 43 (.mov (.t 8)), oa 44 (.indexAddr 2 (.t 42) (.t 43)), oa 45 (.load (some 2) (.t 44)), oa 46 (.buildSlice 1 [(.int .i64 (0)), (.int .i64 (0))] [(0, 2, (.t 45))]), oa 47 (.append 2 16 (.t 41) (.t 46)), oa 7 (.mov (.t 47))] (kp 99 [0,3,5,7,8]))
  (sk 99 [0,3,5,7,8]))))
  (.region [oa 27 (.mov (.t 8)), oa 28 (.bin .add (.t 27) (ai 1)), oa 8 (.mov (.t 28))] (kp 99 [0,3,5,7,8]))))
  (sk 99 [0,3,5,7,8]))
def j70_bbbbb : IC := (.seq (.region [oa 59 (.mov (.t 0)), oa 60 (.nilCheck (.t 59)), oa 61 (.fieldAddr 0 (.t 60)), oa 62 (.load none (.t 61)), oa 63 (.fieldAddr 2 (.t 3)), oa 64 (.load none (.t 63)), oa 65 (.mov (.t 7)), oa 66 (.call 109 [(.t 62), (.t 64), (.t 65)]), oa 58 (.mov (.t 66)), oa 67 (.extract (.t 58) 0), oa 68 (.extract (.t 58) 1), oa 9 (.mov (.t 67)), oa 10 (.mov (.t 68))] (kp 99 [0,3,7,9,10]))
  (.seq (.region [oa 70 (.mov (.t 0)), oa 71 (.nilCheck (.t 70)), oa 72 (.fieldAddr 1 (.t 71)), oa 73 (.load none (.t 72)), oa 74 (.fieldAddr 2 (.t 3)), oa 75 (.load none (.t 74)), oa 76 (.mov (.t 7)), oa 77 (.call 97 [(.t 73), (.t 75), (.t 76)]), oa 69 (.mov (.t 77)), oa 78 (.extract (.t 69) 0), oa 79 (.extract (.t 69) 1), oa 11 (.mov (.t 78)), oa 12 (.mov (.t 79))] (kp 99 [0,9,10,11,12]))
  (.seq (.seq (.region [oa 80 (.mov (.t 12)), oa 81 (.bin .eql (.t 80) (ai 0))] (kp 99 [0,9,10,11,12,81]))
  (.cond (.t 81)
  (.region [oa 82 (.mov (.t 0)), oa 83 (.mov (.t 0)), oa 84 (.nilCheck (.t 83)), oa 85 (.fieldAddr 2 (.t 84)), oa 86 (.load none (.t 85)), oa 87 (.mov (.t 11)), oa 88 (.append 2 16 (.t 86) (.t 87)), oa 89 (.nilCheck (.t 82)), oa 90 (.fieldAddr 2 (.t 89)), ob (.store 1 (.t 90) (.t 88))] (kp 99 [9,10,11,12]))
  (sk 99 [9,10,11,12])))
  (.seq (.region [oa 91 (.mov (.t 10)), oa 92 (.mov (.t 12)), oa 93 (.bin .eql (.t 91) (.t 92)), oa 94 (.mov (.t 93)), oc 95 (.mov (.t 9)) 94 tt, oc 96 (.mov (.t 11)) 94 tt, oc 97 (.call 48 [(.t 95), (.t 96)]) 94 tt, oa 98 (.pick (.t 94) (.t 97) (.c (.bool false))), oa 4 (.mov (.t 98))] (kp 99 [4]))
  (sr 99 [4])))))
def j70_bbbb : IC := (.seq (.seq (.region [oa 48 (.fieldAddr 3 (.t 3)), oa 49 (.load none (.t 48)), oa 50 (.bin .rem (.t 49) (ai 5)), oa 51 (.bin .eql (.t 50) (ai 4))] (kp 99 [0,3,7,51]))
  (.cond (.t 51)
  (.region [oa 52 (.mov (.t 7)), oa 53 (.mov (.t 0)), oa 54 (.load (some 11) (.t 3)), oa 55 (.call 64 [(.t 53), (.t 54)]), oa 56 (.buildSlice 1 [(.int .i64 (0)), (.int .i64 (0))] [(0, 2, (.t 55))]), oa 57 (.append 2 16 (.t 52) (.t 56)), oa 7 (.mov (.t 57))] (kp 99 [0,3,7]))
  (sk 99 [0,3,7])))
  j70_bbbbb)
def c70 : IFn := ⟨99, [(4, none)],
  (.seq (.region [oa 3 (.box (.t 1)), oa 4 (.mov (.c (.bool false)))] (kp 99 [0,3]))
  (.seq (.region [oa 14 (.mov (.t 0)), oa 15 (.nilCheck (.t 14)), oa 16 (.fieldAddr 1 (.t 15)), oa 17 (.load none (.t 16)), oa 18 (.fieldAddr 2 (.t 3)), oa 19 (.load none (.t 18)), oa 20 (.call 81 [(.t 17), (.t 19)]), oa 13 (.mov (.t 20)), oa 21 (.extract (.t 13) 0), oa 22 (.extract (.t 13) 1), oa 5 (.mov (.t 21)), oa 6 (.mov (.t 22))] (kp 99 [0,3,5]))
  (.seq (.region [oa 7 (.mov (.c (.slice none 0 (some 0))))] (kp 99 [0,3,5,7]))
  (.seq (.seq (.region [oa 8 (.mov (ai 0))] (kp 99 [0,3,5,7,8]))
  (.block 0
  (.seq (sk 99 [0,3,5,7,8])
  (.loop l70_0))))
  j70_bbbb))))⟩
theorem F70 : shutF Try.prog 70 = some c70 := by kernel_rfl
section
variable {o : Nat → Option O} {s : St} {C F : Ch} {Q : V → St → Prop} {p r q t : Nat} {u : List Bool} {others : List Nat} {G : PairG}
set_option maxRecDepth 10000
set_option maxHeartbeats 4000000
theorem relay_map : ∀ (xs : List PObj) (ats : List Nat), ats.length = xs.length → (relay xs ats).map (fun x => (x.b.at_, x.b.ws.length + 1)) = ats.zip (xs.map fun x => x.b.ws.length + 1)
  | [], [], _ => rfl
  | [], _ :: _, h => by simp at h
  | _ :: _, [], h => by simp at h
  | x :: xs, a :: ats, h => by simp only [relay, List.zipWith_cons_cons, List.map_cons, List.zip_cons_cons]; rw [show (x.at a).b.at_ = a from rfl, show (x.at a).b.ws = x.b.ws from rfl]; congr 1; exact relay_map xs ats (by simpa using h)
theorem relay_enc (life : Nat) : ∀ (xs : List PObj) (ats : List Nat), ats.length = xs.length → (relay xs ats).flatMap (encP life) = (ats.map fun a : Nat => ((a : Int), (life : Int))).flatMap encW
  | [], [], _ => rfl
  | [], _ :: _, h => by simp at h
  | _ :: _, [], h => by simp at h
  | x :: xs, a :: ats, h => by
    have ih := relay_enc life xs ats (by simpa using h)
    simp only [relay, List.zipWith_cons_cons, List.flatMap_cons, List.map_cons] at ih ⊢
    rw [ih]; rfl
theorem rrelay_enc (life : Nat) : ∀ (xs : List RObj) (ats : List Nat), ats.length = xs.length → (rrelay xs ats).flatMap (rencP life) = (ats.map fun a : Nat => ((a : Int), (life : Int))).flatMap encW
  | [], [], _ => rfl
  | [], _ :: _, h => by simp at h
  | _ :: _, [], h => by simp at h
  | x :: xs, a :: ats, h => by
    have ih := rrelay_enc life xs ats (by simpa using h)
    simp only [rrelay, List.zipWith_cons_cons, List.flatMap_cons, List.map_cons] at ih ⊢
    rw [ih]; rfl
theorem relay_same : ∀ (xs : List PObj) (xs' : List RObj) (ats : List Nat), xs.map (·.b) = xs'.map (·.b) → (relay xs ats).map (·.b) = (rrelay xs' ats).map (·.b)
  | [], [], _, _ => rfl
  | [], _ :: _, _, h => by simp at h
  | _ :: _, [], _, h => by simp at h
  | x :: xs, y :: ys, [], h => rfl
  | x :: xs, y :: ys, a :: ats, h => by
    simp only [List.map_cons, List.cons.injEq] at h
    have ih := relay_same xs ys ats h.2
    simp only [relay, rrelay, List.zipWith_cons_cons, List.map_cons] at ih ⊢
    rw [ih]
    congr 1
    show ({ x.b with at_ := a } : Obj) = { y.b with at_ := a }
    rw [h.1]
theorem relay_ws : ∀ (xs : List PObj) (ats : List Nat), ∀ z ∈ relay xs ats, ∃ y ∈ xs, z.b.ws = y.b.ws ∧ z.b.kind = y.b.kind
  | [], _, z, h => by simp [relay] at h
  | x :: xs, [], z, h => by simp [relay] at h
  | x :: xs, a :: ats, z, h => by
    simp only [relay, List.zipWith_cons_cons, List.mem_cons] at h
    rcases h with rfl | h
    · exact ⟨x, List.mem_cons_self .., rfl, rfl⟩
    · obtain ⟨y, hy, e⟩ := relay_ws xs ats z h
      exact ⟨y, List.mem_cons_of_mem _ hy, e⟩
theorem PairOk.turn (h : PairOk u others G) {A B : List PReg} {A' B' : List RReg} {g : PReg} {g' : RReg} (e1 : G.hp.regs = A ++ g :: B) (e2 : G.hr.regs = A' ++ g' :: B') (hA : A.map PReg.m = A'.map RReg.m) (hB : B.map PReg.m = B'.map RReg.m) (hm : g.m = g'.m) (hs : g.size = 0)
    {xs : List PObj} {xs' : List RObj} (hx : xs.Sublist g.objs) (hb : xs.map (·.b) = xs'.map (·.b)) :
    ∃ ats u' fill' pages', layM 0 g.life (xs.map fun x => x.b.ws.length + 1) (freeP u g.pages) 0 [] = some (ats, u', fill', pages') ∧ ats.Nodup ∧ pages'.length ≤ 30 ∧ ats.length = xs.length ∧ u'.length = u.length ∧
      ∀ pgk obk plk pl pgk' obk', PReg.ok { g with pgk := pgk, obk := obk, plk := plk, pl := pl, fill := fill', pages := pages', objs := relay xs ats } → (pages'.length = 0 → pgk' = 0) →
        PairOk u' others { G with hp := { G.hp with regs := A ++ { g with pgk := pgk, obk := obk, plk := plk, pl := pl, fill := fill', pages := pages', objs := relay xs ats } :: B }, hr := { G.hr with regs := A' ++ { g' with pgk := pgk', obk := obk', fill := fill', pages := pages', objs := rrelay xs' ats } :: B' } } := by
  have mg : g.m ∈ G.hp.regs.map PReg.m := by rw [e1]; simp
  have hi := h.inv.reg g.m mg
  have hpk := hi.inf hs
  have hp1 := h.pool1 e1
  have hfr := hp1.free
  have hf := hpk.fold
  have hsub : (xs.map fun x => x.b.ws.length + 1).Sublist ((g.m.objs.map fun x => (x.at_, x.ws.length + 1)).map (·.2)) := by
    simp only [PReg.m, List.map_map]
    exact hx.map _
  have hle := fold_sub hsub (Le2.refl (0, 0))
  rw [hf] at hle
  have hcnt : g.pages.length ≤ (freeP u g.pages).count false := by
    have c1 := hfr.count
    have c2 := count_both (freeP u g.pages)
    have c3 := hp1.len
    rw [freeP_len] at c2
    rw [List.length_append] at c3
    omega
  obtain ⟨⟨ats, u', fill', pages'⟩, hlay, hlen⟩ := layM_some (life := g.life) (xs.map fun x => x.b.ws.length + 1) (freeP u g.pages) 0 [] (by
    have : ((xs.map fun x => x.b.ws.length + 1).foldl step (0, 0)).1 ≤ g.pages.length := by unfold Le2 at hle; simp only [PReg.m] at hle; omega
    simp only [List.length_nil]; omega)
  have hp2 : PoolInv (freeP u g.pages) ([] ++ ((A.map PReg.m).flatMap (·.pages) ++ ((B.map PReg.m).flatMap (·.pages) ++ others))) := hfr
  obtain ⟨k1, k2⟩ := lay_packed Packed.nil hp2 hlay
  rw [List.nil_append] at k1
  have hal : ats.length = xs.length := by have := layM_len hlay; simpa using this
  have hul : u'.length = u.length := by have := (layM_pages hlay).2; simp only at this; rw [this, freeP_len]
  have hws : ∀ z ∈ relay xs ats, 1 ≤ z.b.ws.length ∧ z.b.ws.length ≤ 31 ∧ z.b.kind < 256 := by
    intro z hz
    obtain ⟨y, hy, w1, w2⟩ := relay_ws xs ats z hz
    have := hi.ws y.b (List.mem_map.2 ⟨y, hx.subset hy, rfl⟩)
    rw [w1, w2]; exact this
  have hnd : ats.Nodup := by
    have := k1.nodup (fun x hx' => by
      obtain ⟨a, b⟩ := x
      have := (List.of_mem_zip hx').2
      obtain ⟨y, hy, rfl⟩ := List.mem_map.1 this
      have := hi.ws y.b (List.mem_map.2 ⟨y, hx.subset hy, rfl⟩)
      simp only; omega)
    rwa [List.map_fst_zip (by simp; omega)] at this
  refine ⟨ats, u', fill', pages', hlay, hnd, ?_, hal, hul, fun pgk obk plk pl pgk' obk' okp hz => ?_⟩
  · have : pages'.length ≤ u'.length := k2.sub_len (List.sublist_append_left pages' _)
    have := h.ulen
    omega
  · have hsz : g.size = g'.size := congrArg Reg.size hm
    have hlf : g.life = g'.life := congrArg Reg.life hm
    refine h.upd (u' := u') e1 e2 hA hB ?_ rfl ?_ okp hz hul k2
    · simp only [PReg.m, RReg.m, hsz, hlf, relay_same xs xs' ats hb]
    · refine ⟨hi.size, fun z hz => ?_, fun h0 => ?_, fun _ => ?_, fun z hz => ?_⟩
      · obtain ⟨y, hy, rfl⟩ := List.mem_map.1 hz
        exact hws y hy
      · simp only [PReg.m] at h0; omega
      · have : ((relay xs ats).map (·.b)).map (fun x => (x.at_, x.ws.length + 1)) = ats.zip (xs.map fun x => x.b.ws.length + 1) := by
          rw [List.map_map]; exact relay_map xs ats hal
        simp only [PReg.m]
        rw [this]
        exact k1
      · obtain ⟨y, hy, rfl⟩ := List.mem_map.1 hz
        obtain ⟨y', hy', w1, w2⟩ := relay_ws xs ats y hy
        rw [w1]; exact hi.wl y'.b (List.mem_map.2 ⟨y', hx.subset hy', rfl⟩)
def SomeAt (o : Nat → Option O) (x : ActG) (bs : List Bool) : Prop := x.sn = bs.length ∧ ∀ (i : Nat) (h : i < bs.length), ∃ ad, ixV 1 (.slice x.sa x.sn x.sc) (.int .i64 (i : Int)) = some (.ptr (some ad)) ∧ ∀ s : St, s.old = o → loadV none (.ptr (some ad)) s = some (.bool bs[i])
def keepL : List (Int × Int) → List Bool → List (Int × Int)
  | w :: l, b :: bs => if b then w :: keepL l bs else keepL l bs
  | _, _ => []
theorem keepL_len : ∀ (l : List (Int × Int)) (bs : List Bool), (keepL l bs).length ≤ l.length
  | [], _ => by simp [keepL]
  | w :: l, [] => by simp [keepL]
  | w :: l, b :: bs => by
    have := keepL_len l bs
    cases b <;> simp [keepL] <;> omega
theorem keep_loop {id bx : Nat} {lv : V} {l : List (Int × Int)} {x : ActG} {bs : List Bool} {K : Kt} (hS : SomeAt o x bs) (mb : (bx, some (.cells x.cells none)) ∈ C) (hv : SlAt C lv l.length (l.flatMap encW)) (hl : l.length ≤ 10000) :
    ∀ (m i k : Nat) (acc : List (Int × Int)) (s : St), i + m = l.length → acc.length ≤ i → Holds o s ((k, rowO 2 acc.length (acc.flatMap encW)) :: C) →
    (∀ s' k', Holds o s' ((k', rowO 2 (acc ++ keepL (l.drop i) (bs.drop i)).length ((acc ++ keepL (l.drop i) (bs.drop i)).flatMap encW)) :: C) → WP (K (.exit 0) (sp 99 [(0, ptrN id), (3, ptrN bx), (7, rowV k' (acc ++ keepL (l.drop i) (bs.drop i)).length)]) s') Q) →
    WP (loop PF (.loop l70_0) (sp 99 [(0, ptrN id), (3, ptrN bx), (5, lv), (7, rowV k acc.length), (8, I i)]) s K) Q
  | 0, i, k, acc, s, hi, hacc, H, q => by
    have hlt : ¬ ((i : Int) < (l.length : Int)) := by omega
    refine wp_round fun LL hLL => ?_
    simp -implicitDefEqProofs only [↓GP, GB, GL, Nat.reduceAdd, Nat.reduceSub, Nat.reduceEqDiff, Nat.reduceMul, Nat.reduceLeDiff, Int.reduceBNe, Int.reduceBEq, Nat.reduceLT, reduceCtorEq, l70_0, hv.len, hlt]
    rw [List.drop_eq_nil_of_le (show l.length ≤ i by omega)] at q
    simp only [keepL, List.append_nil] at q
    exact q s k H
  | m + 1, i, k, acc, s, hi, hacc, H, q => by
    have hlt : ((i : Int) < (l.length : Int)) := by omega
    have hi' : i < l.length := by omega
    have hd : l.drop i = l[i] :: l.drop (i + 1) := List.drop_eq_getElem_cons hi'
    have fb := H.mem (List.mem_cons_of_mem _ mb)
    obtain ⟨k0, g0, e1, e2⟩ := (hv.mono (D := (k, rowO 2 acc.length (acc.flatMap encW)) :: C) fun x hx => List.mem_cons_of_mem _ hx).get H hi' 2
    have hld := ldN_tab encW_len l g0 (show l[i]? = some l[i] by simp [hi'])
    have hw := wrap_add1 (a := i) (by omega)
    obtain ⟨hsn, hS'⟩ := hS
    refine wp_round fun LL hLL => ?_
    by_cases hib : i < bs.length
    · obtain ⟨ad, a1, a2⟩ := hS' i hib
      have a3 := a2 s H.old
      have hlt2 : ((i : Int) < (x.sn : Int)) := by omega
      have hdb : bs.drop i = bs[i] :: bs.drop (i + 1) := List.drop_eq_getElem_cons hib
      rw [hd, hdb] at q
      cases hbi : bs[i] with
      | true =>
        rw [hbi] at q a3
        simp only [keepL, if_true] at q
        simp -implicitDefEqProofs only [↓GP, GB, GL, Nat.reduceAdd, Nat.reduceSub, Nat.reduceEqDiff, Nat.reduceMul, Nat.reduceLeDiff, Int.reduceBNe, Int.reduceBEq, Nat.reduceLT, reduceCtorEq, l70_0, hv.len, hlt, fb, hlt2, a1, a3, e1, e2, hld, encW]
        refine wp_append (cs := acc.flatMap encW) ((H.alloc _).r1) (by rw [tab_len encW_len]) (new_cells' (alloc_new_same _ _) rfl) rfl rfl (by omega) (by unfold maxRow; omega) (by unfold maxRow; omega) fun k' s1 h1 => ?_
        simp -implicitDefEqProofs only [↓GP, GB, GL, Nat.reduceAdd, Nat.reduceSub, Nat.reduceEqDiff, Nat.reduceMul, Nat.reduceLeDiff, Int.reduceBNe, Int.reduceBEq, Nat.reduceLT, reduceCtorEq, hw]
        rw [hLL]
        have hl1 : (acc ++ [l[i]]).length = acc.length + 1 := by simp
        have := keep_loop (K := K) (id := id) ⟨hsn, hS'⟩ mb hv hl m (i + 1) k' (acc ++ [l[i]]) s1 (by omega) (by simp; omega) (by
          have h2 := h1.r1.tl
          rw [List.flatMap_append]; simpa [encW] using h2) (fun s' k'' h' => by
            have := q s' k'' (by simpa using h')
            simpa using this)
        rw [hl1] at this
        exact this
      | false =>
        rw [hbi] at q a3
        simp only [keepL, Bool.false_eq_true, if_false] at q
        simp -implicitDefEqProofs only [↓GP, GB, GL, Nat.reduceAdd, Nat.reduceSub, Nat.reduceEqDiff, Nat.reduceMul, Nat.reduceLeDiff, Int.reduceBNe, Int.reduceBEq, Nat.reduceLT, reduceCtorEq, l70_0, hv.len, hlt, fb, hlt2, a1, a3, hw]
        rw [hLL]
        exact keep_loop ⟨hsn, hS'⟩ mb hv hl m (i + 1) k acc s (by omega) (by omega) H q
    · have hlt2 : ¬ ((i : Int) < (x.sn : Int)) := by omega
      rw [List.drop_eq_nil_of_le (show bs.length ≤ i by omega)] at q
      have e0 : ∀ l : List (Int × Int), keepL l [] = [] := fun l => by cases l <;> rfl
      rw [e0] at q
      simp -implicitDefEqProofs only [↓GP, GB, GL, Nat.reduceAdd, Nat.reduceSub, Nat.reduceEqDiff, Nat.reduceMul, Nat.reduceLeDiff, Int.reduceBNe, Int.reduceBEq, Nat.reduceLT, reduceCtorEq, l70_0, hv.len, hlt, fb, hlt2, hw]
      rw [hLL]
      refine keep_loop ⟨hsn, hS'⟩ mb hv hl m (i + 1) k acc s (by omega) (by omega) H ?_
      rw [List.drop_eq_nil_of_le (show bs.length ≤ i + 1 by omega), e0]
      exact q
theorem s70_tail {v51 : V} {bx kk : Nat} (x : ActG) {K : List (Int × Int)} (hK : K.length ≤ 1000) (h : PairOk u others G) (hwl : G.ws.length ≤ 1000000)
    (H : Holds o s ((kk, rowO 2 K.length (K.flatMap encW)) :: (bx, some (.cells x.cells none)) :: World p r q t u G F))
    (k : ∀ s' u' G', Next others u G u' G' → Holds o s' (World p r q t u' G' F) → Q (.bool true) s') :
    WP (go (loop PF) (call PF) j70_bbbbb (sp 99 [(0, ptrN G.id), (3, ptrN bx), (7, rowV kk K.length), (51, v51)]) s (finR [(4, none)])) Q := by
  have hin := ((World.in_ (p := p) (r := r) (q := q) (t := t) (u := u) (G := G) (F := F)).cons (bx, some (.cells x.cells none))).cons (kk, rowO 2 K.length (K.flatMap encW))
  have rin := ((World.rin (p := p) (r := r) (q := q) (t := t) (u := u) (G := G) (F := F)).cons (bx, some (.cells x.cells none))).cons (kk, rowO 2 K.length (K.flatMap encW))
  have mk : (kk, rowO 2 K.length (K.flatMap encW)) ∈ (kk, rowO 2 K.length (K.flatMap encW)) :: (bx, some (.cells x.cells none)) :: World p r q t u G F := List.mem_cons_self ..
  have hrl := h.len
  have hpl := h.plen
  have hu := h.ulen
  have fb := H.tl.f1
  have fG := H.tl.tl.mem World.id
  simp only [PairG.hd] at fG
  have nilW : SlAt ((kk, rowO 2 K.length (K.flatMap encW)) :: (bx, some (.cells x.cells none)) :: World p r q t u G F) (.slice none 0 (some 0)) ([] : List (Int × Int)).length (([] : List (Int × Int)).flatMap encW) := .inl ⟨rfl, _, _, rfl⟩
  have bad : ∀ err : Int, err = 2 →
      (∀ s2, Holds o s2 ((kk, rowO 2 K.length (K.flatMap encW)) :: (bx, some (.cells x.cells none)) :: World p r q t u G F) → ∀ Q', (∀ s', Holds o s' ((kk, rowO 2 K.length (K.flatMap encW)) :: (bx, some (.cells x.cells none)) :: World p r q t u G F) → Q' (.tuple [.slice none 0 (some 0), I err]) s') → WP (call PF 109 [ptrN G.hp.id, I x.a, rowV kk K.length] s2) Q') →
      (∀ s2, Holds o s2 ((kk, rowO 2 K.length (K.flatMap encW)) :: (bx, some (.cells x.cells none)) :: World p r q t u G F) → ∀ Q', (∀ s', Holds o s' ((kk, rowO 2 K.length (K.flatMap encW)) :: (bx, some (.cells x.cells none)) :: World p r q t u G F) → Q' (.tuple [.slice none 0 (some 0), I err]) s') → WP (call PF 97 [ptrN G.hr.id, I x.a, rowV kk K.length] s2) Q') →
      WP (go (loop PF) (call PF) j70_bbbbb (sp 99 [(0, ptrN G.id), (3, ptrN bx), (7, rowV kk K.length), (51, v51)]) s (finR [(4, none)])) Q := by
    intro err herr hP hR
    subst herr
    simp -implicitDefEqProofs only [↓GP, GB, GL, Nat.reduceAdd, Nat.reduceSub, Nat.reduceEqDiff, Nat.reduceMul, Nat.reduceLeDiff, Int.reduceBNe, Int.reduceBEq, Nat.reduceLT, reduceCtorEq, j70_bbbbb, fG, fb]
    refine wp_in (hP s H _ fun s1 h1 => ?_)
    have fb1 := h1.tl.f1
    have fG1 := h1.tl.tl.mem World.id
    simp only [PairG.hd] at fG1
    simp -implicitDefEqProofs only [↓GP, GB, GL, Nat.reduceAdd, Nat.reduceSub, Nat.reduceEqDiff, Nat.reduceMul, Nat.reduceLeDiff, Int.reduceBNe, Int.reduceBEq, Nat.reduceLT, reduceCtorEq, fG1, fb1]
    refine wp_in (hR s1 h1 _ fun s2 h2 => ?_)
    have e := s48 h2 nilW nilW (by simp)
    simp -implicitDefEqProofs only [↓GP, GB, GL, Nat.reduceAdd, Nat.reduceSub, Nat.reduceEqDiff, Nat.reduceMul, Nat.reduceLeDiff, Int.reduceBNe, Int.reduceBEq, Nat.reduceLT, reduceCtorEq, e, Int.reduceBEq]
    exact k _ u G h.nx h2.tl.tl
  by_cases hb : 0 ≤ x.a ∧ x.a < G.hp.regs.length
  · obtain ⟨n, hn⟩ : ∃ n : Nat, x.a = n := ⟨x.a.toNat, by omega⟩
    obtain ⟨A, g, B, A', g', B', e1, e2, l1, l2, hm, hA, hB⟩ := h.at_ (i := n) (by omega)
    have hg : G.hp.regs[n]? = some g := by rw [e1, ← l1]; simp
    have hg' : G.hr.regs[n]? = some g' := by rw [e2, ← l2]; simp
    have mg : g ∈ G.hp.regs := by rw [e1]; simp
    have mg' : g' ∈ G.hr.regs := by rw [e2]; simp
    have ok := h.okp mg
    have ok' := h.okr mg'
    have hop := h.pol mg
    have hop' := h.rol mg'
    have hsz : g.size = g'.size := congrArg Reg.size hm
    have hlf : g.life = g'.life := congrArg Reg.life hm
    have hri := h.inv.reg g.m (List.mem_map.2 ⟨g, mg, rfl⟩)
    have hnd : ((A' ++ g' :: B').map (·.life)).Nodup := by
      have := h.inv.nodup
      rw [h.same, e2, List.map_map] at this
      exact this
    have hlf1 := (h.inv.life g.m (List.mem_map.2 ⟨g, mg, rfl⟩)).1
    have hat : (g.objs.map (·.b.at_)).Nodup := by have := hri.nodup; simpa [PReg.m, List.map_map, Function.comp_def] using this
    have hps := pick_same hnd (by rw [← hlf]; exact hlf1) hm hat K 0
    rw [List.drop_zero, ← e2, l2] at hps
    by_cases hbd : 0 < g.size ∨ pickM g.life g.objs K = none
    · have hbd' : 0 < g'.size ∨ rpick G.hr.regs n 0 K = none := by
        refine hbd.imp (fun h => by omega) fun hn => ?_
        rw [hn] at hps
        cases hr : rpick G.hr.regs n 0 K with
        | none => rfl
        | some _ => rw [hr] at hps; exact hps.elim
      refine bad 2 rfl (fun s2 h2 Q' q' => ?_) (fun s2 h2 Q' q' => ?_)
      · rw [hn]; exact s109_bad h2 hin hpl hg (by omega) (by omega) mk hbd q'
      · rw [hn]; exact s97_bad h2 rin h.rlen h.rol' hg' (by omega) mk hbd' q'
    · have hs0 : g.size = 0 := by
        rcases Nat.eq_zero_or_pos g.size with h | h
        · exact h
        · exact absurd (.inl h) hbd
      obtain ⟨xs, hxs⟩ : ∃ xs, pickM g.life g.objs K = some xs := by
        cases hp : pickM g.life g.objs K with
        | none => exact absurd (.inr hp) hbd
        | some xs => exact ⟨xs, rfl⟩
      rw [hxs] at hps
      cases hrp : rpick G.hr.regs n 0 K with
      | none => rw [hrp] at hps; exact hps.elim
      | some xs' =>
        rw [hrp] at hps
        simp only at hps
        obtain ⟨hsub, hxl⟩ := pickM_sublist hxs
        obtain ⟨ats, u', fill', pages', hlay, hand, hpl', hal, hul, hok⟩ := h.turn e1 e2 hA hB hm hs0 hsub hps
        have hxl' : xs'.length = xs.length := by have := congrArg List.length hps; simpa using this.symm
        have hlay' : layM 0 g'.life (xs'.map fun x => x.b.ws.length + 1) (freeP u g'.pages) 0 [] = some (ats, u', fill', pages') := by
          rw [← hlay, hlf, show g.pages = g'.pages from congrArg Reg.pages hm]
          congr 1
          have a1 : xs.map (fun x => x.b.ws.length + 1) = (xs.map (·.b)).map (fun y => y.ws.length + 1) := by simp
          have a2 : xs'.map (fun x => x.b.ws.length + 1) = (xs'.map (·.b)).map (fun y => y.ws.length + 1) := by simp
          rw [a1, a2, hps]
        have h109 := fun Q' => s109 (o := o) (s := s) (Q := Q') (hp := G.hp) (p := p) (r := r) (wk := kk) (u := u) (A := A) (B := B) (g := g) (ws := K) (xs := xs) (ats := ats) (u' := u') (fill' := fill') (pages' := pages') (F := (kk, rowO 2 K.length (K.flatMap encW)) :: (bx, some (.cells x.cells none)) :: (poolC q t u ++ (G.pc ++ (G.hr.ch q ++ F)))) (Holds.of (H) (fun k => by simp +arith only [HA, HB]) (fun k x => by simp only [HA, HC]; grind only)) e1 hpl (by omega) ok.1 (by omega) (by omega) (List.mem_cons_self ..) hs0 hxs hlay hand (by omega)
        rw [l1] at h109
        simp -implicitDefEqProofs only [↓GP, GB, GL, Nat.reduceAdd, Nat.reduceSub, Nat.reduceEqDiff, Nat.reduceMul, Nat.reduceLeDiff, Int.reduceBNe, Int.reduceBEq, Nat.reduceLT, reduceCtorEq, j70_bbbbb, fG, fb]
        rw [hn]
        refine wp_in (h109 _ fun s1 pgk obk plk pl ck okp h1 => ?_)
        generalize hgd : ({ g with pgk := pgk, obk := obk, plk := plk, pl := pl, fill := fill', pages := pages', objs := relay xs ats } : PReg) = g1 at okp h1
        rw [relay_enc _ _ _ hal] at h1
        generalize hcw : (ats.map fun a : Nat => ((a : Int), (g.life : Int))) = cw at h1
        have hcl : cw.length = K.length := by rw [← hcw]; simp; omega
        have h2 : Holds o s1 ((bx, some (.cells x.cells none)) :: (G.id, some (.cells [ptrN G.hp.id, ptrN G.hr.id, rowV G.wk G.ws.length] none)) :: (ck, rowO 2 K.length (cw.flatMap encW)) :: (kk, rowO 2 K.length (K.flatMap encW)) :: (poolC q t u ++ (G.hr.ch q ++ ((G.wk, rowO 2 G.ws.length (G.ws.flatMap encW)) :: (poolC p r u' ++ (PHeap.ch p { G.hp with regs := A ++ g1 :: B } ++ F)))))) := (Holds.of (h1) (fun k => by simp +arith only [HA, HB]) (fun k x => by simp only [HA, HC]; grind only))
        have f2 := h2.f2
        simp only [ActG.cells, hn] at f2
        simp -implicitDefEqProofs only [↓GP, GB, GL, Nat.reduceAdd, Nat.reduceSub, Nat.reduceEqDiff, Nat.reduceMul, Nat.reduceLeDiff, Int.reduceBNe, Int.reduceBEq, Nat.reduceLT, reduceCtorEq, f2]
        have h97 := fun Q' => s97 (gr := false) (o := o) (s := s1) (Q := Q') (hr := G.hr) (p := q) (r := t) (wk := kk) (u := u) (A := A') (B := B') (g := g') (ws := K) (xs := xs') (ats := ats) (u' := u') (fill' := fill') (pages' := pages') (F := (kk, rowO 2 K.length (K.flatMap encW)) :: (ck, rowO 2 K.length (cw.flatMap encW)) :: (G.id, some (.cells [ptrN G.hp.id, ptrN G.hr.id, rowV G.wk G.ws.length] none)) :: ((G.wk, rowO 2 G.ws.length (G.ws.flatMap encW)) :: (poolC p r u' ++ (PHeap.ch p { G.hp with regs := A ++ g1 :: B } ++ F)))) (Holds.of (h2) (fun k => by simp +arith only [HA, HB]) (fun k x => by simp only [HA, HC]; grind only)) e2 h.rlen (fun g hg => by have := h.rol hg; omega) (by omega) ok'.1 (by omega) (List.mem_cons_self ..) (by omega) (by rw [l2]; exact hrp) hlay' (by omega)
        rw [l2] at h97
        refine wp_in (h97 _ fun s2 pgk' obk' ck' hz' h3 => ?_)
        generalize hgd' : ({ g' with pgk := pgk', obk := obk', fill := fill', pages := pages', objs := rrelay xs' ats } : RReg) = g1' at h3
        rw [rrelay_enc _ _ _ (by omega), ← hlf, hcw] at h3
        have h4 : Holds o s2 ((G.wk, rowO 2 G.ws.length (G.ws.flatMap encW)) :: (G.id, some (.cells [ptrN G.hp.id, ptrN G.hr.id, rowV G.wk G.ws.length] none)) :: (ck', rowO 2 K.length (cw.flatMap encW)) :: (ck, rowO 2 K.length (cw.flatMap encW)) :: (poolC p r u' ++ (PHeap.ch p { G.hp with regs := A ++ g1 :: B } ++ (poolC q t u' ++ (RHeap.ch q { G.hr with regs := A' ++ g1' :: B' } ++ F))))) := (Holds.of (h3) (fun k => by simp +arith only [HA, HB]) (fun k x => by simp only [HA, HC]; grind only))
        have f4 := h4.tl.f1
        simp -implicitDefEqProofs only [↓GP, GB, GL, Nat.reduceAdd, Nat.reduceSub, Nat.reduceEqDiff, Nat.reduceMul, Nat.reduceLeDiff, Int.reduceBNe, Int.reduceBEq, Nat.reduceLT, reduceCtorEq, f4, Int.reduceBEq]
        have hck' : K.length = 0 ∨ s2.new ck' = some (.cells (cw.flatMap encW) (some 2)) := by
          rcases Nat.eq_zero_or_pos K.length with h0 | h0
          · exact .inl h0
          · have := h4.tl.tl
            rw [rowO_pos h0] at this
            exact .inr this.g0
        refine wp_append (cs := G.ws.flatMap encW) h4 (by rw [tab_len encW_len]) (new_row hck' (by rw [tab_len encW_len, hcl])) (by rw [tab_len encW_len, hcl]) (by rw [List.all_flatMap]; simp [encW, V.one]) (by omega) (by unfold maxRow; omega) (by unfold maxRow; omega) fun wk' s3 h5 => ?_
        have f5 := h5.tl.f1
        simp -implicitDefEqProofs only [↓GP, GB, GL, Nat.reduceAdd, Nat.reduceSub, Nat.reduceEqDiff, Nat.reduceMul, Nat.reduceLeDiff, Int.reduceBNe, Int.reduceBEq, Nat.reduceLT, reduceCtorEq, f5]
        have h6 := h5.set1 (.cells [ptrN G.hp.id, ptrN G.hr.id, rowV wk' (G.ws.length + K.length)] none)
        have hsw := s48 h6 (l := cw) (v := rowV ck cw.length) (v' := rowV ck' cw.length) (by rw [hcl]; exact SlAt.row (sz := 2) (by simp)) (by rw [hcl]; exact SlAt.row (sz := 2) (by simp)) (by omega)
        rw [hcl] at hsw
        simp -implicitDefEqProofs only [↓GP, GB, GL, Nat.reduceAdd, Nat.reduceSub, Nat.reduceEqDiff, Nat.reduceMul, Nat.reduceLeDiff, Int.reduceBNe, Int.reduceBEq, Nat.reduceLT, reduceCtorEq, hsw, Int.reduceBEq]
        refine k _ u' { G with wk := wk', hp := { G.hp with regs := A ++ g1 :: B }, hr := { G.hr with regs := A' ++ g1' :: B' }, ws := G.ws ++ cw } ?_ ?_
        · have hup := hok pgk obk plk pl pgk' obk' (by rw [hgd]; exact okp) hz'
          rw [hgd, hgd'] at hup
          exact ⟨rfl, rfl, rfl, ⟨hup.ulen, hup.lives, hup.same, hup.inv, hup.pool, hup.pok, hup.grown, hup.pz, hup.one⟩, hul, by simp; omega, by simp⟩
        · exact (Holds.of (h6) (fun k => by simp +arith only [List.length_append, List.flatMap_append, hcl, HA, HB]) (fun k x => by simp only [List.length_append, List.flatMap_append, hcl, HA, HC]; grind only))
  · refine bad 2 rfl (fun s2 h2 Q' q' => s109_err h2 (AtErr.of hin h.pne hpl hb) rfl rfl q') (fun s2 h2 Q' q' => ?_)
    have e := s97_err (wv := rowV kk K.length) h2 (RAtErr.of rin h.rne (by rw [← hrl]; exact hb))
    exact wp_res e (q' s2 h2)
theorem rem5 (b : Int) : intI .rem .i64 b 5 = some (I (b.tmod 5)) := by
  show (if (5 : Int) = 0 then none else some (V.int .i64 (b.tmod 5))) = _
  rw [if_neg (by omega)]
theorem s70 {bs : List Bool} (x : ActG) (hS : SomeAt o x bs) (h : PairOk u others G) (hwl : G.ws.length ≤ 1000000) (H : Holds o s (World p r q t u G F))
    (k : ∀ s' u' G', Next others u G u' G' → Holds o s' (World p r q t u' G' F) → Q (.bool true) s') : WP (call PF 70 [ptrN G.id, .agg x.cells] s) Q := by
  have f0 := H.mem World.id
  simp only [PairG.hd] at f0
  have h1 := H.alloc (.cells x.cells none)
  have rin := (World.rin (p := p) (r := r) (q := q) (t := t) (u := u) (G := G) (F := F)).cons (s.next, some (.cells x.cells none))
  have post : ∀ (s1 : St) (kk : Nat) (K : List (Int × Int)), K.length ≤ 961 → Holds o s1 ((kk, rowO 2 K.length (K.flatMap encW)) :: (s.next, some (.cells x.cells none)) :: World p r q t u G F) →
      WP (go (loop PF) (call PF) j70_bbbb (sp 99 [(0, ptrN G.id), (3, ptrN s.next), (7, rowV kk K.length)]) s1 (finR [(4, none)])) Q := by
    intro s1 kk K hK h2
    have fb := h2.tl.f1
    by_cases hb : x.b.tmod 5 = 4
    · have hbe : (x.b.tmod 5 == 4) = true := by simpa using hb
      simp -implicitDefEqProofs only [↓GP, GB, GL, Nat.reduceAdd, Nat.reduceSub, Nat.reduceEqDiff, Nat.reduceMul, Nat.reduceLeDiff, Int.reduceBNe, Int.reduceBEq, Nat.reduceLT, reduceCtorEq, j70_bbbb, fb, rem5, hbe]
      refine wp_in (s64 h2 (List.mem_cons_of_mem _ (List.mem_cons_of_mem _ World.id)) (List.mem_cons_of_mem _ (List.mem_cons_of_mem _ World.wk)) x fun s2 h3 => ?_)
      generalize wordG G.ws x = w
      simp -implicitDefEqProofs only [↓GP, GB, GL, Nat.reduceAdd, Nat.reduceSub, Nat.reduceEqDiff, Nat.reduceMul, Nat.reduceLeDiff, Int.reduceBNe, Int.reduceBEq, Nat.reduceLT, reduceCtorEq, encW]
      refine wp_append (cs := K.flatMap encW) ((h3.alloc _).r1) (by rw [tab_len encW_len]) (new_cells' (alloc_new_same _ _) rfl) rfl rfl (by omega) (by unfold maxRow; omega) (by unfold maxRow; omega) fun kk' s3 h4 => ?_
      simp -implicitDefEqProofs only [↓GP, GB, GL, Nat.reduceAdd, Nat.reduceSub, Nat.reduceEqDiff, Nat.reduceMul, Nat.reduceLeDiff, Int.reduceBNe, Int.reduceBEq, Nat.reduceLT, reduceCtorEq]
      have h5 := h4.r1.tl
      have hl : (K ++ [w]).length = K.length + 1 := by simp
      have := s70_tail (v51 := .any) (Q := Q) (K := K ++ [w]) (kk := kk') (bx := s.next) x (by simp; omega) h hwl (s := s3) (by rw [List.flatMap_append]; simpa [encW] using h5) k
      rw [hl] at this
      exact this
    · have hbe : (x.b.tmod 5 == 4) = false := by simpa using hb
      simp -implicitDefEqProofs only [↓GP, GB, GL, Nat.reduceAdd, Nat.reduceSub, Nat.reduceEqDiff, Nat.reduceMul, Nat.reduceLeDiff, Int.reduceBNe, Int.reduceBEq, Nat.reduceLT, reduceCtorEq, j70_bbbb, fb, rem5, hbe]
      exact s70_tail x (by omega) h hwl h2 k
  rw [call_run F70]; simp -implicitDefEqProofs only [↓GP, GB, GL, Nat.reduceAdd, Nat.reduceSub, Nat.reduceEqDiff, Nat.reduceMul, Nat.reduceLeDiff, Int.reduceBNe, Int.reduceBEq, Nat.reduceLT, reduceCtorEq, c70, f0]
  by_cases hb : 0 ≤ x.a ∧ x.a < G.hp.regs.length
  · obtain ⟨n, hn⟩ : ∃ n : Nat, x.a = n := ⟨x.a.toNat, by omega⟩
    obtain ⟨A, g, B, A', g', B', e1, e2, l1, l2, hm, hA, hB⟩ := h.at_ (i := n) (by omega)
    have hg' : G.hr.regs[n]? = some g' := by rw [e2, ← l2]; simp
    have mg' : g' ∈ G.hr.regs := by rw [e2]; simp
    have hop' := h.rol mg'
    rw [hn]
    refine wp_in (s81 h1 rin hg' (by omega) fun s1 lk h2 => ?_)
    have he : g'.objs.flatMap (rencP g'.life) = (g'.objs.map fun y => ((y.b.at_ : Int), (g'.life : Int))).flatMap encW := by rw [List.flatMap_map]; rfl
    rw [he] at h2
    simp -implicitDefEqProofs only [↓GP, GB, GL, Nat.reduceAdd, Nat.reduceSub, Nat.reduceEqDiff, Nat.reduceMul, Nat.reduceLeDiff, Int.reduceBNe, Int.reduceBEq, Nat.reduceLT, reduceCtorEq]
    generalize hl : (g'.objs.map fun y => ((y.b.at_ : Int), (g'.life : Int))) = l at h2
    have hll : l.length = g'.objs.length := by rw [← hl]; simp
    rw [← hll] at h2 ⊢
    refine keep_loop (id := G.id) (bx := s.next) (l := l) (bs := bs) hS (C := (lk, rowO 2 l.length (l.flatMap encW)) :: (s.next, some (.cells x.cells none)) :: World p r q t u G F) (by simp) (SlAt.row (sz := 2) (List.mem_cons_self ..)) (by omega) l.length 0 0 [] s1 (by omega) (by simp) (h2.nilEntry 0) fun s2 kk h3 => ?_
    simp only [List.drop_zero, List.nil_append] at h3
    have := keepL_len l bs
    simp -implicitDefEqProofs only [↓GP, GB, GL, Nat.reduceAdd, Nat.reduceSub, Nat.reduceEqDiff, Nat.reduceMul, Nat.reduceLeDiff, Int.reduceBNe, Int.reduceBEq, Nat.reduceLT, reduceCtorEq]
    exact post s2 kk _ (by omega) h3.r1.tl
  · have e := s81_err h1 (RAtErr.of rin h.rne (by rw [← h.len]; exact hb))
    simp -implicitDefEqProofs only [↓GP, GB, GL, Nat.reduceAdd, Nat.reduceSub, Nat.reduceEqDiff, Nat.reduceMul, Nat.reduceLeDiff, Int.reduceBNe, Int.reduceBEq, Nat.reduceLT, reduceCtorEq, e]
    refine keep_loop (id := G.id) (bx := s.next) (l := []) (bs := bs) hS (C := (s.next, some (.cells x.cells none)) :: World p r q t u G F) (by simp) (.inl ⟨rfl, _, _, rfl⟩) (by simp) 0 0 0 [] (s.alloc (.cells x.cells none)) (by simp) (by simp) (h1.nilEntry 0) fun s2 kk h3 => ?_
    simp only [List.drop_zero, List.nil_append, keepL] at h3
    simp -implicitDefEqProofs only [↓GP, GB, GL, Nat.reduceAdd, Nat.reduceSub, Nat.reduceEqDiff, Nat.reduceMul, Nat.reduceLeDiff, Int.reduceBNe, Int.reduceBEq, Nat.reduceLT, reduceCtorEq]
    exact post s2 kk [] (by simp) h3
theorem s26 {bs : List Bool} (x : ActG) (hd : 0 ≤ x.d) (hS : SomeAt o x bs) (h : PairOk u others G) (hwl : G.ws.length ≤ 1000000) (H : Holds o s (World p r q t u G F))
    (k : ∀ s' u' G', Next others u G u' G' → Holds o s' (World p r q t u' G' F) → Q (.bool true) s') : WP (call PF 26 [ptrN G.id, .agg x.cells] s) Q := by
  have hm : intI .rem .u8 x.d 8 = some (.int .u8 (x.d % 8)) := by
    show (if (8 : Int) = 0 then none else some (V.int .u8 (x.d.tmod 8))) = _
    rw [if_neg (by omega), Int.tmod_eq_emod_of_nonneg hd]
  have h0 := Int.emod_nonneg x.d (show (8 : Int) ≠ 0 by omega)
  have h8 := Int.emod_lt_of_pos x.d (show (0 : Int) < 8 by omega)
  have h1 := H.alloc (.cells x.cells none)
  rcases (show x.d % 8 = 0 ∨ x.d % 8 = 1 ∨ x.d % 8 = 2 ∨ x.d % 8 = 3 ∨ x.d % 8 = 4 ∨ x.d % 8 = 5 ∨ x.d % 8 = 6 ∨ x.d % 8 = 7 by omega) with e | e | e | e | e | e | e | e <;> rw [e] at hm
  · exact do_open x hm h H fun s' G' n h' => k s' u G' n h'
  · exact do_close x hm h H k
  · exact do_reset x hm h H k
  · rw [call_run F26]; simp -implicitDefEqProofs only [↓GP, GB, GL, Nat.reduceAdd, Nat.reduceSub, Nat.reduceEqDiff, Nat.reduceMul, Nat.reduceLeDiff, Int.reduceBNe, Int.reduceBEq, Nat.reduceLT, reduceCtorEq, c26, hm, Int.reduceBEq]
    refine wp_in (s63 (p := p) (r := r) (q := q) (t := t) (F := (s.next, some (.cells x.cells none)) :: F) x h (Holds.of (h1) (fun k => by simp +arith only [HA, HB]) (fun k x => by simp only [HA, HC]; grind only)) hwl fun s1 u' G' n h2 => ?_)
    simp -implicitDefEqProofs only [↓GP, GB, GL, Nat.reduceAdd, Nat.reduceSub, Nat.reduceEqDiff, Nat.reduceMul, Nat.reduceLeDiff, Int.reduceBNe, Int.reduceBEq, Nat.reduceLT, reduceCtorEq]
    exact k _ u' G' n (Holds.of (h2) (fun k => by simp +arith only [HA, HB]) (fun k x => by simp only [HA, HC]; grind only))
  · exact do_set x hm h H k
  · exact do_get x hm h H fun s' h' => k s' u G h.nx h'
  · rw [call_run F26]; simp -implicitDefEqProofs only [↓GP, GB, GL, Nat.reduceAdd, Nat.reduceSub, Nat.reduceEqDiff, Nat.reduceMul, Nat.reduceLeDiff, Int.reduceBNe, Int.reduceBEq, Nat.reduceLT, reduceCtorEq, c26, hm, Int.reduceBEq]
    refine wp_in (s70 (p := p) (r := r) (q := q) (t := t) (F := (s.next, some (.cells x.cells none)) :: F) x hS h hwl (Holds.of (h1) (fun k => by simp +arith only [HA, HB]) (fun k x => by simp only [HA, HC]; grind only)) fun s1 u' G' n h2 => ?_)
    simp -implicitDefEqProofs only [↓GP, GB, GL, Nat.reduceAdd, Nat.reduceSub, Nat.reduceEqDiff, Nat.reduceMul, Nat.reduceLeDiff, Int.reduceBNe, Int.reduceBEq, Nat.reduceLT, reduceCtorEq]
    exact k _ u' G' n (Holds.of (h2) (fun k => by simp +arith only [HA, HB]) (fun k x => by simp only [HA, HC]; grind only))
  · rw [call_run F26]; simp -implicitDefEqProofs only [↓GP, GB, GL, Nat.reduceAdd, Nat.reduceSub, Nat.reduceEqDiff, Nat.reduceMul, Nat.reduceLeDiff, Int.reduceBNe, Int.reduceBEq, Nat.reduceLT, reduceCtorEq, c26, hm, Int.reduceBEq]
    exact k _ u G h.nx h1.tl
end
end Go.Proofs.Ytoldkemimhebaaa

set_option linter.unusedSimpArgs false
set_option linter.unusedVariables false
namespace Go.IM
open Go.RowKit Go.ChangeShapes
def oldSt (W : World) : St :=
  ⟨fun b => match W.heap[b]? with
    | some (.cells C _ _) => some (.cells (ofVals C.toList) none)
    | _ => none, 0, fun _ => none⟩
theorem oldSt_sim (W : World) : Sim W.heap.size none0 (oldSt W) W where
  base := Nat.le_refl _
  old := fun b o h => by
    simp only [oldSt] at h
    split at h
    · rename_i C el fr hb
      cases h
      refine ⟨?_, rfl, C, el, fr, hb, ofVals_VRs _ _⟩
      rcases Nat.lt_or_ge b W.heap.size with h | h
      · exact h
      · rw [Array.getElem?_eq_none h] at hb; cases hb
    · cases h
  dom := fun k p h => by simp [none0] at h
  obj := fun k p o h => by simp [none0] at h
  inj := fun k k' p p' h => by simp [none0] at h
  fresh := fun _ _ => rfl
section
variable {P : Program} {H : Type} {enc : TypeId × Value → H}
theorem trodAll_below (hl : laidOutB P = true) {W W' : World} (hb : Below W.heap.size W W') :
    ∀ {ts : List TypeId} {vs : List Value} {ds : List (DataW H)} {ps : List MemPlace}, ts.all (fun t => P.readableRec t && decide (t < P.types.size)) = true →
      DataW.TrodAll enc P W 0 (fun _ => true) true ts vs ds ps → (∀ x ∈ ps, x.block < W.heap.size) → DataW.TrodAll enc P W' 0 (fun b => decide (b < W.heap.size)) true ts vs ds ps
  | [], [], [], _, _, h, _ => h
  | t :: ts, v :: vs, d :: ds, ps, hr, ⟨p, q, h1, h2, e⟩, hlt => by
    subst e
    simp only [List.all_cons, Bool.and_eq_true, decide_eq_true_eq] at hr
    exact ⟨p, q, Below.trod hl hr.1.1 hr.1.2 h1 hb (fun x hx => hlt x (List.mem_append_left _ hx)),
      trodAll_below hl hb hr.2 h2 (fun x hx => hlt x (List.mem_append_right _ hx)), rfl⟩
  | [], _ :: _, _, _, _, h, _ => h.elim
  | [], [], _ :: _, _, _, h, _ => h.elim
  | _ :: _, [], _, _, _, h, _ => h.elim
  | _ :: _, _ :: _, [], _, _, h, _ => h.elim
theorem post_true {fn : Func} {s : ChangeSpec} {apart fresh handsOn : Bool} {W W' : World} {args : Array Value} {ds gs : List (DataW H)} {before : List MemPlace} {bt : TypeId}
    (hl : laidOutB P = true) (hW : DataW.Whole enc P fn.params.toList s.vars apart W args.toList ds gs before) (hb : Below W.heap.size W W')
    (hr : fn.params.toList.all (fun t => P.readableRec t && decide (t < P.types.size)) = true)
    (hres : fn.resultTypes = #[bt]) (hbt : P.underlying bt = some .bool) (hv : s.vars = [])
    (hs : s.fn H (ds ++ gs) = { results := [.lit (.bool true)], args := ds }) :
    s.post enc P fn apart fresh handsOn false W args (.bool true) W' := by
  have hW0 := hW
  obtain ⟨p, q, hA, hV, e, hz, hn⟩ := hW
  rw [hv] at hV
  have hq : q = [] := by
    cases gs with
    | nil => exact hV
    | cons _ _ => exact hV.elim
  subst hq
  have hlt : ∀ x ∈ before, x.block < W.heap.size := fun x hx => hW0.lt x hx
  refine ⟨ds, gs, before, [], before, [], hW0, ?_, ?_, ?_, hb.frame _, fun h => by cases h⟩
  · rw [hs, hres]
    refine ⟨[], [], ⟨1, ?_⟩, rfl, rfl⟩
    show DataW.trod enc P W' _ _ _ 1 bt [.bool true] = _
    simp only [DataW.trod, hbt]
  · rw [hs]
    have : before = p := by simp [e]
    rw [this] at hlt ⊢
    exact trodAll_below hl hb hr hA hlt
  · rw [hs, hv]
    cases gs with
    | nil => exact rfl
    | cons _ _ => exact hV.elim
theorem lifted_true {a : Assume} {C : Checked} {os : Os} {f : FuncId} {fn : Func} {s : ChangeSpec} {conds : List PathCond} {apart fresh handsOn : Bool} {bt : TypeId}
    (own : ownKnob C.prog.godebug = none) (started : os.Started) (noInit : C.prog.inits.idxOf? f = none) (hfn : C.prog.funcs[f]? = some fn)
    (hl : laidOutB C.prog = true) (hm : C.prog.follows .mixedOrders = true)
    (hr : fn.params.toList.all (fun t => C.prog.readableRec t && decide (t < C.prog.types.size)) = true)
    (hres : fn.resultTypes = #[bt]) (hbt : C.prog.underlying bt = some .bool) (hv : s.vars = [])
    (witness : ∃ (w : World) (tape : Tape) (i : Input), w.os = os ∧ (w.forCall tape i).Shaped C.prog ∧ i.vars = [] ∧ Input.okWide C.prog (w.forCall tape i) .any w.heap.size f i ∧
      s.pre6 enc C.prog fn conds apart (w.forCall tape i).memory i.args ∧ a.holds C.prog (lone (Frame.enter C.prog f i.args .normal) [] (w.forCall tape i)))
    (hs : ∀ ds : List (DataW H), ds.length = fn.params.size → s.fn H ds = { results := [.lit (.bool true)], args := ds })
    (contract : ∀ (W : World) (base : Nat) (args : Array Value) (ds : List (DataW H)) (before : List MemPlace),
      (∀ (j : Nat) t v, fn.params[j]? = some t → args[j]? = some v → Value.okWide C.prog W .any base t v) →
      DataW.TrodAll enc C.prog W 0 (fun _ => true) true fn.params.toList args.toList ds before →
      (DataW.weightsEach C.prog fn.params.toList ds).all (· ≤ reachBytes) = true →
      ∃ st, call (shutF C.prog) f (ofVals args.toList) (oldSt W) = some (.bool true, st)) (h0 : f < yBase := by decide) :
    ReturnsInHanded a C os f .any (s.pre6 enc C.prog fn conds apart) (s.post enc C.prog fn apart fresh handsOn false) := by
  refine returnsInHanded_of_change_sized own started noInit hfn witness ?_
  intro W base args ds gs before hval hW _ hw _
  have hW0 := hW
  obtain ⟨p, q, hA, hV, e, hz, hn⟩ := hW
  rw [hv] at hV
  have hg : gs = [] := by
    cases gs with
    | nil => rfl
    | cons _ _ => exact hV.elim
  subst hg
  have hvt : s.plain.varTypes C.prog = [] := by
    simp [ChangeSpec.plain, DataSpec.varTypes, hv]
  rw [hvt, List.append_nil, List.append_nil] at hw
  obtain ⟨st, hc⟩ := contract W base args ds p hval hA hw
  have hds : ds.length = fn.params.size := by
    have : ∀ {ts : List TypeId} {vs : List Value} {ds : List (DataW H)} {ps : List MemPlace}, DataW.TrodAll enc C.prog W 0 (fun _ => true) true ts vs ds ps → ds.length = ts.length := by
      intro ts
      induction ts with
      | nil => intro vs ds ps h; cases vs <;> cases ds <;> first | rfl | exact h.elim
      | cons t ts ih => intro vs ds ps h; cases vs <;> cases ds <;> first | exact h.elim | (obtain ⟨_, _, _, h2, _⟩ := h; simp [ih h2])
    rw [this hA]; simp
  obtain ⟨henter, hcalls⟩ := (shut_sound hm W.heap.size none0 f _ _ _ _ hc).1 h0
  have hcl : Calls C.prog f args W _ := callsIn_wide.1 (hcalls none0 W args (Le.refl _) (ofVals_VRs _ _) (oldSt_sim W))
  refine hcl.mono fun en W' h => ?_
  obtain ⟨ρ', v', rfl, hv', hsim, hstep⟩ := h
  have hv'' : v' = .bool true := hv'
  subst hv''
  exact ⟨_, rfl, post_true hl hW0 hstep.below hr hres hbt hv (by rw [List.append_nil]; exact hs ds hds)⟩
end
end Go.IM

set_option linter.unusedSimpArgs false
set_option linter.unusedVariables false
namespace Go.Proofs.Ytoldkemimhebaaa
open Go Go.IM
def c3 : IFn := ⟨53, [(2, none)],
  (.seq (.region [oa 2 (.mov (.c (.bool false)))] (kp 53 [0]))
  (.seq (.region [oa 10 (.mov (.t 0)), oa 11 (.call 17 [(.t 10)]), oa 9 (.mov (.t 11)), oa 12 (.extract (.t 9) 0), oa 13 (.extract (.t 9) 1), oa 3 (.mov (.t 12)), oa 4 (.mov (.t 13))] (kp 53 [0,3,4]))
  (.seq (.region [oa 15 (.mov (.t 0)), oa 16 (.call 18 [(.t 15)]), oa 14 (.mov (.t 16)), oa 17 (.extract (.t 14) 0), oa 18 (.extract (.t 14) 1), oa 5 (.mov (.t 17)), oa 6 (.mov (.t 18))] (kp 53 [0,3,4,5,6]))
  (.seq (.seq (.region [oa 19 (.mov (.t 4)), oa 20 (.mov (.t 6)), oa 21 (.bin .neq (.t 19) (.t 20)), oa 22 (.mov (.t 21)), oc 23 (.mov (.t 3)) 22 ff, oc 24 (.call 19 [(.t 23)]) 22 ff, oc 25 (.mov (.t 5)) 22 ff, oc 26 (.call 20 [(.t 25)]) 22 ff, oc 27 (.bin .neq (.t 24) (.t 26)) 22 ff, oa 28 (.pick (.t 22) (.c (.bool true)) (.t 27)), oa 29 (.mov (.t 28)), oc 30 (.mov (.t 3)) 29 ff, oc 31 (.call 21 [(.t 30)]) 29 ff, oc 32 (.bin .neq (.t 31) (ai 0)) 29 ff, oa 33 (.pick (.t 29) (.c (.bool true)) (.t 32))] (kp 53 [0,3,4,33]))
  (.cond (.t 33)
  (.seq (.region [oa 2 (.mov (.c (.bool false)))] (kp 53 [2]))
  (sr 53 [2]))
  (sk 53 [0,3,4])))
  (.seq (.seq (.region [oa 34 (.mov (.t 4)), oa 35 (.bin .neq (.t 34) (ai 0))] (kp 53 [0,3,35]))
  (.cond (.t 35)
  (.seq (.region [oa 37 (.mov (.t 3)), oa 38 (.call 22 [(.t 37)]), oa 36 (.mov (.t 38)), oa 39 (.extract (.t 36) 0), oa 40 (.extract (.t 36) 1), oa 7 (.mov (.t 39)), oa 8 (.mov (.t 40))] (kp 53 [8]))
  (.seq (.region [oa 41 (.mov (.t 8)), oa 42 (.bin .eql (.t 41) (ai 6)), oa 43 (.mov (.t 42)), oc 44 (.call 23 []) 43 tt, oa 45 (.pick (.t 43) (.t 44) (.c (.bool false))), oa 2 (.mov (.t 45))] (kp 53 [2]))
  (sr 53 [2])))
  (sk 53 [0,3])))
  (.seq (.region [oa 46 (.mov (.t 3)), oa 47 (.call 19 [(.t 46)]), oa 48 (.mov (.t 0)), oa 49 (.bin .eql (.t 47) (.t 48)), oa 50 (.mov (.t 49)), oc 51 (.call 23 []) 50 tt, oa 52 (.pick (.t 50) (.t 51) (.c (.bool false))), oa 2 (.mov (.t 52))] (kp 53 [2]))
  (sr 53 [2])))))))⟩
section
set_option maxRecDepth 10000
theorem closed_at (n : Nat) {f : Nat} (h : (match (LC PF n noY).2 f [] ⟨fun _ => none, 0, fun _ => none⟩ with | some (.bool b, _) => b | _ => false) = true) (s : St) (h0 : f < yBase := by decide) :
    ∃ t, call PF f [] s = some (.bool true, t) ∧ (∀ j, j < s.next → t.new j = s.new j) ∧ t.old = s.old ∧ s.next ≤ t.next := by
  split at h
  · rename_i b st hc
    subst h
    have hc' : call PF f [] ⟨fun _ => none, 0, fun _ => none⟩ = some (.bool true, st) := call_some.2 ⟨n, hc⟩
    have hr : Ren (fun k => s.next + k) ⟨fun _ => none, 0, fun _ => none⟩ s := ⟨fun k _ => rfl, fun k o h => by simp at h, fun b o h => by simp at h, fun k k' h => by simpa using h⟩
    obtain ⟨t, h1, h2, h3⟩ := call_frame (F := PF) shutF_shut hr hc' h0
    exact ⟨t, h1, fun j hj => h3.new j (fun k hk => by have : s.next + k = j := hk; omega), h3.old, h3.next⟩
  · cases h
theorem zeros_bool : ∀ k, zeros [.bool false] k = (List.replicate k false).map V.bool
  | 0 => rfl
  | k + 1 => by simp only [zeros, zeros_bool k, List.replicate_succ, List.map_cons]; rfl
theorem PoolAt.alloc {s : St} {p r : Nat} {bs : List Bool} (h : PoolAt s p r bs) (hp : p < s.next) (hr : r < s.next) (o : O) : PoolAt (s.alloc o) p r bs :=
  ⟨by rw [alloc_new s o (by omega)]; exact h.1, by rw [alloc_new s o (by omega)]; exact h.2⟩
end
end Go.Proofs.Ytoldkemimhebaaa

set_option linter.unusedSimpArgs false
set_option linter.unusedVariables false
namespace Go.Proofs.Ytoldkemimhebaaa
open Go Go.IM
def l24_0 : IC := (.seq (.seq (.seq (.region [oa 4 (.mov (.t 3)), oa 5 (.mov (.t 0)), oa 6 (.lenSlice (.t 5)), oa 7 (.bin .lss (.t 4) (.t 6))] (kp 20 [0,3,7]))
  (.cond (.t 7)
  (sk 20 [0,3])
  (sx 20 [0] 0)))
  (.seq (.block 1
  (.seq (.region [oa 10 (.mov (.t 0)), oa 11 (.mov (.t 3)), oa 12 (.indexAddr 11 (.t 10) (.t 11)), oa 13 (.fieldAddr 10 (.t 12)), oa 14 (.load none (.t 13)), oa 15 (.lenSlice (.t 14)), oa 16 (.bin .gtr (.t 15) (ai 200))] (kp 20 [0,3,16]))
  (.cond (.t 16)
  (.seq (.region [oa 2 (.mov (.c (.bool true)))] (kp 20 [2]))
  (sr 20 [2]))
  (sk 20 [0,3]))))
  (.region [oa 8 (.mov (.t 3)), oa 9 (.bin .add (.t 8) (ai 1)), oa 3 (.mov (.t 9))] (kp 20 [0,3]))))
  (sk 20 [0,3]))
def c24 : IFn := ⟨20, [(2, none)],
  (.seq (.region [oa 2 (.mov (.c (.bool false)))] (kp 20 [0]))
  (.seq (.seq (.region [oa 3 (.mov (ai 0))] (kp 20 [0,3]))
  (.block 0
  (.seq (sk 20 [0,3])
  (.loop l24_0))))
  (.seq (.region [oa 17 (.mov (.t 0)), oa 18 (.lenSlice (.t 17)), oa 19 (.bin .gtr (.t 18) (ai 150)), oa 2 (.mov (.t 19))] (kp 20 [2]))
  (sr 20 [2]))))⟩
theorem F24 : shutF Try.prog 24 = some c24 := by kernel_rfl
def l25_0 : IC := (.seq (.seq (.seq (.region [oa 31 (.mov (.t 13)), oa 32 (.mov (.t 1)), oa 33 (.bin .lss (.t 31) (.t 32))] (kp 67 [1,8,10,12,13,33]))
  (.cond (.t 33)
  (sk 67 [1,8,10,12,13])
  (sx 67 [8,10,12] 0)))
  (.seq (.block 1
  (.seq (.region [oa 37 (.mov (.t 8)), oa 38 (.call 22 [(.t 37)]), oa 36 (.mov (.t 38)), oa 39 (.extract (.t 36) 0), oa 40 (.extract (.t 36) 1), oa 14 (.mov (.t 39)), oa 15 (.mov (.t 40))] (kp 67 [1,8,10,12,13,14,15]))
  (.seq (.region [oa 42 (.mov (.t 10)), oa 43 (.call 58 [(.t 42)]), oa 41 (.mov (.t 43)), oa 44 (.extract (.t 41) 0), oa 45 (.extract (.t 41) 1), oa 16 (.mov (.t 44)), oa 17 (.mov (.t 45))] (kp 67 [1,8,10,12,13,14,15,16,17]))
  (.seq (.seq (.region [oa 46 (.mov (.t 15)), oa 47 (.mov (.t 17)), oa 48 (.bin .neq (.t 46) (.t 47)), oa 49 (.mov (.t 48)), oc 50 (.mov (.t 14)) 49 ff, oc 51 (.eql false .ptr (.t 50) (.c (.ptr none))) 49 ff, oc 52 (.mov (.t 51)) 49 ff, oc 53 (.mov (.t 17)) 52 tt, oc 54 (.bin .eql (.t 53) (ai 0)) 52 tt, oc 55 (.pick (.t 52) (.t 54) (.c (.bool false))) 49 ff, oa 56 (.pick (.t 49) (.c (.bool true)) (.t 55))] (kp 67 [1,8,10,12,13,14,16,56]))
  (.cond (.t 56)
  (.seq (.region [oa 4 (.mov (.c (.slice none 0 (some 0)))), oa 5 (.mov (.c (.ptr none))), oa 6 (.mov (.c (.ptr none))), oa 7 (.mov (.c (.bool false)))] (kp 67 [4,5,6,7]))
  (sr 67 [4,5,6,7]))
  (sk 67 [1,8,10,12,13,14,16])))
  (.region [oa 57 (.mov (.t 12)), oa 58 (.mov (.t 14)), oa 59 (.mov (.t 16)), oa 60 (.build [(.ptr none), (.ptr none), (.slice none 0 (some 0))] [(0, 1, (.t 58)), (1, 1, (.t 59))]), oa 61 (.box (.t 60)), oa 62 (.buildSlice 1 [(.ptr none)] [(0, 1, (.t 61))]), oa 63 (.append 1 8 (.t 57) (.t 62)), oa 12 (.mov (.t 63))] (kp 67 [1,8,10,12,13]))))))
  (.region [oa 34 (.mov (.t 13)), oa 35 (.bin .add (.t 34) (ai 1)), oa 13 (.mov (.t 35))] (kp 67 [1,8,10,12,13]))))
  (sk 67 [1,8,10,12,13]))
def c25 : IFn := ⟨67, [(4, none), (5, none), (6, none), (7, none)],
  (.seq (.region [oa 4 (.mov (.c (.slice none 0 (some 0)))), oa 5 (.mov (.c (.ptr none))), oa 6 (.mov (.c (.ptr none))), oa 7 (.mov (.c (.bool false)))] (kp 67 [0,1]))
  (.seq (.region [oa 19 (.mov (.t 0)), oa 20 (.call 17 [(.t 19)]), oa 18 (.mov (.t 20)), oa 21 (.extract (.t 18) 0), oa 22 (.extract (.t 18) 1), oa 8 (.mov (.t 21)), oa 9 (.mov (.t 22))] (kp 67 [0,1,8,9]))
  (.seq (.region [oa 24 (.mov (.t 0)), oa 25 (.call 18 [(.t 24)]), oa 23 (.mov (.t 25)), oa 26 (.extract (.t 23) 0), oa 27 (.extract (.t 23) 1), oa 10 (.mov (.t 26)), oa 11 (.mov (.t 27))] (kp 67 [1,8,9,10,11]))
  (.seq (.seq (.region [oa 28 (.mov (.t 9)), oa 29 (.mov (.t 11)), oa 30 (.bin .neq (.t 28) (.t 29))] (kp 67 [1,8,10,30]))
  (.cond (.t 30)
  (.seq (.region [oa 4 (.mov (.c (.slice none 0 (some 0)))), oa 5 (.mov (.c (.ptr none))), oa 6 (.mov (.c (.ptr none))), oa 7 (.mov (.c (.bool false)))] (kp 67 [4,5,6,7]))
  (sr 67 [4,5,6,7]))
  (sk 67 [1,8,10])))
  (.seq (.region [oa 12 (.mov (.c (.slice none 0 (some 0))))] (kp 67 [1,8,10,12]))
  (.seq (.seq (.region [oa 13 (.mov (ai 0))] (kp 67 [1,8,10,12,13]))
  (.block 0
  (.seq (sk 67 [1,8,10,12,13])
  (.loop l25_0))))
  (.seq (.region [oa 64 (.mov (.t 12)), oa 65 (.mov (.t 8)), oa 66 (.mov (.t 10)), oa 4 (.mov (.t 64)), oa 5 (.mov (.t 65)), oa 6 (.mov (.t 66)), oa 7 (.mov (.c (.bool true)))] (kp 67 [4,5,6,7]))
  (sr 67 [4,5,6,7]))))))))⟩
theorem F25 : shutF Try.prog 25 = some c25 := by kernel_rfl
section
variable {o : Nat → Option O} {s : St} {C F : Ch} {Q : V → St → Prop} {p r q t : Nat} {u : List Bool} {others : List Nat} {G : PairG}
set_option maxRecDepth 10000
set_option maxHeartbeats 4000000
structure ActsAt (o : Nat → Option O) (v : V) (l : List (ActG × List Bool)) : Prop where
  len : lenV v = some (.int .i64 l.length)
  get : ∀ (i : Nat) (h : i < l.length), ∃ ad : Ad, ixV 11 v (.int .i64 (i : Int)) = some (.ptr (some ad)) ∧ ∀ s : St, s.old = o → loadV (some 11) (.ptr (some ad)) s = some (.agg l[i].1.cells) ∧ loadV none (.ptr (some ⟨ad.id, ad.off + 10⟩)) s = some (.slice l[i].1.sa l[i].1.sn l[i].1.sc)
  some_ : ∀ x ∈ l, SomeAt o x.1 x.2
  d : ∀ x ∈ l, 0 ≤ x.1.d ∧ x.1.d < 256 ∧ 0 ≤ x.1.hn ∧ x.1.hn < 256
def longB (l : List (ActG × List Bool)) : Bool := l.any (fun x => decide (200 < x.2.length)) || decide (150 < l.length)
theorem long_loop {v : V} {l : List (ActG × List Bool)} {K : Kt} (hs : s.old = o) (h : ActsAt o v l) (hl : l.length < 2 ^ 61) : ∀ (m i : Nat), i + m = l.length →
    loop PF (.loop l24_0) (sp 20 [(0, v), (3, I i)]) s K = if (l.drop i).any (fun x => decide (200 < x.2.length)) then K .ret (sp 20 [(2, .bool true)]) s else K (.exit 0) (sp 20 [(0, v)]) s
  | 0, i, hi => by
    have hlt : ¬ ((i : Int) < (l.length : Int)) := by omega
    refine round fun LL hLL => ?_
    simp -implicitDefEqProofs only [↓GP, GB, GL, Nat.reduceAdd, Nat.reduceSub, Nat.reduceEqDiff, Nat.reduceMul, Nat.reduceLeDiff, Int.reduceBNe, Int.reduceBEq, Nat.reduceLT, reduceCtorEq, l24_0, h.len, hlt]
    rw [List.drop_eq_nil_of_le (by omega)]
    rfl
  | m + 1, i, hi => by
    have hlt : ((i : Int) < (l.length : Int)) := by omega
    have hi' : i < l.length := by omega
    have hd : l.drop i = l[i] :: l.drop (i + 1) := List.drop_eq_getElem_cons hi'
    obtain ⟨ad, a1, a2⟩ := h.get i hi'
    have a3 := (a2 s hs).2
    have hsn := (h.some_ l[i] (List.getElem_mem hi')).1
    have hw := wrap_add1 (a := i) (by omega)
    refine round fun LL hLL => ?_
    rw [hd, List.any_cons]
    by_cases hb : 200 < l[i].2.length
    · have hb' : ((l[i].1.sn : Int) > 200) := by omega
      simp -implicitDefEqProofs only [↓GP, GB, GL, Nat.reduceAdd, Nat.reduceSub, Nat.reduceEqDiff, Nat.reduceMul, Nat.reduceLeDiff, Int.reduceBNe, Int.reduceBEq, Nat.reduceLT, reduceCtorEq, l24_0, h.len, hlt, a1, a3, hb']
      simp [hb]
    · have hb' : ¬ ((l[i].1.sn : Int) > 200) := by omega
      simp -implicitDefEqProofs only [↓GP, GB, GL, Nat.reduceAdd, Nat.reduceSub, Nat.reduceEqDiff, Nat.reduceMul, Nat.reduceLeDiff, Int.reduceBNe, Int.reduceBEq, Nat.reduceLT, reduceCtorEq, l24_0, h.len, hlt, a1, a3, hb', hw]
      rw [hLL, long_loop hs h hl m (i + 1) (by omega)]
      have hf : decide (200 < l[i].2.length) = false := by simpa using hb
      rw [hf, Bool.false_or]
theorem s24 {v : V} {l : List (ActG × List Bool)} (hs : s.old = o) (h : ActsAt o v l) (hl : l.length < 2 ^ 61) : call PF 24 [v] s = some (.bool (longB l), s) := by
  rw [call_run F24]; simp -implicitDefEqProofs only [↓GP, GB, GL, Nat.reduceAdd, Nat.reduceSub, Nat.reduceEqDiff, Nat.reduceMul, Nat.reduceLeDiff, Int.reduceBNe, Int.reduceBEq, Nat.reduceLT, reduceCtorEq, c24]
  refine (long_loop hs h hl l.length 0 (by omega)).trans ?_
  rw [List.drop_zero]
  unfold longB
  cases l.any (fun x => decide (200 < x.2.length)) with
  | true => simp -implicitDefEqProofs only [↓GP, GB, GL, Nat.reduceAdd, Nat.reduceSub, Nat.reduceEqDiff, Nat.reduceMul, Nat.reduceLeDiff, Int.reduceBNe, Int.reduceBEq, Nat.reduceLT, reduceCtorEq]
  | false =>
    by_cases hb : 150 < l.length
    · have hb' : ((l.length : Int) > 150) := by omega
      simp -implicitDefEqProofs only [↓GP, GB, GL, Nat.reduceAdd, Nat.reduceSub, Nat.reduceEqDiff, Nat.reduceMul, Nat.reduceLeDiff, Int.reduceBNe, Int.reduceBEq, Nat.reduceLT, reduceCtorEq, h.len, hb', hb]
    · have hb' : ¬ ((l.length : Int) > 150) := by omega
      simp -implicitDefEqProofs only [↓GP, GB, GL, Nat.reduceAdd, Nat.reduceSub, Nat.reduceEqDiff, Nat.reduceMul, Nat.reduceLeDiff, Int.reduceBNe, Int.reduceBEq, Nat.reduceLT, reduceCtorEq, h.len, hb', hb]
theorem pool_init (n : Nat) : PoolInv (List.replicate n false) [] := ⟨List.nodup_nil, fun p => by simp [List.getElem?_replicate]⟩
theorem PairOk.init {n id wk pid prk k m rid rrk : Nat} {sl : List V} (hn : n ≤ 30) : PairOk (List.replicate n false) [] ⟨id, wk, ⟨pid, prk, 1, [⟨k, 0, 0, m, .map [] 0, 0, 1, 0, [], []⟩], sl⟩, ⟨rid, rrk, false, 1, [⟨0, 0, 0, 1, 0, [], []⟩], []⟩, []⟩ where
  ulen := by simpa using hn
  lives := rfl
  same := rfl
  inv := ⟨by simp, by simp, by simp, by simp, by simp [PReg.m], fun r hr => by
    simp [PReg.m] at hr; subst hr
    exact ⟨by simp, by simp, fun h => by simp at h, fun _ => Packed.nil, fun x hx => by cases hx⟩⟩
  pool := pool_init n
  pok := fun g hg => by simp at hg; subst hg; exact mapIs_nil
  grown := ⟨fun _ => rfl, 0, rfl⟩
  pz := fun g hg _ => by simp at hg; subst hg; rfl
  one := fun _ => rfl
theorem s25 {n : Nat} (h1 : 1 ≤ n) (h2 : n ≤ 30) (H : Holds o s F)
    (k : ∀ s' p r q t G hk, PairOk (List.replicate n false) [] G → G.ws = [] → G.hp.lives = 1 → Holds o s' ((hk, rowO 1 1 [ptrN G.id]) :: World p r q t (List.replicate n false) G F) → Q (.tuple [rowV hk 1, ptrN p, ptrN q, .bool true]) s') : WP (call PF 25 [I n, I 1] s) Q := by
  have e17 := s17 s (n : Int) (by omega) (by omega)
  have H1 := (H.alloc (.cells (zeros [.bool false] (n : Int).toNat) none)).alloc (.cells [slN s.next (n : Int).toNat] none)
  simp only [Int.toNat_natCast, alloc_next] at e17 H1
  generalize (s.alloc (.cells (zeros [.bool false] n) none)).alloc (.cells [slN s.next n] none) = s1 at e17 H1
  have e18 := s18 s1 (n : Int) (by omega) (by omega)
  have H2 := (H1.alloc (.cells (zeros [.bool false] (n : Int).toNat) none)).alloc (.cells [slN s1.next (n : Int).toNat] none)
  simp only [Int.toNat_natCast, alloc_next] at e18 H2
  generalize (s1.alloc (.cells (zeros [.bool false] n) none)).alloc (.cells [slN s1.next n] none) = s2 at e18 H2
  have H3 : Holds o s2 (poolC (s.next + 1) s.next (List.replicate n false) ++ (poolC (s1.next + 1) s1.next (List.replicate n false) ++ F)) := (Holds.of (H2) (fun k => by simp +arith only [zeros_bool, List.length_replicate, HA, HB]) (fun k x => by simp only [zeros_bool, List.length_replicate, HA, HC]; grind only))
  rw [call_run F25]; simp -implicitDefEqProofs only [↓GP, GB, GL, Nat.reduceAdd, Nat.reduceSub, Nat.reduceEqDiff, Nat.reduceMul, Nat.reduceLeDiff, Int.reduceBNe, Int.reduceBEq, Nat.reduceLT, reduceCtorEq, c25, e17, e18]
  refine wp_round fun LL hLL => ?_
  simp -implicitDefEqProofs only [↓GP, GB, GL, Nat.reduceAdd, Nat.reduceSub, Nat.reduceEqDiff, Nat.reduceMul, Nat.reduceLeDiff, Int.reduceBNe, Int.reduceBEq, Nat.reduceLT, reduceCtorEq, l25_0, Int.reduceLT]
  refine wp_in (s22 (F := poolC (s1.next + 1) s1.next (List.replicate n false) ++ F) H3 (by simp; omega) fun s3 id rk kk m sl H4 => ?_)
  simp -implicitDefEqProofs only [↓GP, GB, GL, Nat.reduceAdd, Nat.reduceSub, Nat.reduceEqDiff, Nat.reduceMul, Nat.reduceLeDiff, Int.reduceBNe, Int.reduceBEq, Nat.reduceLT, reduceCtorEq]
  refine wp_in (s58 (p := s1.next + 1) (r := s1.next) (u := List.replicate n false) (F := poolC (s.next + 1) s.next (List.replicate n false) ++ (PHeap.ch (s.next + 1) ⟨id, rk, 1, [⟨kk, 0, 0, m, .map [] 0, 0, 1, 0, [], []⟩], sl⟩ ++ F)) (Holds.of (H4) (fun k => by simp +arith only [HA, HB]) (fun k x => by simp only [HA, HC]; grind only)) (by simp; omega) fun s4 id' rk' H5 => ?_)
  simp -implicitDefEqProofs only [↓GP, GB, GL, Nat.reduceAdd, Nat.reduceSub, Nat.reduceEqDiff, Nat.reduceMul, Nat.reduceLeDiff, Int.reduceBNe, Int.reduceBEq, Nat.reduceLT, reduceCtorEq, Int.reduceBNe, Int.reduceBEq]
  have H6 := (H5.alloc (.cells [ptrN id, ptrN id', .slice none 0 (some 0)] none)).alloc (.cells [ptrN s4.next] none)
  refine wp_append (k := 0) (n := 0) (cs := []) (F := (s4.next + 1, some (.cells [ptrN s4.next] none)) :: (s4.next, some (.cells [ptrN id, ptrN id', .slice none 0 (some 0)] none)) :: (poolC (s1.next + 1) s1.next (List.replicate n false) ++ (RHeap.ch (s1.next + 1) ⟨id', rk', false, 1, [⟨0, 0, 0, 1, 0, [], []⟩], []⟩ ++ (poolC (s.next + 1) s.next (List.replicate n false) ++ (PHeap.ch (s.next + 1) ⟨id, rk, 1, [⟨kk, 0, 0, m, .map [] 0, 0, 1, 0, [], []⟩], sl⟩ ++ F)))))
    (Holds.of (H6.nilEntry 0) (fun k => by simp +arith only [rowO_zero, HA, HB]) (fun k x => by simp only [rowO_zero, HA, HC]; grind only)) rfl (new_cells' (alloc_new_same _ _) rfl) rfl rfl (by omega) (by unfold maxRow; omega) (by unfold maxRow; omega) fun hk s5 H7 => ?_
  have w : wrapI .i64 ((0 : Int) + 1) = I 1 := by rw [wrap64 (by omega) (by omega)]; rfl
  simp -implicitDefEqProofs only [↓GP, GB, GL, Nat.reduceAdd, Nat.reduceSub, Nat.reduceEqDiff, Nat.reduceMul, Nat.reduceLeDiff, Int.reduceBNe, Int.reduceBEq, Nat.reduceLT, reduceCtorEq, w]
  rw [hLL]
  refine wp_round fun LL hLL => ?_
  simp -implicitDefEqProofs only [↓GP, GB, GL, Nat.reduceAdd, Nat.reduceSub, Nat.reduceEqDiff, Nat.reduceMul, Nat.reduceLeDiff, Int.reduceBNe, Int.reduceBEq, Nat.reduceLT, reduceCtorEq, l25_0, Int.reduceLT]
  refine k _ (s.next + 1) s.next (s1.next + 1) s1.next ⟨s4.next, 0, ⟨id, rk, 1, [⟨kk, 0, 0, m, .map [] 0, 0, 1, 0, [], []⟩], sl⟩, ⟨id', rk', false, 1, [⟨0, 0, 0, 1, 0, [], []⟩], []⟩, []⟩ hk (PairOk.init h2) rfl rfl (Holds.of (H7) (fun k => by simp +arith only [rowV_zero, rowO_zero, List.length_nil, List.flatMap_nil, HA, HB]) (fun k x => by simp only [rowV_zero, rowO_zero, List.length_nil, List.flatMap_nil, HA, HC]; grind only))
end
end Go.Proofs.Ytoldkemimhebaaa

set_option linter.unusedSimpArgs false
set_option linter.unusedVariables false
namespace Go.Proofs.Ytoldkemimhebaaa
open Go Go.IM
def c40 : IFn := ⟨19, [(6, none)],
  (.seq (.region [oa 6 (.mov (.c (.bool false)))] (kp 19 [0,1,2]))
  (.seq (.region [oa 7 (.mov (.t 0)), oa 8 (.call 24 [(.t 7)]), oa 9 (.mov (.t 8)), oc 10 (.mov (.t 1)) 9 ff, oc 11 (.lenSlice (.t 10)) 9 ff, oc 12 (.bin .gtr (.t 11) (ai 40)) 9 ff, oa 13 (.pick (.t 9) (.c (.bool true)) (.t 12)), oa 14 (.mov (.t 13)), oc 15 (.mov (.t 2)) 14 ff, oc 16 (.lenSlice (.t 15)) 14 ff, oc 17 (.bin .gtr (.t 16) (ai 20)) 14 ff, oa 18 (.pick (.t 14) (.c (.bool true)) (.t 17)), oa 6 (.mov (.t 18))] (kp 19 [6]))
  (sr 19 [6])))⟩
theorem F40 : shutF Try.prog 40 = some c40 := by kernel_rfl
def l42_0 : IC := (.seq (.seq (.seq (.region [oa 17 (.mov (.t 8)), oa 18 (.mov (.t 0)), oa 19 (.lenSlice (.t 18)), oa 20 (.bin .lss (.t 17) (.t 19))] (kp 35 [0,4,8,20]))
  (.cond (.t 20)
  (sk 35 [0,4,8])
  (sx 35 [4] 0)))
  (.seq (.block 1
  (.seq (.region [oa 23 (.mov (.t 4)), oa 24 (.indexAddr 1 (.t 23) (ai 0)), oa 25 (.load none (.t 24)), oa 26 (.mov (.t 0)), oa 27 (.mov (.t 8)), oa 28 (.indexAddr 11 (.t 26) (.t 27)), oa 29 (.load (some 11) (.t 28)), oa 30 (.call 26 [(.t 25), (.t 29)]), oa 31 (.un .not (.t 30))] (kp 35 [0,4,8,31]))
  (.cond (.t 31)
  (.seq (.region [oa 2 (.mov (.c (.ptr none))), oa 3 (.mov (.c (.bool false)))] (kp 35 [2,3]))
  (sr 35 [2,3]))
  (sk 35 [0,4,8]))))
  (.region [oa 21 (.mov (.t 8)), oa 22 (.bin .add (.t 21) (ai 1)), oa 8 (.mov (.t 22))] (kp 35 [0,4,8]))))
  (sk 35 [0,4,8]))
def j42_bbbb : IC := (.seq (.region [oa 32 (.mov (.t 4)), oa 33 (.indexAddr 1 (.t 32) (ai 0)), oa 34 (.load none (.t 33)), oa 2 (.mov (.t 34)), oa 3 (.mov (.c (.bool true)))] (kp 35 [2,3]))
  (sr 35 [2,3]))
def c42 : IFn := ⟨35, [(2, none), (3, none)],
  (.seq (.region [oa 2 (.mov (.c (.ptr none))), oa 3 (.mov (.c (.bool false)))] (kp 35 [0]))
  (.seq (.region [oa 10 (.call 25 [(ai 30), (ai 1)]), oa 9 (.mov (.t 10)), oa 11 (.extract (.t 9) 0), oa 12 (.extract (.t 9) 1), oa 13 (.extract (.t 9) 2), oa 14 (.extract (.t 9) 3), oa 4 (.mov (.t 11)), oa 5 (.mov (.t 12)), oa 6 (.mov (.t 13)), oa 7 (.mov (.t 14))] (kp 35 [0,4,7]))
  (.seq (.seq (.region [oa 15 (.mov (.t 7)), oa 16 (.un .not (.t 15))] (kp 35 [0,4,16]))
  (.cond (.t 16)
  (.seq (.region [oa 2 (.mov (.c (.ptr none))), oa 3 (.mov (.c (.bool false)))] (kp 35 [2,3]))
  (sr 35 [2,3]))
  (sk 35 [0,4])))
  (.seq (.seq (.region [oa 8 (.mov (ai 0))] (kp 35 [0,4,8]))
  (.block 0
  (.seq (sk 35 [0,4,8])
  (.loop l42_0))))
  j42_bbbb))))⟩
theorem F42 : shutF Try.prog 42 = some c42 := by kernel_rfl
def l43_0 : IC := (.seq (.seq (.seq (.region [oa 9 (.mov (.t 8)), oa 10 (.mov (.t 1)), oa 11 (.lenSlice (.t 10)), oa 12 (.bin .lss (.t 9) (.t 11))] (kp 50 [0,1,2,7,8,12]))
  (.cond (.t 12)
  (sk 50 [0,1,2,7,8])
  (sx 50 [2,7] 0)))
  (.seq (.block 1
  (.seq (.region [oa 15 (.mov (.t 1)), oa 16 (.mov (.t 8)), oa 17 (.indexAddr 1 (.t 15) (.t 16)), oa 18 (.load none (.t 17)), oa 19 (.bin .geq (.t 18) (ai 0)), oa 20 (.mov (.t 19)), oc 21 (.mov (.t 0)) 20 tt, oc 22 (.nilCheck (.t 21)) 20 tt, oc 23 (.fieldAddr 2 (.t 22)) 20 tt, oc 24 (.load none (.t 23)) 20 tt, oc 25 (.lenSlice (.t 24)) 20 tt, oc 26 (.bin .gtr (.t 25) (ai 0)) 20 tt, oa 27 (.pick (.t 20) (.t 26) (.c (.bool false)))] (kp 50 [0,1,2,7,8,27]))
  (.cond (.t 27)
  (.region [oa 28 (.mov (.t 7)), oa 29 (.mov (.t 0)), oa 30 (.nilCheck (.t 29)), oa 31 (.fieldAddr 2 (.t 30)), oa 32 (.load none (.t 31)), oa 33 (.mov (.t 1)), oa 34 (.mov (.t 8)), oa 35 (.indexAddr 1 (.t 33) (.t 34)), oa 36 (.load none (.t 35)), oa 37 (.mov (.t 0)), oa 38 (.nilCheck (.t 37)), oa 39 (.fieldAddr 2 (.t 38)), oa 40 (.load none (.t 39)), oa 41 (.lenSlice (.t 40)), oa 42 (.bin .rem (.t 36) (.t 41)), oa 43 (.indexAddr 2 (.t 32) (.t 42)), oa 44 (.load (some 2) (.t 43)), oa 45 (.buildSlice 1 [(.int .i64 (0)), (.int .i64 (0))] [(0, 2, (.t 44))]), oa 46 (.append 2 16 (.t 28) (.t 45)), oa 7 (.mov (.t 46))] (kp 50 [0,1,2,7,8]))
  (sk 50 [0,1,2,7,8]))))
  (.region [oa 13 (.mov (.t 8)), oa 14 (.bin .add (.t 13) (ai 1)), oa 8 (.mov (.t 14))] (kp 50 [0,1,2,7,8]))))
  (sk 50 [0,1,2,7,8]))
def j43_bbb : IC := (.seq (.region [oa 47 (.mov (.t 7)), oa 48 (.mov (.t 2)), oa 49 (.append 2 16 (.t 47) (.t 48)), oa 6 (.mov (.t 49))] (kp 50 [6]))
  (sr 50 [6]))
def c43 : IFn := ⟨50, [(6, none)],
  (.seq (.region [oa 6 (.mov (.c (.slice none 0 (some 0))))] (kp 50 [0,1,2]))
  (.seq (.region [oa 7 (.mov (.c (.slice none 0 (some 0))))] (kp 50 [0,1,2,7]))
  (.seq (.seq (.region [oa 8 (.mov (ai 0))] (kp 50 [0,1,2,7,8]))
  (.block 0
  (.seq (sk 50 [0,1,2,7,8])
  (.loop l43_0))))
  j43_bbb)))⟩
theorem F43 : shutF Try.prog 43 = some c43 := by kernel_rfl
section
variable {o : Nat → Option O} {s : St} {C F : Ch} {Q : V → St → Prop} {p r q t : Nat} {u : List Bool} {others : List Nat} {G : PairG}
set_option maxRecDepth 10000
set_option maxHeartbeats 4000000
structure OldI (o : Nat → Option O) (v : V) (l : List Int) : Prop where
  len : lenV v = some (I l.length)
  get : ∀ (i : Nat) (h : i < l.length), ∃ a, ixV 1 v (I (i : Nat)) = some (.ptr (some a)) ∧ ∀ s : St, s.old = o → loadV none (.ptr (some a)) s = some (I l[i])
structure OldW (o : Nat → Option O) (v : V) (l : List (Int × Int)) : Prop where
  len : lenV v = some (I l.length)
  new : ∀ s : St, s.old = o → newCells s 2 v = some (l.flatMap encW, l.length)
theorem oldW_nil : OldW o (.slice none 0 (some 0)) [] := ⟨rfl, fun _ _ => rfl⟩
def longR (l : List (ActG × List Bool)) (n m : Nat) : Bool := longB l || decide ((n : Int) > 40) || decide ((m : Int) > 20)
theorem s40 {v w1 w2 : V} {l : List (ActG × List Bool)} {n m : Nat} (hs : s.old = o) (h : ActsAt o v l) (hl : l.length < 2 ^ 61) (h1 : lenV w1 = some (I n)) (h2 : lenV w2 = some (I m)) :
    call PF 40 [v, w1, w2] s = some (.bool (longR l n m), s) := by
  have e := s24 hs h hl
  unfold longR
  cases hb : longB l with
  | true =>
    rw [hb] at e
    rw [call_run F40]; simp -implicitDefEqProofs only [↓GP, GB, GL, Nat.reduceAdd, Nat.reduceSub, Nat.reduceEqDiff, Nat.reduceMul, Nat.reduceLeDiff, Int.reduceBNe, Int.reduceBEq, Nat.reduceLT, reduceCtorEq, c40, e, Bool.true_or]
  | false =>
    rw [hb] at e
    by_cases hn : (n : Int) > 40
    · rw [call_run F40]; simp -implicitDefEqProofs only [↓GP, GB, GL, Nat.reduceAdd, Nat.reduceSub, Nat.reduceEqDiff, Nat.reduceMul, Nat.reduceLeDiff, Int.reduceBNe, Int.reduceBEq, Nat.reduceLT, reduceCtorEq, c40, e, h1, hn, Bool.true_or, Bool.or_true, Bool.false_or, decide_true]
    · by_cases hm : (m : Int) > 20
      · rw [call_run F40]; simp -implicitDefEqProofs only [↓GP, GB, GL, Nat.reduceAdd, Nat.reduceSub, Nat.reduceEqDiff, Nat.reduceMul, Nat.reduceLeDiff, Int.reduceBNe, Int.reduceBEq, Nat.reduceLT, reduceCtorEq, c40, e, h1, hn, h2, hm, Bool.true_or, Bool.or_true, Bool.false_or, decide_true, decide_false]
      · rw [call_run F40]; simp -implicitDefEqProofs only [↓GP, GB, GL, Nat.reduceAdd, Nat.reduceSub, Nat.reduceEqDiff, Nat.reduceMul, Nat.reduceLeDiff, Int.reduceBNe, Int.reduceBEq, Nat.reduceLT, reduceCtorEq, c40, e, h1, hn, h2, hm, Bool.true_or, Bool.or_true, Bool.false_or, decide_true, decide_false]
theorem made_loop {hk : Nat} {v : V} {l : List (ActG × List Bool)} {K : Kt} (hA : ActsAt o v l) (hl : l.length ≤ 150) :
    ∀ (m i : Nat) (s : St) (u : List Bool) (G : PairG), i + m = l.length → PairOk u others G → G.ws.length ≤ 1000 * i → Holds o s (World p r q t u G ((hk, rowO 1 1 [ptrN G.id]) :: F)) →
    (∀ s' u' G', PairOk u' others G' → G'.id = G.id → u'.length = u.length → G'.hp.lives ≤ G.hp.lives + m → G'.ws.length ≤ 1000 * l.length → Holds o s' (World p r q t u' G' ((hk, rowO 1 1 [ptrN G.id]) :: F)) → WP (K (.exit 0) (sp 35 [(4, rowV hk 1)]) s') Q) →
    WP (loop PF (.loop l42_0) (sp 35 [(0, v), (4, rowV hk 1), (8, I i)]) s K) Q
  | 0, i, s, u, G, hi, h, hw, H, k => by
    have hlt : ¬ ((i : Int) < (l.length : Int)) := by omega
    refine wp_round fun LL hLL => ?_
    simp -implicitDefEqProofs only [↓GP, GB, GL, Nat.reduceAdd, Nat.reduceSub, Nat.reduceEqDiff, Nat.reduceMul, Nat.reduceLeDiff, Int.reduceBNe, Int.reduceBEq, Nat.reduceLT, reduceCtorEq, l42_0, hA.len, hlt]
    exact k s u G h rfl rfl (by omega) (by omega) H
  | m + 1, i, s, u, G, hi, h, hw, H, k => by
    have hlt : ((i : Int) < (l.length : Int)) := by omega
    have hi' : i < l.length := by omega
    obtain ⟨ad, a1, a2⟩ := hA.get i hi'
    have a3 := (a2 s H.old).1
    have mi := List.getElem_mem hi'
    have fh := H.mem (World.fr (List.mem_cons_self ..) : (hk, some (.cells [ptrN G.id] (some 1))) ∈ World p r q t u G ((hk, rowO 1 1 [ptrN G.id]) :: F))
    have hix := ix_row (sz := 1) (k := hk) (n := 1) (i := 0) (kk := .i64) (by omega)
    have hw1 := wrap_add1 (a := i) (by omega)
    simp only [Int.natCast_zero, Nat.zero_mul] at hix
    refine wp_round fun LL hLL => ?_
    simp -implicitDefEqProofs only [↓GP, GB, GL, Nat.reduceAdd, Nat.reduceSub, Nat.reduceEqDiff, Nat.reduceMul, Nat.reduceLeDiff, Int.reduceBNe, Int.reduceBEq, Nat.reduceLT, reduceCtorEq, l42_0, hA.len, hlt, hix, fh, a1, a3]
    refine wp_in (s26 (bs := l[i].2) l[i].1 (hA.d _ mi).1 (hA.some_ _ mi) h (by omega) H fun s1 u1 G1 n1 h1 => ?_)
    simp -implicitDefEqProofs only [↓GP, GB, GL, Nat.reduceAdd, Nat.reduceSub, Nat.reduceEqDiff, Nat.reduceMul, Nat.reduceLeDiff, Int.reduceBNe, Int.reduceBEq, Nat.reduceLT, reduceCtorEq, hw1]
    rw [hLL]
    refine made_loop hA hl m (i + 1) s1 u1 G1 (by omega) n1.ok (by have := n1.ws; omega) (by rw [n1.id]; exact h1) fun s2 u2 G2 ok2 e1 e2 e3 e4 h2 => k s2 u2 G2 ok2 (e1.trans n1.id) (e2.trans n1.ul) (by have := n1.lv; omega) e4 (by rw [← n1.id]; exact h2)
theorem s42 {v : V} {l : List (ActG × List Bool)} (hA : ActsAt o v l) (hl : l.length ≤ 150) (H : Holds o s F)
    (k : ∀ s' p r q t u' G', PairOk u' [] G' → u'.length = 30 → G'.hp.lives ≤ 151 → G'.ws.length ≤ 150000 → Holds o s' (World p r q t u' G' F) → Q (.tuple [ptrN G'.id, .bool true]) s') : WP (call PF 42 [v] s) Q := by
  rw [call_run F42]; simp -implicitDefEqProofs only [↓GP, GB, GL, Nat.reduceAdd, Nat.reduceSub, Nat.reduceEqDiff, Nat.reduceMul, Nat.reduceLeDiff, Int.reduceBNe, Int.reduceBEq, Nat.reduceLT, reduceCtorEq, c42]
  refine wp_in (s25 (n := 30) (by omega) (by omega) H fun s1 p r q t G hk ok hws hlv h1 => ?_)
  simp -implicitDefEqProofs only [↓GP, GB, GL, Nat.reduceAdd, Nat.reduceSub, Nat.reduceEqDiff, Nat.reduceMul, Nat.reduceLeDiff, Int.reduceBNe, Int.reduceBEq, Nat.reduceLT, reduceCtorEq]
  have h2 : Holds o s1 (World p r q t (List.replicate 30 false) G ((hk, rowO 1 1 [ptrN G.id]) :: F)) := (Holds.of (h1) (fun k => by simp +arith only [HA, HB]) (fun k x => by simp only [HA, HC]; grind only))
  have := made_loop (K := blockK 0 (seqK (loop PF) (call PF) j42_bbbb (finR [(2, none), (3, none)]))) (Q := Q) hA hl l.length 0 s1 (List.replicate 30 false) G (by omega) ok (by rw [hws]; simp) h2
  simp only [Int.natCast_zero] at this
  refine this fun s2 u2 G2 ok2 e1 e2 e3 e4 h3 => ?_
  have fh := h3.mem (World.fr (List.mem_cons_self ..) : (hk, some (.cells [ptrN G.id] (some 1))) ∈ World p r q t u2 G2 ((hk, rowO 1 1 [ptrN G.id]) :: F))
  have hix := ix_row (sz := 1) (k := hk) (n := 1) (i := 0) (kk := .i64) (by omega)
  simp only [Int.natCast_zero, Nat.zero_mul] at hix
  simp -implicitDefEqProofs only [↓GP, GB, GL, Nat.reduceAdd, Nat.reduceSub, Nat.reduceEqDiff, Nat.reduceMul, Nat.reduceLeDiff, Int.reduceBNe, Int.reduceBEq, Nat.reduceLT, reduceCtorEq, j42_bbbb, fh, hix]
  rw [← e1]
  have h4 : Holds o s2 ((hk, rowO 1 1 [ptrN G.id]) :: World p r q t u2 G2 F) := (Holds.of (h3) (fun k => by simp +arith only [HA, HB]) (fun k x => by simp only [HA, HC]; grind only))
  exact k s2 p r q t u2 G2 ok2 (e2.trans (by simp)) (by omega) (by omega) h4.tl
def pickL (ws : List (Int × Int)) (is : List Int) : List (Int × Int) := is.filterMap fun x => if 0 ≤ x then ws[x.toNat % ws.length]? else none
theorem roots_loop {id wk : Nat} {hv rv v v2 : V} {is : List Int} {ws : List (Int × Int)} {K : Kt} (hI : OldI o v is) (hl : is.length ≤ 40) (hws : ws.length ≤ 1000000)
    (mid : (id, some (.cells [hv, rv, rowV wk ws.length] none)) ∈ C) (mw : (wk, rowO 2 ws.length (ws.flatMap encW)) ∈ C) :
    ∀ (m i k : Nat) (acc : List (Int × Int)) (s : St), i + m = is.length → acc.length ≤ i → Holds o s ((k, rowO 2 acc.length (acc.flatMap encW)) :: C) →
    (∀ s' k', Holds o s' ((k', rowO 2 (acc ++ pickL ws (is.drop i)).length ((acc ++ pickL ws (is.drop i)).flatMap encW)) :: C) → WP (K (.exit 0) (sp 50 [(2, v2), (7, rowV k' (acc ++ pickL ws (is.drop i)).length)]) s') Q) →
    WP (loop PF (.loop l43_0) (sp 50 [(0, ptrN id), (1, v), (2, v2), (7, rowV k acc.length), (8, I i)]) s K) Q
  | 0, i, k, acc, s, hi, ha, H, q => by
    have hlt : ¬ ((i : Int) < (is.length : Int)) := by omega
    rw [List.drop_eq_nil_of_le (by omega), show pickL ws [] = [] from rfl, List.append_nil] at q
    refine wp_round fun LL hLL => ?_
    simp -implicitDefEqProofs only [↓GP, GB, GL, Nat.reduceAdd, Nat.reduceSub, Nat.reduceEqDiff, Nat.reduceMul, Nat.reduceLeDiff, Int.reduceBNe, Int.reduceBEq, Nat.reduceLT, reduceCtorEq, l43_0, hI.len, hlt]
    exact q s k H
  | m + 1, i, k, acc, s, hi, ha, H, q => by
    have hlt : ((i : Int) < (is.length : Int)) := by omega
    have hi' : i < is.length := by omega
    obtain ⟨ad, a1, a2⟩ := hI.get i hi'
    have a3 := a2 s H.old
    have hw1 := wrap_add1 (a := i) (by omega)
    have f := H.mem (List.mem_cons_of_mem _ mid)
    rw [List.drop_eq_getElem_cons hi', show ∀ x l, pickL ws (x :: l) = (if 0 ≤ x then ws[x.toNat % ws.length]? else none).toList ++ pickL ws l from fun x l => by
      unfold pickL; rw [List.filterMap_cons]; cases (if 0 ≤ x then ws[x.toNat % ws.length]? else none) <;> rfl] at q
    generalize is[i] = x at q a3
    by_cases hx : 0 ≤ x
    · have hx' : (x ≥ 0) := hx
      by_cases hn : 0 < ws.length
      · have hn' : ((ws.length : Int) > 0) := by omega
        have hm : x.toNat % ws.length < ws.length := Nat.mod_lt _ hn
        have e1 := ix_row (sz := 2) (k := wk) (n := ws.length) (i := x.toNat % ws.length) (kk := .i64) hm
        have e2 : rowO 2 ws.length (ws.flatMap encW) = some (.cells (ws.flatMap encW) (some 2)) := by unfold rowO; rw [if_neg (by omega)]
        have fw := H.mem (List.mem_cons_of_mem _ (e2 ▸ mw))
        have e3 := ldN_tab (enc := encW) encW_len ws (some 2) (List.getElem?_eq_getElem hm)
        rw [if_pos hx, List.getElem?_eq_getElem hm, Option.toList_some, ← List.append_assoc] at q
        refine wp_round fun LL hLL => ?_
        simp -implicitDefEqProofs only [↓GP, GB, GL, Nat.reduceAdd, Nat.reduceSub, Nat.reduceEqDiff, Nat.reduceMul, Nat.reduceLeDiff, Int.reduceBNe, Int.reduceBEq, Nat.reduceLT, reduceCtorEq, l43_0, hI.len, hlt, a1, a3, hx', hn', f, rem_i64 hx hn, e1, fw, e3, encW]
        refine wp_append (cs := acc.flatMap encW) ((H.alloc _).r1) (by rw [tab_len encW_len]) (new_cells' (alloc_new_same _ _) rfl) rfl rfl (by omega) (by unfold maxRow; omega) (by unfold maxRow; omega) fun k' s1 h1 => ?_
        simp -implicitDefEqProofs only [↓GP, GB, GL, Nat.reduceAdd, Nat.reduceSub, Nat.reduceEqDiff, Nat.reduceMul, Nat.reduceLeDiff, Int.reduceBNe, Int.reduceBEq, Nat.reduceLT, reduceCtorEq, hw1]
        rw [hLL]
        have hl1 : (acc ++ [ws[x.toNat % ws.length]]).length = acc.length + 1 := by simp
        have := roots_loop (K := K) (v2 := v2) hI hl hws mid mw m (i + 1) k' (acc ++ [ws[x.toNat % ws.length]]) s1 (by omega) (by simp; omega) (by
          have h2 := h1.r1.tl
          rw [List.flatMap_append]; simpa [encW] using h2) q
        rw [hl1] at this
        exact this
      · have hn' : ¬ ((ws.length : Int) > 0) := by omega
        have hz : ws = [] := List.length_eq_zero_iff.1 (by omega)
        rw [if_pos hx, show ws[x.toNat % ws.length]? = none by rw [hz]; rfl, Option.toList_none, List.nil_append] at q
        refine wp_round fun LL hLL => ?_
        simp -implicitDefEqProofs only [↓GP, GB, GL, Nat.reduceAdd, Nat.reduceSub, Nat.reduceEqDiff, Nat.reduceMul, Nat.reduceLeDiff, Int.reduceBNe, Int.reduceBEq, Nat.reduceLT, reduceCtorEq, l43_0, hI.len, hlt, a1, a3, hx', hn', f, hw1]
        rw [hLL]
        exact roots_loop hI hl hws mid mw m (i + 1) k acc s (by omega) (by omega) H q
    · have hx' : ¬ (x ≥ 0) := hx
      rw [if_neg hx, Option.toList_none, List.nil_append] at q
      refine wp_round fun LL hLL => ?_
      simp -implicitDefEqProofs only [↓GP, GB, GL, Nat.reduceAdd, Nat.reduceSub, Nat.reduceEqDiff, Nat.reduceMul, Nat.reduceLeDiff, Int.reduceBNe, Int.reduceBEq, Nat.reduceLT, reduceCtorEq, l43_0, hI.len, hlt, a1, a3, hx', hw1]
      rw [hLL]
      exact roots_loop hI hl hws mid mw m (i + 1) k acc s (by omega) (by omega) H q
theorem s43 {id wk : Nat} {hv rv v v2 : V} {is : List Int} {ws os : List (Int × Int)} (hI : OldI o v is) (hl : is.length ≤ 40) (hO : OldW o v2 os) (hol : os.length ≤ 20) (hws : ws.length ≤ 1000000)
    (mid : (id, some (.cells [hv, rv, rowV wk ws.length] none)) ∈ C) (mw : (wk, rowO 2 ws.length (ws.flatMap encW)) ∈ C) (H : Holds o s C)
    (q : ∀ s' k', Holds o s' ((k', rowO 2 (pickL ws is ++ os).length ((pickL ws is ++ os).flatMap encW)) :: C) → Q (rowV k' (pickL ws is ++ os).length) s') : WP (call PF 43 [ptrN id, v, v2] s) Q := by
  rw [call_run F43]; simp -implicitDefEqProofs only [↓GP, GB, GL, Nat.reduceAdd, Nat.reduceSub, Nat.reduceEqDiff, Nat.reduceMul, Nat.reduceLeDiff, Int.reduceBNe, Int.reduceBEq, Nat.reduceLT, reduceCtorEq, c43]
  have h0 := H.nilEntry 0
  have hpl : (pickL ws is).length ≤ 40 := by unfold pickL; exact Nat.le_trans (List.length_filterMap_le ..) hl
  have := roots_loop (K := blockK 0 (seqK (loop PF) (call PF) j43_bbb (finR [(6, none)]))) (Q := Q) (v2 := v2) hI hl hws mid mw is.length 0 0 [] s (by omega) (by simp) h0
  simp only [List.drop_zero, List.nil_append, List.length_nil, Int.natCast_zero] at this
  refine this fun s1 k1 h1 => ?_
  simp -implicitDefEqProofs only [↓GP, GB, GL, Nat.reduceAdd, Nat.reduceSub, Nat.reduceEqDiff, Nat.reduceMul, Nat.reduceLeDiff, Int.reduceBNe, Int.reduceBEq, Nat.reduceLT, reduceCtorEq, j43_bbb]
  refine wp_append (cs := (pickL ws is).flatMap encW) h1 (by rw [tab_len encW_len]) (hO.new s1 h1.old) (by rw [tab_len encW_len]) (by rw [List.all_flatMap]; simp [encW, V.one]) (by omega) (by unfold maxRow; omega) (by unfold maxRow; omega) fun k2 s2 h2 => ?_
  simp -implicitDefEqProofs only [↓GP, GB, GL, Nat.reduceAdd, Nat.reduceSub, Nat.reduceEqDiff, Nat.reduceMul, Nat.reduceLeDiff, Int.reduceBNe, Int.reduceBEq, Nat.reduceLT, reduceCtorEq]
  have e := q s2 k2 (by rw [List.length_append, List.flatMap_append]; exact h2)
  rw [List.length_append] at e
  exact e
end
end Go.Proofs.Ytoldkemimhebaaa

set_option linter.unusedSimpArgs false
set_option linter.unusedVariables false
namespace Go.IM
section
variable {M : LT × CallT} {ps : List Nat} {a b : IC} {e : Env} {k : Nat} {t : St} {Q : V → St → Prop}
end
end Go.IM
namespace Go.Proofs.Ytoldkemimhebaaa
open Go Go.IM
def c118 : IFn := ⟨25, [(4, none)],
  (.seq (.region [oa 3 (.box (.t 1)), oa 4 (.mov (.c (.bool false)))] (kp 25 [0,3]))
  (.seq (.region [oa 9 (.mov (.t 0)), oa 10 (.nilCheck (.t 9)), oa 11 (.fieldAddr 0 (.t 10)), oa 12 (.load none (.t 11)), oa 13 (.load (some 2) (.t 3)), oa 14 (.call 30 [(.t 12), (.t 13)]), oa 8 (.mov (.t 14)), oa 15 (.extract (.t 8) 0), oa 16 (.extract (.t 8) 1), oa 17 (.extract (.t 8) 2), oa 5 (.mov (.t 15)), oa 6 (.mov (.t 16)), oa 7 (.mov (.t 17))] (kp 25 [3,7]))
  (.seq (.region [oa 18 (.fieldAddr 1 (.t 3)), oa 19 (.load none (.t 18)), oa 20 (.bin .gtr (.t 19) (ai 0)), oa 21 (.mov (.t 20)), oc 22 (.mov (.t 7)) 21 tt, oc 23 (.bin .eql (.t 22) (ai 0)) 21 tt, oa 24 (.pick (.t 21) (.t 23) (.c (.bool false))), oa 4 (.mov (.t 24))] (kp 25 [4]))
  (sr 25 [4]))))⟩
theorem F118 : shutF Try.prog 118 = some c118 := by kernel_rfl
def c89 : IFn := ⟨6, [(2, none)],
  (.seq (.region [oa 2 (.mov (.c (.bool false)))] (kp 6 [0]))
  (.seq (.region [oa 3 (.mov (.t 0)), oa 4 (.call 27 [(.t 3)]), oa 5 (.bin .eql (.t 4) (ai 0)), oa 2 (.mov (.t 5))] (kp 6 [2]))
  (sr 6 [2])))⟩
theorem F89 : shutF Try.prog 89 = some c89 := by kernel_rfl
section
variable {o : Nat → Option O} {s : St} {C F : Ch} {Q : V → St → Prop} {p : Nat}
set_option maxRecDepth 10000
set_option maxHeartbeats 4000000
structure Look (C : Ch) (p : Nat) (hp : PHeap) : Prop where
  hin : In C p hp
  ne : hp.regs ≠ []
  len : hp.regs.length ≤ 100000
  ok : ∀ g ∈ hp.regs, g.ok
  ws : ∀ g ∈ hp.regs, ∀ x ∈ g.objs, x.b.ws.length ≤ 31
theorem Look.cons {hp : PHeap} (h : Look C p hp) (x : Nat × Option O) : Look (x :: C) p hp := ⟨h.hin.cons x, h.ne, h.len, h.ok, h.ws⟩
theorem Look.mono {D : Ch} {hp : PHeap} (h : Look C p hp) (hs : ∀ x ∈ C, x ∈ D) : Look D p hp := ⟨h.hin.mono hs, h.ne, h.len, h.ok, h.ws⟩
def thereB (hp : PHeap) (w : Int × Int) : Bool := decide (0 < w.2) && (pfind w.1 w.2 hp.regs).isSome
theorem s118 {hp : PHeap} {t : Nat} {lv mv : V} {w : Int × Int} (H : Holds o s C) (h : Look C p hp) (mt : (t, some (.cells [ptrN hp.id, lv, mv] none)) ∈ C)
    (q : ∀ s', Holds o s' C → Q (.bool (thereB hp w)) s') : WP (call PF 118 [ptrN t, .agg (encW w)] s) Q := by
  have h1 := H.alloc (.cells (encW w) none)
  have f := H.mem mt
  have f0 := h1.g0
  by_cases hL : 0 < w.2
  · have hL' : (w.2 > 0) := hL
    cases hx : pfind w.1 w.2 hp.regs with
    | some x =>
      rw [call_run F118]; simp -implicitDefEqProofs only [↓GP, GB, GL, Nat.reduceAdd, Nat.reduceSub, Nat.reduceEqDiff, Nat.reduceMul, Nat.reduceLeDiff, Int.reduceBNe, Int.reduceBEq, Nat.reduceLT, reduceCtorEq, c118, f, encW]
      refine wp_in (s30 h1 (h.cons _).hin h.ne h.len h.ok hL hx fun s1 h2 => ?_)
      have f1 := h2.g0
      simp -implicitDefEqProofs only [↓GP, GB, GL, Nat.reduceAdd, Nat.reduceSub, Nat.reduceEqDiff, Nat.reduceMul, Nat.reduceLeDiff, Int.reduceBNe, Int.reduceBEq, Nat.reduceLT, reduceCtorEq, f1, encW, hL', Int.reduceBEq]
      have := q s1 h2.tl
      unfold thereB at this
      rw [hx] at this
      simpa [hL] using this
    | none =>
      rw [call_run F118]; simp -implicitDefEqProofs only [↓GP, GB, GL, Nat.reduceAdd, Nat.reduceSub, Nat.reduceEqDiff, Nat.reduceMul, Nat.reduceLeDiff, Int.reduceBNe, Int.reduceBEq, Nat.reduceLT, reduceCtorEq, c118, f, encW]
      refine wp_in (s30_err (err := 80) h1 (.inr ⟨hp, p, rfl, (h.cons _).hin, h.ne, h.len, h.ok, .inr ⟨rfl, hL, rfl, hx⟩⟩) fun s1 h2 => ?_)
      have f1 := h2.g0
      simp -implicitDefEqProofs only [↓GP, GB, GL, Nat.reduceAdd, Nat.reduceSub, Nat.reduceEqDiff, Nat.reduceMul, Nat.reduceLeDiff, Int.reduceBNe, Int.reduceBEq, Nat.reduceLT, reduceCtorEq, f1, encW, hL', Int.reduceBEq]
      have := q s1 h2.tl
      unfold thereB at this
      rw [hx] at this
      simpa [hL] using this
  · have hL' : ¬ (w.2 > 0) := hL
    rw [call_run F118]; simp -implicitDefEqProofs only [↓GP, GB, GL, Nat.reduceAdd, Nat.reduceSub, Nat.reduceEqDiff, Nat.reduceMul, Nat.reduceLeDiff, Int.reduceBNe, Int.reduceBEq, Nat.reduceLT, reduceCtorEq, c118, f, encW]
    refine wp_in (s30_err (err := 2) h1 (.inr ⟨hp, p, rfl, (h.cons _).hin, h.ne, h.len, h.ok, .inl ⟨rfl, fun hh => hL hh.1⟩⟩) fun s1 h2 => ?_)
    have f1 := h2.g0
    simp -implicitDefEqProofs only [↓GP, GB, GL, Nat.reduceAdd, Nat.reduceSub, Nat.reduceEqDiff, Nat.reduceMul, Nat.reduceLeDiff, Int.reduceBNe, Int.reduceBEq, Nat.reduceLT, reduceCtorEq, f1, encW, hL', Int.reduceBEq]
    have := q s1 h2.tl
    unfold thereB at this
    simpa [hL] using this
def encA (w : Int × Int) : V := .agg (encW w)
theorem keyA : KeyOk (.agg [.i, .i]) encA := by
  intro a b
  obtain ⟨a1, a2⟩ := a
  obtain ⟨b1, b2⟩ := b
  simp only [encA, encW, keyEq, cellsEq, cellEq, if_true, Option.bind_some, Prod.mk.injEq, Bool.decide_and]
  by_cases h1 : a1 = b1 <;> by_cases h2 : a2 = b2 <;> simp [h1, h2]
def putW (hp : PHeap) (l : List (Int × Int)) (w : Int × Int) : List (Int × Int) := if w ∉ l ∧ thereB hp w = true then l ++ [w] else l
end
end Go.Proofs.Ytoldkemimhebaaa

set_option linter.unusedSimpArgs false
set_option linter.unusedVariables false
namespace Go.Proofs.Ytoldkemimhebaaa
open Go Go.IM
section
variable {o : Nat → Option O} {s : St} {C F : Ch} {Q : V → St → Prop} {p : Nat}
set_option maxRecDepth 10000
set_option maxHeartbeats 4000000
def objW (hp : PHeap) (w : Int × Int) : List (Int × Int) := ((pfind w.1 w.2 hp.regs).map fun x => x.b.ws).getD []
def allW (hp : PHeap) : List (Int × Int) := hp.regs.flatMap fun g => g.objs.map fun x => ((x.b.at_ : Int), (g.life : Int))
theorem nodup_le {α : Type} [DecidableEq α] : ∀ {l m : List α}, l.Nodup → (∀ x ∈ l, x ∈ m) → l.length ≤ m.length
  | [], _, _, _ => Nat.zero_le _
  | a :: l, m, hn, hs => by
    have ha := hs a (List.mem_cons_self ..)
    have hn' := List.nodup_cons.1 hn
    have := nodup_le (l := l) (m := m.erase a) hn'.2 fun x hx => by
      have hne : x ≠ a := fun e => hn'.1 (e ▸ hx)
      exact (List.mem_erase_of_ne hne).2 (hs x (List.mem_cons_of_mem _ hx))
    rw [List.length_erase_of_mem ha] at this
    have h0 : 0 < m.length := List.length_pos_of_mem ha
    simp; omega
structure Found (hp : PHeap) (l : List (Int × Int)) : Prop where
  nodup : l.Nodup
  there : ∀ w ∈ l, thereB hp w = true
theorem there_all {hp : PHeap} {w : Int × Int} (h : thereB hp w = true) : w ∈ allW hp := by
  unfold thereB at h
  simp only [Bool.and_eq_true, decide_eq_true_eq] at h
  obtain ⟨h0, h1⟩ := h
  cases hx : pfind w.1 w.2 hp.regs with
  | none => rw [hx] at h1; cases h1
  | some x =>
    obtain ⟨g, mg, hg⟩ := List.exists_of_findSome?_eq_some hx
    obtain ⟨e1, e2, e3⟩ := pf_some hg
    refine List.mem_flatMap.2 ⟨g, mg, List.mem_map.2 ⟨x, e2, ?_⟩⟩
    rw [e1, e3]
theorem Found.len {hp : PHeap} {l : List (Int × Int)} (h : Found hp l) : l.length ≤ (allW hp).length := nodup_le h.nodup fun w hw => there_all (h.there w hw)
theorem Found.nil (hp : PHeap) : Found hp [] := ⟨List.nodup_nil, fun w h => by cases h⟩
theorem Found.put {hp : PHeap} {l : List (Int × Int)} (h : Found hp l) (w : Int × Int) : Found hp (putW hp l w) := by
  unfold putW
  split
  · rename_i hc
    refine ⟨List.nodup_append.2 ⟨h.nodup, by simp, fun a ha b hb => ?_⟩, fun v hv => ?_⟩
    · simp at hb; subst hb; intro e; subst e; exact hc.1 ha
    · rcases List.mem_append.1 hv with hv | hv
      · exact h.there v hv
      · simp at hv; subst hv; exact hc.2
  · exact h
theorem rowO_z : rowO 2 0 [] = none := rfl
theorem I0 : V.int .i64 0 = I ((0 : Nat) : Int) := rfl
theorem rowV_z (k : Nat) : rowV k 0 = .slice none 0 (some 0) := rfl
end
end Go.Proofs.Ytoldkemimhebaaa

set_option linter.unusedSimpArgs false
set_option linter.unusedVariables false
namespace Go.Proofs.Ytoldkemimhebaaa
open Go Go.IM
def l5_0 : IC := (.seq (.seq (.seq (.region [oa 33 (.mov (.t 10)), oa 34 (.mov (.t 0)), oa 35 (.lenSlice (.t 34)), oa 36 (.bin .lss (.t 33) (.t 35))] (kp 112 [0,1,5,6,9,10,36]))
  (.cond (.t 36)
  (sk 112 [0,1,5,6,9,10])
  (sx 112 [1,6,9] 0)))
  (.seq (.block 1
  (.region [oa 39 (.mov (.t 5)), oa 40 (.indexAddr 1 (.t 39) (ai 0)), oa 41 (.load none (.t 40)), oa 42 (.mov (.t 0)), oa 43 (.mov (.t 10)), oa 44 (.indexAddr 11 (.t 42) (.t 43)), oa 45 (.load (some 11) (.t 44)), oa 46 (.call 26 [(.t 41), (.t 45)])] (kp 112 [0,1,5,6,9,10])))
  (.region [oa 37 (.mov (.t 10)), oa 38 (.bin .add (.t 37) (ai 1)), oa 10 (.mov (.t 38))] (kp 112 [0,1,5,6,9,10]))))
  (sk 112 [0,1,5,6,9,10]))
def l5_1 : IC := (.seq (.seq (.seq (.region [oa 47 (.mov (.t 9)), oa 48 (.call 27 [(.t 47)]), oa 49 (.bin .gtr (.t 48) (ai 1))] (kp 112 [1,6,9,49]))
  (.cond (.t 49)
  (sk 112 [1,6,9])
  (sx 112 [6,9] 2)))
  (.block 3
  (.seq (.region [oa 50 (.mov (.t 9)), oa 51 (.call 27 [(.t 50)]), oa 52 (.bin .sub (.t 51) (ai 1)), oa 11 (.mov (.t 52))] (kp 112 [1,6,9,11]))
  (.seq (.region [oa 54 (.mov (.t 9)), oa 55 (.mov (.t 11)), oa 56 (.call 29 [(.t 54), (.t 55)]), oa 53 (.mov (.t 56)), oa 57 (.extract (.t 53) 0), oa 58 (.extract (.t 53) 1), oa 12 (.mov (.t 57)), oa 13 (.mov (.t 58))] (kp 112 [1,6,9,11,12,13]))
  (.seq (.region [oa 59 (.mov (.t 6)), oa 60 (.call 19 [(.t 59)]), oa 14 (.mov (.t 60))] (kp 112 [1,6,9,11,12,13,14]))
  (.seq (.seq (.region [oa 61 (.mov (.t 13)), oa 62 (.bin .neq (.t 61) (ai 0))] (kp 112 [1,6,9,11,12,14,62]))
  (.cond (.t 62)
  (.seq (.region [oa 4 (.mov (.c (.bool false)))] (kp 112 [4]))
  (sr 112 [4]))
  (sk 112 [1,6,9,11,12,14])))
  (.seq (.seq (.region [oa 63 (.mov (.t 1))] (kp 112 [1,6,9,11,12,14,63]))
  (.cond (.t 63)
  (.seq (.region [oa 65 (.mov (.t 9)), oa 66 (.mov (.t 11)), oa 67 (.call 31 [(.t 65), (.t 66)]), oa 64 (.mov (.t 67)), oa 68 (.extract (.t 64) 0), oa 69 (.extract (.t 64) 1), oa 13 (.mov (.t 69))] (kp 112 [1,6,9,12,13,14]))
  (.seq (.seq (.region [oa 70 (.mov (.t 13)), oa 71 (.bin .neq (.t 70) (ai 0)), oa 72 (.mov (.t 71)), oc 73 (.mov (.t 6)) 72 ff, oc 74 (.call 19 [(.t 73)]) 72 ff, oc 75 (.mov (.t 14)) 72 ff, oc 76 (.mov (.t 12)) 72 ff, oc 77 (.lenSlice (.t 76)) 72 ff, oc 78 (.bin .add (.t 75) (.t 77)) 72 ff, oc 79 (.bin .neq (.t 74) (.t 78)) 72 ff, oa 80 (.pick (.t 72) (.c (.bool true)) (.t 79))] (kp 112 [1,6,9,80]))
  (.cond (.t 80)
  (.seq (.region [oa 4 (.mov (.c (.bool false)))] (kp 112 [4]))
  (sr 112 [4]))
  (sk 112 [1,6,9])))
  (.seq (.region [oa 12 (.mov (.c (.slice none 0 (some 0))))] (kp 112 [1,6,9,12]))
  (.region [oa 81 (.mov (.t 6)), oa 82 (.call 19 [(.t 81)]), oa 14 (.mov (.t 82))] (kp 112 [1,6,9,12,14])))))
  (sk 112 [1,6,9,12,14])))
  (.seq (.region [oa 84 (.mov (.t 9)), oa 85 (.call 32 [(.t 84)]), oa 83 (.mov (.t 85)), oa 86 (.extract (.t 83) 0), oa 87 (.extract (.t 83) 1), oa 15 (.mov (.t 86)), oa 13 (.mov (.t 87))] (kp 112 [1,6,9,12,13,14,15]))
  (.seq (.region [oa 88 (.mov (.t 13)), oa 89 (.bin .neq (.t 88) (ai 0)), oa 90 (.mov (.t 89)), oc 91 (.mov (.t 15)) 90 ff, oc 92 (.mov (.t 12)) 90 ff, oc 93 (.lenSlice (.t 92)) 90 ff, oc 94 (.bin .neq (.t 91) (.t 93)) 90 ff, oa 95 (.pick (.t 90) (.c (.bool true)) (.t 94)), oa 96 (.mov (.t 95)), oc 97 (.mov (.t 6)) 96 ff, oc 98 (.call 19 [(.t 97)]) 96 ff, oc 99 (.mov (.t 14)) 96 ff, oc 100 (.mov (.t 15)) 96 ff, oc 101 (.bin .add (.t 99) (.t 100)) 96 ff, oc 102 (.bin .neq (.t 98) (.t 101)) 96 ff, oa 103 (.pick (.t 96) (.c (.bool true)) (.t 102))] (kp 112 [1,6,9,103]))
  (.cond (.t 103)
  (.seq (.region [oa 4 (.mov (.c (.bool false)))] (kp 112 [4]))
  (sr 112 [4]))
  (sk 112 [1,6,9])))))))))))
  (sk 112 [1,6,9]))
def c5 : IFn := ⟨112, [(4, none)],
  (.seq (.region [oa 4 (.mov (.c (.bool false)))] (kp 112 [0,1]))
  (.seq (.seq (.region [oa 16 (.mov (.t 0)), oa 17 (.call 24 [(.t 16)])] (kp 112 [0,1,17]))
  (.cond (.t 17)
  (.seq (.region [oa 18 (.call 23 []), oa 4 (.mov (.t 18))] (kp 112 [4]))
  (sr 112 [4]))
  (sk 112 [0,1])))
  (.seq (.region [oa 20 (.call 25 [(ai 12), (ai 1)]), oa 19 (.mov (.t 20)), oa 21 (.extract (.t 19) 0), oa 22 (.extract (.t 19) 1), oa 23 (.extract (.t 19) 2), oa 24 (.extract (.t 19) 3), oa 5 (.mov (.t 21)), oa 6 (.mov (.t 22)), oa 7 (.mov (.t 23)), oa 8 (.mov (.t 24))] (kp 112 [0,1,5,6,8]))
  (.seq (.seq (.region [oa 25 (.mov (.t 8)), oa 26 (.un .not (.t 25))] (kp 112 [0,1,5,6,26]))
  (.cond (.t 26)
  (.seq (.region [oa 4 (.mov (.c (.bool false)))] (kp 112 [4]))
  (sr 112 [4]))
  (sk 112 [0,1,5,6])))
  (.seq (.region [oa 27 (.mov (.t 5)), oa 28 (.indexAddr 1 (.t 27) (ai 0)), oa 29 (.load none (.t 28)), oa 30 (.nilCheck (.t 29)), oa 31 (.fieldAddr 0 (.t 30)), oa 32 (.load none (.t 31)), oa 9 (.mov (.t 32))] (kp 112 [0,1,5,6,9]))
  (.seq (.seq (.region [oa 10 (.mov (ai 0))] (kp 112 [0,1,5,6,9,10]))
  (.block 0
  (.seq (sk 112 [0,1,5,6,9,10])
  (.loop l5_0))))
  (.seq (.block 2
  (.seq (sk 112 [1,6,9])
  (.loop l5_1)))
  (.seq (.region [oa 104 (.mov (.t 9)), oa 105 (.call 33 [(.t 104)])] (kp 112 [6]))
  (.seq (.region [oa 106 (.mov (.t 6)), oa 107 (.call 21 [(.t 106)]), oa 108 (.bin .eql (.t 107) (ai 0)), oa 109 (.mov (.t 108)), oc 110 (.call 23 []) 109 tt, oa 111 (.pick (.t 109) (.t 110) (.c (.bool false))), oa 4 (.mov (.t 111))] (kp 112 [4]))
  (sr 112 [4]))))))))))⟩
section
variable {o : Nat → Option O} {s : St} {C F : Ch} {Q : V → St → Prop} {p r q t : Nat} {u : List Bool} {others : List Nat} {G : PairG}
set_option maxRecDepth 10000
set_option maxHeartbeats 4000000
structure POk (u : List Bool) (hp : PHeap) : Prop where
  ulen : u.length ≤ 30
  inv : HInv hp.lives (hp.regs.map PReg.m)
  pool : PoolInv u ((hp.regs.map PReg.m).flatMap (·.pages))
  pok : ∀ g ∈ hp.regs, g.ok
theorem POk.ne {hp : PHeap} (h : POk u hp) : hp.regs ≠ [] := fun e => h.inv.ne (by rw [e]; rfl)
theorem POk.len {hp : PHeap} (h : POk u hp) : hp.regs.length ≤ 100000 := by have h1 := h.inv.len; have h2 := h.inv.lives; rw [List.length_map] at h1; omega
theorem POk.last {hp : PHeap} (h : POk u hp) {A : List PReg} {g : PReg} (e : hp.regs = A ++ [g]) : PoolInv u (g.pages ++ (A.map PReg.m).flatMap (·.pages)) := by
  have := h.pool
  rw [e] at this
  refine this.perm ?_
  simp only [List.map_append, List.map_cons, List.map_nil, List.flatMap_append, List.flatMap_cons, List.flatMap_nil, List.append_nil]
  exact List.perm_append_comm
theorem POk.pop {hp : PHeap} (h : POk u hp) {A : List PReg} {g : PReg} (e : hp.regs = A ++ [g]) (h0 : A ≠ []) (sl : List V) : POk (freeP u g.pages) { hp with regs := A, sl := sl } where
  ulen := by rw [freeP_len]; exact h.ulen
  inv := by
    have hi := h.inv
    rw [e] at hi
    simp only [List.map_append, List.map_cons, List.map_nil] at hi
    refine ⟨hi.lives, by simpa using h0, by have := hi.len; simp at this ⊢; omega, ?_, fun r hr => hi.life r (List.mem_append_left _ hr), fun r hr => hi.reg r (List.mem_append_left _ hr)⟩
    have := hi.nodup
    rw [List.map_append, List.nodup_append] at this
    exact this.1
  pool := (h.last e).free
  pok := fun x hx => h.pok x (by rw [e]; exact List.mem_append_left _ hx)
theorem POk.reset {hp : PHeap} (h : POk u hp) {A : List PReg} {g : PReg} {k : Nat} (e : hp.regs = A ++ [g]) (hl : hp.lives < 100000) :
    POk (freeP u g.pages) { hp with lives := hp.lives + 1, regs := A ++ { g with life := hp.lives + 1, fill := 0, pages := [], objs := [], plk := k, pl := .map [] 0 } :: [] } where
  ulen := by rw [freeP_len]; exact h.ulen
  inv := by
    have hi := h.inv
    rw [e] at hi
    simp only [List.map_append, List.map_cons, List.map_nil] at hi
    refine ⟨by simp only; omega, by simp, by have := hi.len; simp at this ⊢; omega, ?_, ?_, ?_⟩
    · have hn := hi.nodup
      simp only [List.map_append, List.map_cons, List.map_nil, List.nodup_append] at hn ⊢
      refine ⟨hn.1, by simp, fun x hx y hy => ?_⟩
      obtain ⟨r, hr, rfl⟩ := List.mem_map.1 hx
      have := (hi.life r (List.mem_append_left _ hr)).2
      simp [PReg.m] at hy
      omega
    · intro r hr
      simp only [List.map_append, List.map_cons, List.map_nil, List.mem_append, List.mem_cons, List.not_mem_nil, or_false] at hr
      rcases hr with hr | rfl
      · have := hi.life r (List.mem_append_left _ hr); simp only; omega
      · simp only [PReg.m]; omega
    · intro r hr
      simp only [List.map_append, List.map_cons, List.map_nil, List.mem_append, List.mem_cons, List.not_mem_nil, or_false] at hr
      rcases hr with hr | rfl
      · exact hi.reg r (List.mem_append_left _ hr)
      · have := (hi.reg g.m (by simp)).size
        exact ⟨this, by simp [PReg.m], fun _ => by simp [PReg.m], fun _ => Packed.nil, fun x hx => by simp [PReg.m] at hx⟩
  pool := by
    have := (h.last e).free
    simpa [PReg.m] using this
  pok := by
    intro x hx
    simp only [List.mem_append, List.mem_cons, List.not_mem_nil, or_false] at hx
    rcases hx with hx | rfl
    · exact h.pok x (by rw [e]; simp [hx])
    · exact mapIs_nil
end
end Go.Proofs.Ytoldkemimhebaaa

set_option linter.unusedSimpArgs false
set_option linter.unusedVariables false
namespace Go.Proofs.Ytoldkemimhebaaa
open Go Go.IM
def layObj (ys : List Obj) (ats : List Nat) : List Obj := List.zipWith (fun x a => { x with at_ := a }) ys ats
theorem layObj_os : ∀ (ys : List Obj) (ats : List Nat), ats.length = ys.length → (layObj ys ats).map (fun x => (x.at_, x.ws.length + 1)) = ats.zip (ys.map fun x => x.ws.length + 1)
  | [], [], _ => rfl
  | [], _ :: _, h => by simp at h
  | _ :: _, [], h => by simp at h
  | y :: ys, a :: ats, h => by
    have := layObj_os ys ats (by simpa using h)
    simp only [layObj] at this
    simp only [layObj, List.zipWith_cons_cons, List.map_cons, List.zip_cons_cons, this]
theorem layObj_mem : ∀ (ys : List Obj) (ats : List Nat), ∀ z ∈ layObj ys ats, ∃ y ∈ ys, z.ws = y.ws ∧ z.kind = y.kind
  | [], _, z, h => by simp [layObj] at h
  | _ :: _, [], z, h => by simp [layObj] at h
  | y :: ys, a :: ats, z, h => by
    simp only [layObj, List.zipWith_cons_cons, List.mem_cons] at h
    rcases h with rfl | h
    · exact ⟨y, List.mem_cons_self .., rfl, rfl⟩
    · obtain ⟨y', h1, h2⟩ := layObj_mem ys ats z h
      exact ⟨y', List.mem_cons_of_mem _ h1, h2⟩
structure RsOk (lv : Nat) (u : List Bool) (regs : List Reg) : Prop where
  ulen : u.length ≤ 30
  inv : HInv lv regs
  pool : PoolInv u (regs.flatMap (·.pages))
theorem RsOk.turn {lv : Nat} {u : List Bool} {A B : List Reg} {g : Reg} (h : RsOk lv u (A ++ g :: B)) (hs : g.size = 0) {ys : List Obj} (hx : ys.Sublist g.objs) :
    ∃ ats u' fill' pages', layM 0 g.life (ys.map fun x => x.ws.length + 1) (freeP u g.pages) 0 [] = some (ats, u', fill', pages') ∧ ats.Nodup ∧ pages'.length ≤ 30 ∧ ats.length = ys.length ∧ u'.length = u.length ∧
      RsOk lv u' (A ++ { g with fill := fill', pages := pages', objs := layObj ys ats } :: B) := by
  have hi := h.inv.reg g (by simp)
  have hpk := hi.inf hs
  have hp1 : PoolInv u (g.pages ++ (A.flatMap (·.pages) ++ B.flatMap (·.pages))) := by
    have := h.pool
    refine this.perm ?_
    simp only [List.flatMap_append, List.flatMap_cons]
    exact (List.perm_append_comm_assoc _ _ _).symm
  have hfr := hp1.free
  have hf := hpk.fold
  have hsub : (ys.map fun x => x.ws.length + 1).Sublist ((g.objs.map fun x => (x.at_, x.ws.length + 1)).map (·.2)) := by
    simp only [List.map_map]
    exact hx.map _
  have hle := fold_sub hsub (Le2.refl (0, 0))
  rw [hf] at hle
  have hcnt : g.pages.length ≤ (freeP u g.pages).count false := by
    have c1 := hfr.count
    have c2 := count_both (freeP u g.pages)
    have c3 := hp1.len
    rw [freeP_len] at c2
    rw [List.length_append] at c3
    omega
  obtain ⟨⟨ats, u', fill', pages'⟩, hlay, hlen⟩ := layM_some (life := g.life) (ys.map fun x => x.ws.length + 1) (freeP u g.pages) 0 [] (by
    have : ((ys.map fun x => x.ws.length + 1).foldl step (0, 0)).1 ≤ g.pages.length := by unfold Le2 at hle; omega
    simp only [List.length_nil]; omega)
  have hp2 : PoolInv (freeP u g.pages) ([] ++ (A.flatMap (·.pages) ++ B.flatMap (·.pages))) := hfr
  obtain ⟨k1, k2⟩ := lay_packed Packed.nil hp2 hlay
  rw [List.nil_append] at k1
  have hal : ats.length = ys.length := by have := layM_len hlay; simpa using this
  have hul : u'.length = u.length := by have := (layM_pages hlay).2; simp only at this; rw [this, freeP_len]
  have hnd : ats.Nodup := by
    have := k1.nodup (fun x hx' => by
      obtain ⟨a, b⟩ := x
      have := (List.of_mem_zip hx').2
      obtain ⟨y, hy, rfl⟩ := List.mem_map.1 this
      have := hi.ws y (hx.subset hy)
      simp only; omega)
    rwa [List.map_fst_zip (by simp; omega)] at this
  have hul30 := h.ulen
  refine ⟨ats, u', fill', pages', hlay, hnd, ?_, hal, hul, by omega, ?_, ?_⟩
  · have : pages'.length ≤ u'.length := k2.sub_len (List.sublist_append_left pages' _)
    omega
  · have hI := h.inv
    have hmap : (A ++ { g with fill := fill', pages := pages', objs := layObj ys ats } :: B).map (·.life) = (A ++ g :: B).map (·.life) := by simp
    refine ⟨hI.lives, by simp, by have := hI.len; simpa using this, by rw [hmap]; exact hI.nodup, fun r hr => ?_, fun r hr => ?_⟩
    · rcases List.mem_append.1 hr with hr | hr
      · exact hI.life r (List.mem_append_left _ hr)
      · rcases List.mem_cons.1 hr with rfl | hr
        · exact hI.life g (by simp)
        · exact hI.life r (by simp [hr])
    · rcases List.mem_append.1 hr with hr | hr
      · exact hI.reg r (List.mem_append_left _ hr)
      · rcases List.mem_cons.1 hr with rfl | hr
        · refine ⟨hi.size, fun z hz => ?_, fun h0 => ?_, fun _ => ?_, fun z hz => ?_⟩
          · obtain ⟨y, hy, e1, e2⟩ := layObj_mem _ _ z hz
            rw [e1, e2]; exact hi.ws y (hx.subset hy)
          · simp only at h0; omega
          · show Packed ((layObj ys ats).map _) _ _
            rw [layObj_os ys ats hal]; exact k1
          · obtain ⟨y, hy, e1, e2⟩ := layObj_mem _ _ z hz
            rw [e1]; exact hi.wl y (hx.subset hy)
        · exact hI.reg r (by simp [hr])
  · refine k2.perm ?_
    simp only [List.flatMap_append, List.flatMap_cons]
    exact List.perm_append_comm_assoc _ _ _
end Go.Proofs.Ytoldkemimhebaaa

set_option linter.unusedSimpArgs false
set_option linter.unusedVariables false
namespace Go.Proofs.Ytoldkemimhebaaa
open Go Go.IM
section
variable {o : Nat → Option O} {s : St} {C F : Ch} {Q : V → St → Prop} {p r : Nat} {u : List Bool}
set_option maxRecDepth 10000
set_option maxHeartbeats 4000000
theorem s89 (hC : Holds o s C) {hp : PHeap} {p : Nat} (hin : In C p hp) (h0 : hp.regs ≠ []) (hl : hp.regs.length ≤ 100000) : call PF 89 [ptrN hp.id] s = some (.bool false, s) := by
  have e := s27 hC hin
  have h1 := List.length_pos_iff.2 h0
  have h2 : ((hp.regs.length : Int) == 0) = false := by simp; omega
  rw [call_run F89]; simp -implicitDefEqProofs only [↓GP, GB, GL, Nat.reduceAdd, Nat.reduceSub, Nat.reduceEqDiff, Nat.reduceMul, Nat.reduceLeDiff, Int.reduceBNe, Int.reduceBEq, Nat.reduceLT, reduceCtorEq, c89, e, h2]
def nowW (to : Int × Int → Option (Int × Int)) (fx : List (Int × Int)) (w : Int × Int) : Int × Int := if w.2 = 0 then w else match to w with | some n => n | none => if w ∈ fx then w else (-1, w.2)
abbrev ToF := Int × Int → Option (Int × Int)
def updF (to : ToF) (x : (Int × Int) × (Int × Int)) : ToF := fun w => if w = x.1 then some x.2 else to w
end
end Go.Proofs.Ytoldkemimhebaaa

set_option linter.unusedSimpArgs false
set_option linter.unusedVariables false
namespace Go.Proofs.Ytoldkemimhebaaa
open Go Go.IM
def wordsR (g : Reg) : List (Int × Int) := g.objs.map fun x => ((x.at_ : Int), (g.life : Int))
structure ColS where
  regs : List Reg
  u : List Bool
  mv : ToF
  fx : List (Int × Int)
  objs : List (Int × Int)
def keptM (L : List (Int × Int)) (g : Reg) : List Obj := g.objs.filter fun x => decide (((x.at_ : Int), (g.life : Int)) ∈ L)
def colStep (L : List (Int × Int)) (S : ColS) (g : Reg) : ColS :=
  if 0 < g.pages.length then
    match layM 0 g.life ((keptM L g).map fun x => x.ws.length + 1) (freeP S.u g.pages) 0 [] with
    | some (ats, u', fill', pages') => ⟨S.regs ++ [{ g with fill := fill', pages := pages', objs := layObj (keptM L g) ats }], u',
        (((keptM L g).map fun x => ((x.at_ : Int), (g.life : Int))).zip (ats.map fun a : Nat => ((a : Int), (g.life : Int)))).foldl updF S.mv, S.fx, S.objs⟩
    | none => ⟨S.regs ++ [g], S.u, S.mv, S.fx, S.objs⟩
  else ⟨S.regs ++ [g], S.u, S.mv, S.fx ++ wordsR g, S.objs ++ wordsR g⟩
section
variable {o : Nat → Option O} {s : St} {C F : Ch} {Q : V → St → Prop} {p r : Nat} {u : List Bool}
set_option maxRecDepth 10000
set_option maxHeartbeats 4000000
end
end Go.Proofs.Ytoldkemimhebaaa

set_option linter.unusedSimpArgs false
set_option linter.unusedVariables false
namespace Go.Proofs.Ytoldkemimhebaaa
open Go Go.IM
section
variable {o : Nat → Option O} {s : St} {C F : Ch} {Q : V → St → Prop} {p r : Nat} {u : List Bool}
set_option maxRecDepth 10000
set_option maxHeartbeats 4000000
def toD (mv : ToF) (w : Int × Int) : Int × Int := (mv w).getD (0, 0)
end
end Go.Proofs.Ytoldkemimhebaaa

set_option linter.unusedSimpArgs false
set_option linter.unusedVariables false
namespace Go.Proofs.Ytoldkemimhebaaa
open Go Go.IM
def Obj.wr (x : Obj) (ws : List (Int × Int)) : Obj := { x with ws := ws }
def PObj.wr (x : PObj) (ws : List (Int × Int)) : PObj := { x with b := x.b.wr ws }
def setObj1 (w : Int × Int) (f : List (Int × Int) → List (Int × Int)) (x : Obj) : Obj := if (x.at_ : Int) = w.1 then x.wr (f x.ws) else x
def setReg1 (w : Int × Int) (f : List (Int × Int) → List (Int × Int)) (g : Reg) : Reg := if (g.life : Int) = w.2 then { g with objs := g.objs.map (setObj1 w f) } else g
def setM (w : Int × Int) (f : List (Int × Int) → List (Int × Int)) (rs : List Reg) : List Reg := rs.map (setReg1 w f)
theorem setReg1_life (w : Int × Int) (f) (g : Reg) : (setReg1 w f g).life = g.life := by unfold setReg1; split <;> rfl
theorem setReg1_pages (w : Int × Int) (f) (g : Reg) : (setReg1 w f g).pages = g.pages := by unfold setReg1; split <;> rfl
theorem setReg1_size (w : Int × Int) (f) (g : Reg) : (setReg1 w f g).size = g.size := by unfold setReg1; split <;> rfl
theorem setReg1_fill (w : Int × Int) (f) (g : Reg) : (setReg1 w f g).fill = g.fill := by unfold setReg1; split <;> rfl
theorem setObj1_at (w : Int × Int) (f) (x : Obj) : (setObj1 w f x).at_ = x.at_ := by unfold setObj1; split <;> rfl
theorem setObj1_kind (w : Int × Int) (f) (x : Obj) : (setObj1 w f x).kind = x.kind := by unfold setObj1; split <;> rfl
theorem setObj1_len (w : Int × Int) {f : List (Int × Int) → List (Int × Int)} (hf : ∀ l, (f l).length = l.length) (x : Obj) : (setObj1 w f x).ws.length = x.ws.length := by
  unfold setObj1; split
  · exact hf _
  · rfl
def shapeR (g : Reg) : Nat × Nat × Nat × List Nat × List (Nat × Nat × Nat) := (g.size, g.life, g.fill, g.pages, g.objs.map fun x => (x.at_, x.kind, x.ws.length))
theorem setReg1_shape (w : Int × Int) {f : List (Int × Int) → List (Int × Int)} (hf : ∀ l, (f l).length = l.length) (g : Reg) : shapeR (setReg1 w f g) = shapeR g := by
  unfold shapeR
  rw [setReg1_size, setReg1_life, setReg1_fill, setReg1_pages]
  unfold setReg1
  split
  · simp only [List.map_map]
    congr 4
    exact List.map_congr_left fun x _ => by simp only [Function.comp, setObj1_at, setObj1_kind, setObj1_len w hf]
  · rfl
theorem setM_shape (w : Int × Int) {f : List (Int × Int) → List (Int × Int)} (hf : ∀ l, (f l).length = l.length) (rs : List Reg) : (setM w f rs).map shapeR = rs.map shapeR := by
  unfold setM
  rw [List.map_map]
  exact List.map_congr_left fun g _ => setReg1_shape w hf g
def mfind (N L : Int) (rs : List Reg) : Option Obj := rs.findSome? fun r => if (r.life : Int) = L then r.objs.find? (fun x => decide ((x.at_ : Int) = N)) else none
def fixF (mv : ToF) (fx : List (Int × Int)) (v : Int × Int) : Int × Int := if 0 ≤ (nowW mv fx v).2 ∧ (nowW mv fx v).2 ≤ 100000 then nowW mv fx v else v
theorem RsOk.wl {lv : Nat} {u : List Bool} {rs : List Reg} (h : RsOk lv u rs) : ∀ r ∈ rs, ∀ x ∈ r.objs, ∀ v ∈ x.ws, 0 ≤ v.2 ∧ v.2 ≤ 100000 := fun r hr => (h.inv.reg r hr).wl
end Go.Proofs.Ytoldkemimhebaaa

set_option linter.unusedSimpArgs false
set_option linter.unusedVariables false
namespace Go.Proofs.Ytoldkemimhebaaa
open Go Go.IM
section
variable {o : Nat → Option O} {s : St} {C F : Ch} {Q : V → St → Prop} {p r : Nat} {u : List Bool}
set_option maxRecDepth 10000
set_option maxHeartbeats 4000000
theorem word_eq (a b : Int × Int) : eqI (.key (.agg [.i, .i])) (.agg [I a.1, I a.2]) (.agg [I b.1, I b.2]) = some (decide (a = b)) := keyA a b
def fixM (mv : ToF) (fx : List (Int × Int)) (rs : List Reg) (w : Int × Int) : List Reg := setM w (List.map (fixF mv fx)) rs
theorem map_len (f : Int × Int → Int × Int) : ∀ l : List (Int × Int), (l.map f).length = l.length := fun l => by simp
end
end Go.Proofs.Ytoldkemimhebaaa

set_option linter.unusedSimpArgs false
set_option linter.unusedVariables false
namespace Go.Proofs.Ytoldkemimhebaaa
open Go Go.IM
section
variable {o : Nat → Option O} {s : St} {C F : Ch} {Q : V → St → Prop}
set_option maxRecDepth 10000
set_option maxHeartbeats 4000000
end
end Go.Proofs.Ytoldkemimhebaaa

set_option linter.unusedSimpArgs false
set_option linter.unusedVariables false
namespace Go.Proofs.Ytoldkemimhebaaa
open Go Go.IM
theorem updF_other : ∀ (ps : List ((Int × Int) × (Int × Int))) (f : ToF) (w : Int × Int), (∀ x ∈ ps, x.1 ≠ w) → (ps.foldl updF f) w = f w
  | [], _, _, _ => rfl
  | x :: ps, f, w, h => by
    rw [List.foldl_cons, updF_other ps _ w fun y hy => h y (List.mem_cons_of_mem _ hy)]
    unfold updF
    rw [if_neg (fun e => h x (List.mem_cons_self ..) e.symm)]
theorem updF_mem : ∀ (ks ns : List (Int × Int)) (f : ToF) (w : Int × Int), ns.length = ks.length → w ∈ ks → ∃ n ∈ ns, ((ks.zip ns).foldl updF f) w = some n
  | [], _, _, _, _, h => by cases h
  | _ :: _, [], _, _, h, _ => by simp at h
  | k :: ks, n :: ns, f, w, hl, h => by
    rw [List.zip_cons_cons, List.foldl_cons]
    by_cases hw : w ∈ ks
    · obtain ⟨m, h1, h2⟩ := updF_mem ks ns (updF f (k, n)) w (by simpa using hl) hw
      exact ⟨m, List.mem_cons_of_mem _ h1, h2⟩
    · have e : w = k := by rcases List.mem_cons.1 h with h | h; exact h; exact absurd h hw
      refine ⟨n, List.mem_cons_self .., ?_⟩
      rw [updF_other]
      · unfold updF; rw [if_pos e]
      · intro x hx e2
        exact hw (e2 ▸ (List.of_mem_zip hx).1)
def Points (rs : List Reg) (w : Int × Int) : Prop := 0 < w.2 ∧ ∃ r ∈ rs, (r.life : Int) = w.2 ∧ ∃ x ∈ r.objs, (x.at_ : Int) = w.1
theorem Points.find {rs : List Reg} {w : Int × Int} (h : Points rs w) : 0 < w.2 ∧ (mfind w.1 w.2 rs).isSome = true := by
  obtain ⟨h0, r, hr, h1, x, hx, h2⟩ := h
  refine ⟨h0, ?_⟩
  unfold mfind
  rw [List.findSome?_isSome_iff]
  refine ⟨r, hr, ?_⟩
  rw [if_pos h1, List.find?_isSome]
  exact ⟨x, hx, by simpa using h2⟩
theorem Points.mono {rs rs' : List Reg} {w : Int × Int} (h : Points rs w) (hs : ∀ r ∈ rs, r ∈ rs') : Points rs' w := by
  obtain ⟨h0, r, hr, h1⟩ := h
  exact ⟨h0, r, hs r hr, h1⟩
theorem layObj_at : ∀ (ys : List Obj) (ats : List Nat), ats.length = ys.length → ∀ a ∈ ats, ∃ y ∈ layObj ys ats, y.at_ = a
  | [], [], _, a, h => by cases h
  | [], _ :: _, h, _, _ => by simp at h
  | _ :: _, [], h, _, _ => by simp at h
  | y :: ys, b :: ats, hl, a, h => by
    simp only [layObj, List.zipWith_cons_cons]
    rcases List.mem_cons.1 h with rfl | h
    · exact ⟨_, List.mem_cons_self .., rfl⟩
    · obtain ⟨z, h1, h2⟩ := layObj_at ys ats (by simpa using hl) a h
      exact ⟨z, List.mem_cons_of_mem _ h1, h2⟩
structure ColInv (L : List (Int × Int)) (lv : Nat) (A B : List Reg) (S : ColS) : Prop where
  ok : RsOk lv S.u (S.regs ++ B)
  lives : S.regs.map (·.life) = A.map (·.life)
  objs : ∀ w ∈ S.objs, Points S.regs w
  fx : ∀ g ∈ A, ¬ 0 < g.pages.length → ∀ w ∈ wordsR g, w ∈ S.fx
  mv : ∀ g ∈ A, 0 < g.pages.length → ∀ x ∈ g.objs, ((x.at_ : Int), (g.life : Int)) ∈ L → ∃ n, S.mv ((x.at_ : Int), (g.life : Int)) = some n ∧ Points S.regs n
theorem ColInv.step {L : List (Int × Int)} {lv : Nat} {A B : List Reg} {S : ColS} {g : Reg} (h : ColInv L lv A (g :: B) S) : ColInv L lv (A ++ [g]) B (colStep L S g) := by
  have hI := h.ok.inv
  have hri := hI.reg g (by simp)
  have hlf := hI.life g (by simp)
  unfold colStep
  by_cases hp : 0 < g.pages.length
  · rw [if_pos hp]
    have hs : g.size = 0 := by
      rcases Nat.eq_zero_or_pos g.size with h | h
      · exact h
      · have := (hri.fin h).1; rw [this] at hp; simp at hp
    obtain ⟨ats, u', fill', pages', hlay, hnd, hpl, hal, hul, hR⟩ := h.ok.turn hs (ys := keptM L g) (List.filter_sublist ..)
    rw [hlay]
    simp only
    have hsub : ∀ r ∈ S.regs, r ∈ S.regs ++ [({ g with fill := fill', pages := pages', objs := layObj (keptM L g) ats } : Reg)] := fun r hr => List.mem_append_left _ hr
    have hnew : ∀ x ∈ keptM L g, ∃ n, (((keptM L g).map fun x => ((x.at_ : Int), (g.life : Int))).zip (ats.map fun a : Nat => ((a : Int), (g.life : Int)))).foldl updF S.mv ((x.at_ : Int), (g.life : Int)) = some n ∧ Points (S.regs ++ [({ g with fill := fill', pages := pages', objs := layObj (keptM L g) ats } : Reg)]) n := by
      intro x hx
      obtain ⟨n, h1, h2⟩ := updF_mem ((keptM L g).map fun x => ((x.at_ : Int), (g.life : Int))) (ats.map fun a : Nat => ((a : Int), (g.life : Int))) S.mv ((x.at_ : Int), (g.life : Int)) (by simp [hal]) (List.mem_map.2 ⟨x, hx, rfl⟩)
      obtain ⟨a, ha, rfl⟩ := List.mem_map.1 h1
      obtain ⟨y, hy, hya⟩ := layObj_at (keptM L g) ats hal a ha
      exact ⟨_, h2, by simp only; omega, _, List.mem_append_right _ (List.mem_cons_self ..), rfl, y, hy, by rw [hya]⟩
    refine ⟨by simpa using hR, by rw [List.map_append, List.map_append, h.lives]; rfl, fun w hw => (h.objs w hw).mono hsub, fun g0 m0 h0 w hw => ?_, fun g0 m0 h0 x hx hL => ?_⟩
    · rcases List.mem_append.1 m0 with m0 | m0
      · exact h.fx g0 m0 h0 w hw
      · simp at m0; subst m0; exact absurd hp h0
    · rcases List.mem_append.1 m0 with m0 | m0
      · obtain ⟨n, h1, h2⟩ := h.mv g0 m0 h0 x hx hL
        refine ⟨n, ?_, h2.mono hsub⟩
        show (List.foldl updF S.mv _) _ = some n
        rw [updF_other, h1]
        intro y hy e
        obtain ⟨hy1, _⟩ := List.of_mem_zip hy
        obtain ⟨z, _, hz⟩ := List.mem_map.1 hy1
        rw [← hz] at e
        simp only [Prod.mk.injEq] at e
        have hn := hI.nodup
        rw [List.map_append, List.map_cons, h.lives, List.nodup_append] at hn
        exact hn.2.2 _ (List.mem_map.2 ⟨g0, m0, rfl⟩) _ (List.mem_cons_self ..) (by omega)
      · simp at m0; subst m0
        exact hnew x (by unfold keptM; exact List.mem_filter.2 ⟨hx, by simpa using hL⟩)
  · rw [if_neg hp]
    have hsub : ∀ r ∈ S.regs, r ∈ S.regs ++ [g] := fun r hr => List.mem_append_left _ hr
    refine ⟨by simpa using h.ok, by rw [List.map_append, List.map_append, h.lives], fun w hw => ?_, fun g0 m0 h0 w hw => ?_, fun g0 m0 h0 x hx hL => ?_⟩
    · rcases List.mem_append.1 hw with hw | hw
      · exact (h.objs w hw).mono hsub
      · obtain ⟨x, hx, rfl⟩ := List.mem_map.1 hw
        exact ⟨by simp only; omega, g, by simp, rfl, x, hx, rfl⟩
    · rcases List.mem_append.1 m0 with m0 | m0
      · exact List.mem_append_left _ (h.fx g0 m0 h0 w hw)
      · simp at m0; subst m0; exact List.mem_append_right _ hw
    · rcases List.mem_append.1 m0 with m0 | m0
      · obtain ⟨n, h1, h2⟩ := h.mv g0 m0 h0 x hx hL
        exact ⟨n, h1, h2.mono hsub⟩
      · simp at m0; subst m0; exact absurd h0 hp
theorem ColInv.all {L : List (Int × Int)} {lv : Nat} : ∀ {B A : List Reg} {S : ColS}, ColInv L lv A B S → ColInv L lv (A ++ B) [] (B.foldl (colStep L) S)
  | [], A, S, h => by simpa using h
  | g :: B, A, S, h => by
    have := (h.step).all
    rw [List.append_assoc] at this
    exact this
theorem ColInv.start {L : List (Int × Int)} {lv : Nat} {u : List Bool} {B : List Reg} (h : RsOk lv u B) : ColInv L lv [] B ⟨[], u, fun _ => none, [], []⟩ :=
  ⟨h, rfl, fun w hw => (by cases hw), fun g hg => (by cases hg), fun g hg => (by cases hg)⟩
def colAll (L : List (Int × Int)) (u : List Bool) (rs : List Reg) : ColS := rs.foldl (colStep L) ⟨[], u, fun _ => none, [], []⟩
def colObjs (L : List (Int × Int)) (S : ColS) : List (Int × Int) := S.objs ++ (L.filter fun w => !decide (w ∈ S.fx)).map (toD S.mv)
def colRegs (L : List (Int × Int)) (S : ColS) : List Reg := (colObjs L S).foldl (fixM S.mv S.fx) S.regs
end Go.Proofs.Ytoldkemimhebaaa

set_option linter.unusedSimpArgs false
set_option linter.unusedVariables false
namespace Go.Proofs.Ytoldkemimhebaaa
open Go Go.IM
section
variable {o : Nat → Option O} {s : St} {C F : Ch} {Q : V → St → Prop} {p r : Nat} {u : List Bool}
set_option maxRecDepth 10000
set_option maxHeartbeats 4000000
theorem RsOk.look {hp : PHeap} {D : Ch} {lv : Nat} (h : RsOk lv u (hp.regs.map PReg.m)) (hok : ∀ g ∈ hp.regs, g.ok) (hD : ∀ y ∈ hp.ch p, y ∈ D) : Look D p hp := by
  refine ⟨⟨hD⟩, fun e => h.inv.ne (by rw [e]; rfl), by have h1 := h.inv.len; have h2 := h.inv.lives; rw [List.length_map] at h1; omega, hok, fun g0 m0 y my => ?_⟩
  exact ((h.inv.reg g0.m (List.mem_map.2 ⟨g0, m0, rfl⟩)).ws y.b (List.mem_map.2 ⟨y, my, rfl⟩)).2.1
end
end Go.Proofs.Ytoldkemimhebaaa

set_option linter.unusedSimpArgs false
set_option linter.unusedVariables false
namespace Go.Proofs.Ytoldkemimhebaaa
open Go Go.IM
end Go.Proofs.Ytoldkemimhebaaa

set_option linter.unusedSimpArgs false
set_option linter.unusedVariables false
namespace Go.Proofs.Ytoldkemimhebaaa
open Go Go.IM
section
variable {o : Nat → Option O} {s : St} {C F : Ch} {Q : V → St → Prop} {p r : Nat} {u : List Bool}
set_option maxRecDepth 10000
set_option maxHeartbeats 400000
structure Heads (hp : PHeap) : Prop where
  at_ : ∀ g ∈ hp.regs, (g.objs.map (·.b.at_)).Nodup
  life : (hp.regs.map (·.life)).Nodup
  pos : ∀ g ∈ hp.regs, 1 ≤ g.life
  ws : ∀ g ∈ hp.regs, ∀ x ∈ g.objs, x.b.ws.length ≤ 31
  len : ∀ g ∈ hp.regs, g.objs.length ≤ 1000
  regs : hp.regs.length ≤ 151
end
end Go.Proofs.Ytoldkemimhebaaa

set_option linter.unusedSimpArgs false
set_option linter.unusedVariables false
namespace Go.Proofs.Ytoldkemimhebaaa
open Go Go.IM
section
set_option maxRecDepth 10000
theorem sane16_0 : (match (LC PF 100 noY).2 41 [] ⟨fun _ => none, 0, fun _ => none⟩ with | some (.bool b, _) => b | _ => false) = true := by kernel_rfl
theorem sane16 (s : St) : ∃ t, call PF 41 [] s = some (.bool true, t) ∧ (∀ j, j < s.next → t.new j = s.new j) ∧ t.old = s.old ∧ s.next ≤ t.next := closed_at 100 sane16_0 s
end
end Go.Proofs.Ytoldkemimhebaaa

set_option linter.unusedSimpArgs false
set_option linter.unusedVariables false
namespace Go.Proofs.Ytoldkemimhebaaa
open Go Go.IM
section
variable {o : Nat → Option O} {s : St} {C F : Ch} {Q : V → St → Prop} {p r q t : Nat} {u : List Bool} {G : PairG}
set_option maxRecDepth 10000
set_option maxHeartbeats 4000000
theorem H0c (hs : s.old = o) : Holds o s [] := ⟨hs, List.nodup_nil, (fun k x m => by cases m), (fun k m => by cases m)⟩
theorem im_trueC {f : Nat} {args : List V} (h : WP (call PF f args s) fun v' _ => v' = .bool true) : ∃ st, call PF f args s = some (.bool true, st) := by
  obtain ⟨v', st, e, rfl⟩ := h
  exact ⟨st, e⟩
theorem longB_lenC {l : List (ActG × List Bool)} (h : longB l = false) : l.length ≤ 150 := by
  unfold longB at h
  rw [Bool.or_eq_false_iff] at h
  have := h.2
  simp at this; exact this
theorem longR_false {l : List (ActG × List Bool)} {n m : Nat} (h : longR l n m = false) : longB l = false ∧ n ≤ 40 ∧ m ≤ 20 := by
  unfold longR at h
  simp only [Bool.or_eq_false_iff, decide_eq_false_iff_not] at h
  exact ⟨h.1.1, by omega, by omega⟩
theorem all_len : ∀ gs : List PReg, (∀ g ∈ gs, g.objs.length ≤ 32 * g.pages.length + 1) → (gs.flatMap fun g => g.objs.map fun x => ((x.b.at_ : Int), (g.life : Int))).length ≤ 32 * ((gs.map PReg.m).flatMap (·.pages)).length + gs.length
  | [], _ => by simp
  | g :: gs, h => by
    have h1 := all_len gs fun x hx => h x (List.mem_cons_of_mem _ hx)
    have h2 := h g (List.mem_cons_self ..)
    simp only [List.flatMap_cons, List.map_cons, List.length_append, List.length_map, List.length_cons] at h1 ⊢
    have : g.m.pages.length = g.pages.length := rfl
    omega
theorem PairOk.rs (h : PairOk u [] G) : RsOk G.hp.lives u (G.hp.regs.map PReg.m) := ⟨h.ulen, h.inv, by have := h.pool; rwa [List.append_nil] at this⟩
theorem RsOk.all {hp : PHeap} {lv : Nat} (h : RsOk lv u (hp.regs.map PReg.m)) (hl : lv ≤ 151) : (allW hp).length ≤ 90000 ∧ hp.regs.length ≤ 151 := by
  have h1 := all_len hp.regs fun g hg => by
    have := (h.inv.reg g.m (List.mem_map.2 ⟨g, hg, rfl⟩)).nobjs
    simpa [PReg.m] using this
  have h2 := h.pool.len
  have h3 := h.ulen
  have h4 := h.inv.len
  rw [List.length_map] at h4
  unfold allW
  exact ⟨by omega, by omega⟩
end
end Go.Proofs.Ytoldkemimhebaaa

set_option linter.unusedSimpArgs false
set_option linter.unusedVariables false
namespace Go.Proofs.Ytoldkemimhebaaa
open Go Go.IM
section
variable {o : Nat → Option O} {s : St} {C F : Ch} {Q : V → St → Prop} {p r q t : Nat} {u : List Bool} {G : PairG}
set_option maxRecDepth 10000
set_option maxHeartbeats 4000000
end
end Go.Proofs.Ytoldkemimhebaaa

set_option linter.unusedSimpArgs false
set_option linter.unusedVariables false
namespace Go.Proofs.Ytoldkemimhebaaa
open Go Go.IM
def c99 : IFn := ⟨120, [],
  (.seq (.region [oa 4 (.box (.t 1)), oa 5 (.box (.t 2))] (kp 120 [0,4,5]))
  (.seq (.region [oa 12 (.mov (.t 0)), oa 13 (.nilCheck (.t 12)), oa 14 (.fieldAddr 0 (.t 13)), oa 15 (.load none (.t 14)), oa 16 (.load (some 2) (.t 4)), oa 18 (.mov (.t 0)), oa 19 (.nilCheck (.t 18)), oa 20 (.fieldAddr 1 (.t 19)), oa 21 (.load none (.t 20)), oa 22 (.load (some 2) (.t 5)), oa 17 (.call 118 [(.t 15), (.t 16)]), ob (.again 21 (.load none (.t 20))), ob (.again 22 (.load (some 2) (.t 5))), oa 23 (.call 118 [(.t 21), (.t 22)]), oa 6 (.mov (.t 17)), oa 7 (.mov (.t 23))] (kp 120 [0,4,5,6,7]))
  (.seq (.block 0
  (.seq (.region [oa 25 (.fieldAddr 1 (.t 4)), oa 26 (.load none (.t 25)), oa 27 (.bin .eql (.t 26) (ai 0)), oa 28 (.mov (.t 27)), oc 29 (.fieldAddr 1 (.t 5)) 28 ff, oc 30 (.load none (.t 29)) 28 ff, oc 31 (.bin .eql (.t 30) (ai 0)) 28 ff, oa 32 (.pick (.t 28) (.c (.bool true)) (.t 31)), oa 24 (.mov (.t 32))] (kp 120 [0,4,5,6,7,24]))
  (.cond (.t 24)
  (.seq (.region [oa 33 (.mov (.t 0)), oa 34 (.mov (.t 0)), oa 35 (.nilCheck (.t 34)), oa 36 (.fieldAddr 5 (.t 35)), oa 37 (.load none (.t 36)), oa 38 (.mov (.t 37)), oc 39 (.load (some 2) (.t 4)) 38 ff, oc 40 (.load (some 2) (.t 5)) 38 ff, oc 41 (.eql true (.key (.agg [.i, .i])) (.t 39) (.t 40)) 38 ff, oa 42 (.pick (.t 38) (.c (.bool true)) (.t 41)), oa 43 (.nilCheck (.t 33)), oa 44 (.fieldAddr 5 (.t 43)), ob (.store 1 (.t 44) (.t 42))] (kp 120 []))
  (sr 120 []))
  (.seq (.region [oa 46 (.mov (.t 6)), oa 47 (.mov (.t 7)), oa 48 (.eql true (.key (.one .b)) (.t 46) (.t 47)), oa 45 (.mov (.t 48))] (kp 120 [0,4,5,6,45]))
  (.cond (.t 45)
  (.seq (.region [oa 49 (.mov (.t 0)), oa 50 (.nilCheck (.t 49)), oa 51 (.fieldAddr 5 (.t 50)), ob (.store 1 (.t 51) (.c (.bool true)))] (kp 120 []))
  (sr 120 []))
  (.seq (.region [oa 53 (.mov (.t 6)), oa 54 (.un .not (.t 53)), oa 52 (.mov (.t 54))] (kp 120 [0,4,5,52]))
  (.cond (.t 52)
  (sr 120 [])
  (sk 120 [0,4,5]))))))))
  (.seq (.region [oa 56 (.mov (.t 0)), oa 57 (.nilCheck (.t 56)), oa 58 (.fieldAddr 2 (.t 57)), oa 59 (.load none (.t 58)), oa 60 (.load (some 2) (.t 4)), oa 61 (.lookup (.agg [.i, .i]) (.agg [(.int .i64 (0)), (.int .i64 (0))]) true (.t 59) (.t 60)), oa 55 (.mov (.t 61)), oa 62 (.extract (.t 55) 0), oa 63 (.extract (.t 55) 1), oa 8 (.alloc [(.int .i64 (0)), (.int .i64 (0))]), ob (.store 2 (.t 8) (.t 62)), oa 9 (.mov (.t 63))] (kp 120 [0,4,5,8,9]))
  (.seq (.region [oa 65 (.mov (.t 0)), oa 66 (.nilCheck (.t 65)), oa 67 (.fieldAddr 3 (.t 66)), oa 68 (.load none (.t 67)), oa 69 (.load (some 2) (.t 5)), oa 70 (.lookup (.agg [.i, .i]) (.agg [(.int .i64 (0)), (.int .i64 (0))]) true (.t 68) (.t 69)), oa 64 (.mov (.t 70)), oa 71 (.extract (.t 64) 0), oa 72 (.extract (.t 64) 1), oa 10 (.alloc [(.int .i64 (0)), (.int .i64 (0))]), ob (.store 2 (.t 10) (.t 71)), oa 11 (.mov (.t 72))] (kp 120 [0,4,5,8,9,10,11]))
  (.seq (.seq (.region [oa 73 (.mov (.t 9)), oa 74 (.mov (.t 73)), oc 75 (.mov (.t 11)) 74 ff, oa 76 (.pick (.t 74) (.c (.bool true)) (.t 75))] (kp 120 [0,4,5,8,10,76]))
  (.cond (.t 76)
  (.seq (.region [oa 77 (.mov (.t 0)), oa 78 (.mov (.t 0)), oa 79 (.nilCheck (.t 78)), oa 80 (.fieldAddr 5 (.t 79)), oa 81 (.load none (.t 80)), oa 82 (.mov (.t 81)), oc 83 (.load (some 2) (.t 8)) 82 ff, oc 84 (.load (some 2) (.t 5)) 82 ff, oc 85 (.eql true (.key (.agg [.i, .i])) (.t 83) (.t 84)) 82 ff, oa 86 (.pick (.t 82) (.c (.bool true)) (.t 85)), oa 87 (.mov (.t 86)), oc 88 (.load (some 2) (.t 10)) 87 ff, oc 89 (.load (some 2) (.t 4)) 87 ff, oc 90 (.eql true (.key (.agg [.i, .i])) (.t 88) (.t 89)) 87 ff, oa 91 (.pick (.t 87) (.c (.bool true)) (.t 90)), oa 92 (.nilCheck (.t 77)), oa 93 (.fieldAddr 5 (.t 92)), ob (.store 1 (.t 93) (.t 91))] (kp 120 []))
  (sr 120 []))
  (sk 120 [0,4,5])))
  (.seq (.region [oa 94 (.mov (.t 0)), oa 95 (.nilCheck (.t 94)), oa 96 (.fieldAddr 2 (.t 95)), oa 97 (.load none (.t 96)), oa 98 (.load (some 2) (.t 4)), oa 99 (.mov (.t 0)), oa 100 (.nilCheck (.t 99)), oa 101 (.fieldAddr 3 (.t 100)), oa 102 (.load none (.t 101)), oa 103 (.load (some 2) (.t 5)), oa 104 (.load (some 2) (.t 5)), oa 105 (.load (some 2) (.t 4)), oa 106 (.mapEnt (.agg [.i, .i]) (.agg [(.int .i64 (0)), (.int .i64 (0))]) (.t 97) (.t 98)), ob (.again 103 (.load (some 2) (.t 5))), ob (.again 104 (.load (some 2) (.t 5))), ob (.again 105 (.load (some 2) (.t 4))), oa 107 (.extract (.t 106) 1), ob (.entSet (.t 97) (.t 107) (.t 104)), ob (.again 103 (.load (some 2) (.t 5))), ob (.again 105 (.load (some 2) (.t 4))), oa 108 (.mapEnt (.agg [.i, .i]) (.agg [(.int .i64 (0)), (.int .i64 (0))]) (.t 102) (.t 103)), ob (.again 105 (.load (some 2) (.t 4))), oa 109 (.extract (.t 108) 1), ob (.entSet (.t 102) (.t 109) (.t 105))] (kp 120 [0,4]))
  (.region [oa 110 (.mov (.t 0)), oa 111 (.mov (.t 0)), oa 112 (.nilCheck (.t 111)), oa 113 (.fieldAddr 4 (.t 112)), oa 114 (.load none (.t 113)), oa 115 (.load (some 2) (.t 4)), oa 116 (.buildSlice 1 [(.int .i64 (0)), (.int .i64 (0))] [(0, 2, (.t 115))]), oa 117 (.append 2 16 (.t 114) (.t 116)), oa 118 (.nilCheck (.t 110)), oa 119 (.fieldAddr 4 (.t 118)), ob (.store 1 (.t 119) (.t 117))] (kp 120 [])))))))))⟩
theorem F99 : shutF Try.prog 99 = some c99 := by kernel_rfl
def l100_0 : IC := (.seq (.seq (.region [oa 11 (.bin .lss (.t 10) (.t 9))] (kp 24 [0,1,9,10,11]))
  (.seq (.cond (.t 11)
  (sk 24 [0,1,9,10])
  (sx 24 [] 0))
  (.seq (.block 1
  (.seq (.region [oa 12 (.mov (.t 10)), oa 5 (.mov (.t 12))] (kp 24 [0,1,5,9,10]))
  (.seq (.region [oa 14 (.mov (.t 0)), oa 15 (.mov (.t 5)), oa 16 (.call 35 [(.t 14), (.t 15)]), oa 13 (.mov (.t 16)), oa 17 (.extract (.t 13) 0), oa 18 (.extract (.t 13) 1), oa 6 (.mov (.t 17)), oa 7 (.mov (.t 18))] (kp 24 [0,1,5,6,9,10]))
  (.seq (.region [oa 19 (.mov (.t 6)), oa 20 (.mov (.t 1)), oa 21 (.bin .eql (.t 19) (.t 20))] (kp 24 [0,1,5,9,10,21]))
  (.cond (.t 21)
  (.seq (.region [oa 22 (.mov (.t 5)), oa 4 (.mov (.t 22))] (kp 24 [4]))
  (sr 24 [4]))
  (sk 24 [0,1,9,10]))))))
  (.region [oa 23 (.bin .add (.t 10) (ai 1)), oa 10 (.mov (.t 23))] (kp 24 [0,1,9,10])))))
  (sk 24 [0,1,9,10]))
def c100 : IFn := ⟨24, [(4, none)],
  (.seq (.region [oa 4 (.mov (ai 0))] (kp 24 [0,1]))
  (.seq (.seq (.region [oa 8 (.mov (.t 0)), oa 9 (.call 27 [(.t 8)]), oa 10 (.mov (ai 0))] (kp 24 [0,1,9,10]))
  (.block 0
  (.seq (sk 24 [0,1,9,10])
  (.loop l100_0))))
  (.seq (.region [oa 4 (.mov (ai (-1)))] (kp 24 [4]))
  (sr 24 [4]))))⟩
theorem F100 : shutF Try.prog 100 = some c100 := by kernel_rfl
abbrev Wd := Int × Int
def lkA (P : List (Wd × Wd)) (v : Wd) : Option Wd := (P.find? fun e => decide (e.1 = v)).map (·.2)
def swapP (P : List (Wd × Wd)) : List (Wd × Wd) := P.map fun e => (e.2, e.1)
def pairP (h k : PHeap) (S : List (Wd × Wd) × Bool) (v w : Wd) : List (Wd × Wd) × Bool :=
  if v.2 = 0 ∨ w.2 = 0 then (S.1, S.2 || !decide (v = w))
  else if thereB h v ≠ thereB k w then (S.1, true)
  else if thereB h v = false then S
  else match lkA S.1 v, lkA (swapP S.1) w with
  | none, none => (S.1 ++ [(v, w)], S.2)
  | to, from_ => (S.1, S.2 || (!decide (to.getD (0, 0) = w) || !decide (from_.getD (0, 0) = v)))
section
variable {o : Nat → Option O} {s : St} {C F : Ch} {Q : V → St → Prop} {p q : Nat}
set_option maxRecDepth 10000
set_option maxHeartbeats 4000000
def pairC (c ta tb ka kb qk : Nat) (hi ki : Nat) (P : List (Wd × Wd)) (un : Bool) : Ch :=
  (c, some (.cells [ptrN ta, ptrN tb, .map (some (.new ka)), .map (some (.new kb)), rowV qk P.length, .bool un] none)) :: (ta, some (.cells [ptrN hi, .slice none 0 (some 0), .map none] none)) :: (tb, some (.cells [ptrN ki, .slice none 0 (some 0), .map none] none)) ::
  (ka, some (seqM encA (P.map fun e => (e.1, encA e.2)))) :: (kb, some (seqM encA (P.map fun e => (e.2, encA e.1)))) :: (qk, rowO 2 P.length ((P.map (·.1)).flatMap encW)) :: []
theorem getD_encA (x : Option Wd) : (x.map encA).getD (.agg [I 0, I 0]) = encA (x.getD (0, 0)) := by cases x <;> rfl
theorem seq_get (P : List (Wd × Wd)) (v : Wd) : ((P.map fun e => (e.1, encA e.2)).find? fun e => decide (e.1 = v)).map (·.2) = (lkA P v).map encA := by
  unfold lkA
  rw [List.find?_map, Option.map_map, Option.map_map]
  rfl
theorem seq_get2 (P : List (Wd × Wd)) (w : Wd) : ((P.map fun e => (e.2, encA e.1)).find? fun e => decide (e.1 = w)).map (·.2) = (lkA (swapP P) w).map encA := by
  unfold lkA swapP
  rw [List.find?_map, List.find?_map, Option.map_map, Option.map_map, Option.map_map]
  rfl
theorem s99 {h k : PHeap} {c ta tb ka kb qk : Nat} {P : List (Wd × Wd)} {un : Bool} {v w : Wd} (H : Holds o s (pairC c ta tb ka kb qk h.id k.id P un ++ C)) (lh : Look C p h) (lk : Look C q k) (hl : P.length ≤ 100000)
    (K : ∀ s' qk', Holds o s' (pairC c ta tb ka kb qk' h.id k.id (pairP h k (P, un) v w).1 (pairP h k (P, un) v w).2 ++ C) → Q (.tuple []) s') : WP (call PF 99 [ptrN c, .agg (encW v), .agg (encW w)] s) Q := by
  have h2 := (H.alloc (.cells (encW v) none)).alloc (.cells (encW w) none)
  simp only [alloc_next] at h2
  have mc : (c, some (O.cells [ptrN ta, ptrN tb, .map (some (.new ka)), .map (some (.new kb)), rowV qk P.length, .bool un] none)) ∈ pairC c ta tb ka kb qk h.id k.id P un ++ C := List.mem_append_left _ (List.mem_cons_self ..)
  have up : ∀ y ∈ C, y ∈ (s.next + 1, some (O.cells (encW w) none)) :: (s.next, some (O.cells (encW v) none)) :: (pairC c ta tb ka kb qk h.id k.id P un ++ C) := fun y hy => List.mem_cons_of_mem _ (List.mem_cons_of_mem _ (List.mem_append_right _ hy))
  have fc := H.mem mc
  rw [call_run F99]; simp -implicitDefEqProofs only [↓GP, GB, GL, Nat.reduceAdd, Nat.reduceSub, Nat.reduceEqDiff, Nat.reduceMul, Nat.reduceLeDiff, Int.reduceBNe, Int.reduceBEq, Nat.reduceLT, reduceCtorEq, c99, encW, fc]
  refine wp_in (s118 (w := v) h2 (lh.mono up) (List.mem_cons_of_mem _ (List.mem_cons_of_mem _ (List.mem_append_left _ (List.mem_cons_of_mem _ (List.mem_cons_self ..))))) fun s1 h3 => ?_)
  have fc3 := h3.mem (List.mem_cons_of_mem _ (List.mem_cons_of_mem _ mc))
  have f3 := h3.f2
  simp only [encW] at f3
  simp -implicitDefEqProofs only [↓GP, GB, GL, Nat.reduceAdd, Nat.reduceSub, Nat.reduceEqDiff, Nat.reduceMul, Nat.reduceLeDiff, Int.reduceBNe, Int.reduceBEq, Nat.reduceLT, reduceCtorEq, fc3, f3, encW]
  refine wp_in (s118 (w := w) h3 (lk.mono up) (List.mem_cons_of_mem _ (List.mem_cons_of_mem _ (List.mem_append_left _ (List.mem_cons_of_mem _ (List.mem_cons_of_mem _ (List.mem_cons_self ..)))))) fun s2 h4 => ?_)
  have h5 : Holds o s2 ((c, some (O.cells [ptrN ta, ptrN tb, .map (some (.new ka)), .map (some (.new kb)), rowV qk P.length, .bool un] none)) :: (s.next, some (.cells [I v.1, I v.2] none)) :: (s.next + 1, some (.cells [I w.1, I w.2] none)) :: (ta, some (.cells [ptrN h.id, .slice none 0 (some 0), .map none] none)) :: (tb, some (.cells [ptrN k.id, .slice none 0 (some 0), .map none] none)) ::
    (ka, some (seqM encA (P.map fun e => (e.1, encA e.2)))) :: (kb, some (seqM encA (P.map fun e => (e.2, encA e.1)))) :: (qk, rowO 2 P.length ((P.map (·.1)).flatMap encW)) :: C) := (Holds.of (h4) (fun k => by simp +arith only [pairC, encW, HA, HB]) (fun k x => by simp only [pairC, encW, HA, HC]; grind only))
  have f5 := h5.f3
  have fin : ∀ b : Bool, Holds o (s2.set c (.cells [ptrN ta, ptrN tb, .map (some (.new ka)), .map (some (.new kb)), rowV qk P.length, .bool b] none)) (pairC c ta tb ka kb qk h.id k.id P b ++ C) := fun b => by
    have := h5.set0 (.cells [ptrN ta, ptrN tb, .map (some (.new ka)), .map (some (.new kb)), rowV qk P.length, .bool b] none)
    exact (Holds.of (this) (fun k => by simp +arith only [pairC, HA, HB]) (fun k x => by simp only [pairC, HA, HC]; grind only))
  have hvw := word_eq v w
  unfold pairP at K
  by_cases hz : v.2 = 0 ∨ w.2 = 0
  · rw [if_pos hz] at K
    have hz2 : (v.2 == 0) = true ∨ ((v.2 == 0) = false ∧ (w.2 == 0) = true) := by
      by_cases hv : v.2 = 0
      · exact .inl (by simpa using hv)
      · exact .inr ⟨by simpa using hv, by simpa using hz.resolve_left hv⟩
    cases un with
    | true =>
      simp only [Bool.true_or] at K
      rcases hz2 with e | ⟨e, e'⟩
      · simp -implicitDefEqProofs only [↓GP, GB, GL, Nat.reduceAdd, Nat.reduceSub, Nat.reduceEqDiff, Nat.reduceMul, Nat.reduceLeDiff, Int.reduceBNe, Int.reduceBEq, Nat.reduceLT, reduceCtorEq, f5, e]; exact K _ qk (fin true)
      · simp -implicitDefEqProofs only [↓GP, GB, GL, Nat.reduceAdd, Nat.reduceSub, Nat.reduceEqDiff, Nat.reduceMul, Nat.reduceLeDiff, Int.reduceBNe, Int.reduceBEq, Nat.reduceLT, reduceCtorEq, f5, e, e']; exact K _ qk (fin true)
    | false =>
      simp only [Bool.false_or] at K
      rcases hz2 with e | ⟨e, e'⟩
      · simp -implicitDefEqProofs only [↓GP, GB, GL, Nat.reduceAdd, Nat.reduceSub, Nat.reduceEqDiff, Nat.reduceMul, Nat.reduceLeDiff, Int.reduceBNe, Int.reduceBEq, Nat.reduceLT, reduceCtorEq, f5, e, hvw]; exact K _ qk (fin _)
      · simp -implicitDefEqProofs only [↓GP, GB, GL, Nat.reduceAdd, Nat.reduceSub, Nat.reduceEqDiff, Nat.reduceMul, Nat.reduceLeDiff, Int.reduceBNe, Int.reduceBEq, Nat.reduceLT, reduceCtorEq, f5, e, e', hvw]; exact K _ qk (fin _)
  · rw [if_neg hz] at K
    have e : (v.2 == 0) = false := by simpa using fun x => hz (.inl x)
    have e' : (w.2 == 0) = false := by simpa using fun x => hz (.inr x)
    by_cases hxy : thereB h v = thereB k w
    · rw [if_neg (fun hn => hn hxy)] at K
      have hb : eqI (.key (.one .b)) (.bool (thereB h v)) (.bool (thereB k w)) = some true := by
        rw [hxy]; cases thereB k w <;> simp [eqI, keyEq, cellEq]
      cases hx : thereB h v with
      | false =>
        rw [hx] at hb
        rw [if_pos hx] at K
        simp -implicitDefEqProofs only [↓GP, GB, GL, Nat.reduceAdd, Nat.reduceSub, Nat.reduceEqDiff, Nat.reduceMul, Nat.reduceLeDiff, Int.reduceBNe, Int.reduceBEq, Nat.reduceLT, reduceCtorEq, f5, e, e', hb]
        exact K _ qk (Holds.of (h5) (fun k => by simp +arith only [pairC, HA, HB]) (fun k x => by simp only [pairC, HA, HC]; grind only))
      | true =>
        rw [hx] at hb
        rw [if_neg (by rw [hx]; simp)] at K
        have ma : (ka, some (seqM encA (P.map fun e => (e.1, encA e.2)))) ∈ (s.next, some (O.cells [I v.1, I v.2] none)) :: (s.next + 1, some (.cells [I w.1, I w.2] none)) :: (ta, some (.cells [ptrN h.id, .slice none 0 (some 0), .map none] none)) :: (tb, some (.cells [ptrN k.id, .slice none 0 (some 0), .map none] none)) ::
          (ka, some (seqM encA (P.map fun e => (e.1, encA e.2)))) :: (kb, some (seqM encA (P.map fun e => (e.2, encA e.1)))) :: (qk, rowO 2 P.length ((P.map (·.1)).flatMap encW)) :: C := by simp
        have mb : (kb, some (seqM encA (P.map fun e => (e.2, encA e.1)))) ∈ (s.next, some (O.cells [I v.1, I v.2] none)) :: (s.next + 1, some (.cells [I w.1, I w.2] none)) :: (ta, some (.cells [ptrN h.id, .slice none 0 (some 0), .map none] none)) :: (tb, some (.cells [ptrN k.id, .slice none 0 (some 0), .map none] none)) ::
          (ka, some (seqM encA (P.map fun e => (e.1, encA e.2)))) :: (kb, some (seqM encA (P.map fun e => (e.2, encA e.1)))) :: (qk, rowO 2 P.length ((P.map (·.1)).flatMap encW)) :: C := by simp
        have el1 := lookup_map keyA (seq_is (P.map fun e => (e.1, encA e.2))) (h5.mem (List.mem_cons_of_mem _ ma)).1 (.agg [I 0, I 0]) true v
        simp only [seq_get, getD_encA, Option.isSome_map, if_true] at el1
        simp only [encA, encW] at el1
        have h6 := (h5.alloc (.cells [I 0, I 0] none)).set0 (.cells [I ((lkA P v).getD (0, 0)).1, I ((lkA P v).getD (0, 0)).2] none)
        have el2 := lookup_map keyA (seq_is (P.map fun e => (e.2, encA e.1))) (h6.mem (List.mem_cons_of_mem _ (List.mem_cons_of_mem _ mb))).1 (.agg [I 0, I 0]) true w
        simp only [seq_get2, getD_encA, Option.isSome_map, if_true] at el2
        simp only [encA, encW] at el2
        have hto := word_eq ((lkA P v).getD (0, 0)) w
        have hfr := word_eq ((lkA (swapP P) w).getD (0, 0)) v
        have h7 := (h6.alloc (.cells [I 0, I 0] none)).set0 (.cells [I ((lkA (swapP P) w).getD (0, 0)).1, I ((lkA (swapP P) w).getD (0, 0)).2] none)
        have f7 := h7.mem (List.mem_cons_of_mem _ (List.mem_cons_of_mem _ (List.mem_cons_self ..)))
        by_cases hnn : lkA P v = none ∧ lkA (swapP P) w = none
        · obtain ⟨hn1, hn2⟩ := hnn
          simp only [hn1, hn2] at K
          simp only [hn1, Option.isSome_none, Option.getD_none] at el1 h6 h7
          simp only [hn1, hn2, Option.isSome_none, Option.getD_none] at el2 h7
          have hka : ∀ x ∈ P.map (fun e => (e.1, encA e.2)), x.1 ≠ v := fun x hx ex => by
            obtain ⟨y, hy, rfl⟩ := List.mem_map.1 hx
            unfold lkA at hn1
            rw [Option.map_eq_none_iff, List.find?_eq_none] at hn1
            exact hn1 y hy (by simpa using ex)
          have hkb : ∀ x ∈ P.map (fun e => (e.2, encA e.1)), x.1 ≠ w := fun x hx ex => by
            obtain ⟨y, hy, rfl⟩ := List.mem_map.1 hx
            unfold lkA swapP at hn2
            rw [Option.map_eq_none_iff, List.find?_eq_none] at hn2
            exact hn2 (y.2, y.1) (List.mem_map.2 ⟨y, hy, rfl⟩) (by simpa using ex)
          have me1 : ∀ S : St, S.new ka = some (seqM encA (P.map fun e => (e.1, encA e.2))) → mapEntI (.agg [.i, .i]) (.agg [I 0, I 0]) (.map (some (.new ka))) (.agg [I v.1, I v.2]) S = some (.tuple [.agg [I 0, I 0], I P.length], S.set ka (seqM encA ((P.map fun e => (e.1, encA e.2)) ++ [(v, .agg [I 0, I 0])]))) := fun S hS => by
            have := mapEnt_new keyA hS hka (.agg [I 0, I 0]); simpa [encA, encW] using this
          have me2 : ∀ S : St, S.new kb = some (seqM encA (P.map fun e => (e.2, encA e.1))) → mapEntI (.agg [.i, .i]) (.agg [I 0, I 0]) (.map (some (.new kb))) (.agg [I w.1, I w.2]) S = some (.tuple [.agg [I 0, I 0], I P.length], S.set kb (seqM encA ((P.map fun e => (e.2, encA e.1)) ++ [(w, .agg [I 0, I 0])]))) := fun S hS => by
            have := mapEnt_new keyA hS hkb (.agg [I 0, I 0]); simpa [encA, encW] using this
          have es1 : ∀ S : St, S.new ka = some (seqM encA ((P.map fun e => (e.1, encA e.2)) ++ [(v, .agg [I 0, I 0])])) → entSetI (.map (some (.new ka))) (I P.length) (.agg [I w.1, I w.2]) S = some (S.set ka (seqM encA ((P.map fun e => (e.1, encA e.2)) ++ [(v, encA w)]))) := fun S hS => by
            have := entSet_new hS (encA w); simpa [encA, encW] using this
          have es2 : ∀ S : St, S.new kb = some (seqM encA ((P.map fun e => (e.2, encA e.1)) ++ [(w, .agg [I 0, I 0])])) → entSetI (.map (some (.new kb))) (I P.length) (.agg [I v.1, I v.2]) S = some (S.set kb (seqM encA ((P.map fun e => (e.2, encA e.1)) ++ [(w, encA v)]))) := fun S hS => by
            have := entSet_new hS (encA v); simpa [encA, encW] using this
          have fka := h5.mem (List.mem_cons_of_mem _ ma)
          have fkb := h5.mem (List.mem_cons_of_mem _ mb)
          have nka := h5.tl.tl.tl.tl.tl.f2
          have nck := h5.ne (Holds.ids_mem.2 ⟨_, ma⟩)
          have nckb := h5.ne (Holds.ids_mem.2 ⟨_, mb⟩)
          have n1 := h5.tl.ne (b := ka) (Holds.ids_mem.2 ⟨seqM encA (P.map fun e => (e.1, encA e.2)), by simp⟩)
          have n2 := h5.tl.ne (b := kb) (Holds.ids_mem.2 ⟨seqM encA (P.map fun e => (e.2, encA e.1)), by simp⟩)
          have n3 := h5.tl.tl.ne (b := ka) (Holds.ids_mem.2 ⟨seqM encA (P.map fun e => (e.1, encA e.2)), by simp⟩)
          have n4 := h5.tl.tl.ne (b := kb) (Holds.ids_mem.2 ⟨seqM encA (P.map fun e => (e.2, encA e.1)), by simp⟩)
          simp -implicitDefEqProofs only [↓GP, GB, GL, Nat.reduceAdd, Nat.reduceSub, Nat.reduceEqDiff, Nat.reduceMul, Nat.reduceLeDiff, Int.reduceBNe, Int.reduceBEq, Nat.reduceLT, reduceCtorEq, f5, e, e', hb, el1, el2, me1, me2, es1, es2, fka, fkb, nka, nck, nckb, n1, n2, n3, n4]
          have h8 := (show Holds o _ ((ka, some (seqM encA (P.map fun e => (e.1, encA e.2)))) :: (kb, some (seqM encA (P.map fun e => (e.2, encA e.1)))) :: (c, some (O.cells [ptrN ta, ptrN tb, .map (some (.new ka)), .map (some (.new kb)), rowV qk P.length, .bool un] none)) :: (ta, some (.cells [ptrN h.id, .slice none 0 (some 0), .map none] none)) :: (tb, some (.cells [ptrN k.id, .slice none 0 (some 0), .map none] none)) :: (qk, rowO 2 P.length ((P.map (·.1)).flatMap encW)) :: C) from (Holds.of (h7) (fun k => by simp +arith only [HA, HB]) (fun k x => by simp only [HA, HC]; grind only)))
          have h9 := ((((h8.set0 (seqM encA ((P.map fun e => (e.1, encA e.2)) ++ [(v, .agg [I 0, I 0])]))).set0 (seqM encA ((P.map fun e => (e.1, encA e.2)) ++ [(v, encA w)]))).set1 (seqM encA ((P.map fun e => (e.2, encA e.1)) ++ [(w, .agg [I 0, I 0])]))).set1 (seqM encA ((P.map fun e => (e.2, encA e.1)) ++ [(w, encA v)]))).alloc (.cells [I v.1, I v.2] none)
          have hml : ((P.map (·.1)).flatMap encW).length = P.length * 2 := by rw [tab_len encW_len, List.length_map]
          refine wp_append (k := qk) (n := P.length) (sz := 2) (bytes := 16) (m := 1) (cs := (P.map (·.1)).flatMap encW) (F := (s2.next + 2, some (.cells [I v.1, I v.2] none)) :: (ka, some (seqM encA ((P.map fun e => (e.1, encA e.2)) ++ [(v, encA w)]))) :: (kb, some (seqM encA ((P.map fun e => (e.2, encA e.1)) ++ [(w, encA v)]))) :: (c, some (O.cells [ptrN ta, ptrN tb, .map (some (.new ka)), .map (some (.new kb)), rowV qk P.length, .bool un] none)) :: (ta, some (.cells [ptrN h.id, .slice none 0 (some 0), .map none] none)) :: (tb, some (.cells [ptrN k.id, .slice none 0 (some 0), .map none] none)) :: C) (Holds.of (h9) (fun k => by simp +arith only [HA, HB]) (fun k x => by simp only [HA, HC]; grind only)) hml (new_cells' (alloc_new_same _ _) rfl) rfl rfl (by omega) (by unfold maxRow; omega) (by unfold maxRow; omega) fun qk' s3 h10 => ?_
          have f10 := h10.tl.tl.tl.tl.f1
          simp -implicitDefEqProofs only [↓GP, GB, GL, Nat.reduceAdd, Nat.reduceSub, Nat.reduceEqDiff, Nat.reduceMul, Nat.reduceLeDiff, Int.reduceBNe, Int.reduceBEq, Nat.reduceLT, reduceCtorEq, f10]
          have h11 := (show Holds o s3 ((c, some (O.cells [ptrN ta, ptrN tb, .map (some (.new ka)), .map (some (.new kb)), rowV qk P.length, .bool un] none)) :: (ka, some (seqM encA ((P.map fun e => (e.1, encA e.2)) ++ [(v, encA w)]))) :: (kb, some (seqM encA ((P.map fun e => (e.2, encA e.1)) ++ [(w, encA v)]))) :: (qk', rowO 2 (P.length + 1) ((P.map (·.1)).flatMap encW ++ [I v.1, I v.2])) :: (ta, some (.cells [ptrN h.id, .slice none 0 (some 0), .map none] none)) :: (tb, some (.cells [ptrN k.id, .slice none 0 (some 0), .map none] none)) :: C) from (Holds.of (h10) (fun k => by simp +arith only [HA, HB]) (fun k x => by simp only [HA, HC]; grind only))).set0 (.cells [ptrN ta, ptrN tb, .map (some (.new ka)), .map (some (.new kb)), rowV qk' (P.length + 1), .bool un] none)
          refine K _ qk' ?_
          exact (Holds.of (h11) (fun k => by simp +arith only [pairC, List.map_append, List.map_cons, List.map_nil, List.length_append, List.length_cons, List.length_nil, Nat.zero_add, List.flatMap_append, List.flatMap_cons, List.flatMap_nil, List.append_nil, encW, HA, HB]) (fun k x => by simp only [pairC, List.map_append, List.map_cons, List.map_nil, List.length_append, List.length_cons, List.length_nil, Nat.zero_add, List.flatMap_append, List.flatMap_cons, List.flatMap_nil, List.append_nil, encW, HA, HC]; grind only))
        · have hK : (match lkA P v, lkA (swapP P) w with
            | none, none => (P ++ [(v, w)], un)
            | to, from_ => (P, un || (!decide (to.getD (0, 0) = w) || !decide (from_.getD (0, 0) = v)))) = (P, un || (!decide ((lkA P v).getD (0, 0) = w) || !decide ((lkA (swapP P) w).getD (0, 0) = v))) := by
            cases h1 : lkA P v with
            | some _ => rfl
            | none => cases h2 : lkA (swapP P) w with
              | some _ => rfl
              | none => exact absurd ⟨h1, h2⟩ hnn
          simp only [hK] at K
          have hx1 : (lkA P v).isSome = true ∨ ((lkA P v).isSome = false ∧ (lkA (swapP P) w).isSome = true) := by
            cases h1 : lkA P v with
            | some _ => exact .inl rfl
            | none => cases h2 : lkA (swapP P) w with
              | some _ => exact .inr ⟨rfl, rfl⟩
              | none => exact absurd ⟨h1, h2⟩ hnn
          generalize (lkA P v).getD (0, 0) = to at *
          generalize (lkA (swapP P) w).getD (0, 0) = fm at *
          have h8 := (show Holds o _ ((c, some (O.cells [ptrN ta, ptrN tb, .map (some (.new ka)), .map (some (.new kb)), rowV qk P.length, .bool un] none)) :: (ka, some (seqM encA (P.map fun e => (e.1, encA e.2)))) :: (kb, some (seqM encA (P.map fun e => (e.2, encA e.1)))) :: (ta, some (.cells [ptrN h.id, .slice none 0 (some 0), .map none] none)) :: (tb, some (.cells [ptrN k.id, .slice none 0 (some 0), .map none] none)) :: (qk, rowO 2 P.length ((P.map (·.1)).flatMap encW)) :: C) from (Holds.of (h7) (fun k => by simp +arith only [HA, HB]) (fun k x => by simp only [HA, HC]; grind only)))
          have fin2 := fun b : Bool => h8.set0 (.cells [ptrN ta, ptrN tb, .map (some (.new ka)), .map (some (.new kb)), rowV qk P.length, .bool b] none)
          have fin3 : ∀ {S : St} (b : Bool), Holds o S ((c, some (O.cells [ptrN ta, ptrN tb, .map (some (.new ka)), .map (some (.new kb)), rowV qk P.length, .bool b] none)) :: (ka, some (seqM encA (P.map fun e => (e.1, encA e.2)))) :: (kb, some (seqM encA (P.map fun e => (e.2, encA e.1)))) :: (ta, some (.cells [ptrN h.id, .slice none 0 (some 0), .map none] none)) :: (tb, some (.cells [ptrN k.id, .slice none 0 (some 0), .map none] none)) :: (qk, rowO 2 P.length ((P.map (·.1)).flatMap encW)) :: C) → Holds o S (pairC c ta tb ka kb qk h.id k.id P b ++ C) := fun b h => (Holds.of (h) (fun k => by simp +arith only [pairC, HA, HB]) (fun k x => by simp only [pairC, HA, HC]; grind only))
          cases un with
          | true =>
            simp only [Bool.true_or] at K
            rcases hx1 with e1 | ⟨e1, e2⟩
            · rw [e1] at el1
              simp -implicitDefEqProofs only [↓GP, GB, GL, Nat.reduceAdd, Nat.reduceSub, Nat.reduceEqDiff, Nat.reduceMul, Nat.reduceLeDiff, Int.reduceBNe, Int.reduceBEq, Nat.reduceLT, reduceCtorEq, f5, e, e', hb, el1, el2]
              exact K _ qk (fin3 true (fin2 true))
            · rw [e1] at el1; rw [e2] at el2
              simp -implicitDefEqProofs only [↓GP, GB, GL, Nat.reduceAdd, Nat.reduceSub, Nat.reduceEqDiff, Nat.reduceMul, Nat.reduceLeDiff, Int.reduceBNe, Int.reduceBEq, Nat.reduceLT, reduceCtorEq, f5, e, e', hb, el1, el2]
              exact K _ qk (fin3 true (fin2 true))
          | false =>
            simp only [Bool.false_or] at K
            cases hd : decide (to = w) with
            | false =>
              rw [hd] at hto K
              rcases hx1 with e1 | ⟨e1, e2⟩
              · rw [e1] at el1
                simp -implicitDefEqProofs only [↓GP, GB, GL, Nat.reduceAdd, Nat.reduceSub, Nat.reduceEqDiff, Nat.reduceMul, Nat.reduceLeDiff, Int.reduceBNe, Int.reduceBEq, Nat.reduceLT, reduceCtorEq, f5, e, e', hb, el1, el2, hto, Bool.not_false]
                exact K _ qk (fin3 true (fin2 true))
              · rw [e1] at el1; rw [e2] at el2
                simp -implicitDefEqProofs only [↓GP, GB, GL, Nat.reduceAdd, Nat.reduceSub, Nat.reduceEqDiff, Nat.reduceMul, Nat.reduceLeDiff, Int.reduceBNe, Int.reduceBEq, Nat.reduceLT, reduceCtorEq, f5, e, e', hb, el1, el2, hto, Bool.not_false]
                exact K _ qk (fin3 true (fin2 true))
            | true =>
              rw [hd] at hto K
              rcases hx1 with e1 | ⟨e1, e2⟩
              · rw [e1] at el1
                simp -implicitDefEqProofs only [↓GP, GB, GL, Nat.reduceAdd, Nat.reduceSub, Nat.reduceEqDiff, Nat.reduceMul, Nat.reduceLeDiff, Int.reduceBNe, Int.reduceBEq, Nat.reduceLT, reduceCtorEq, f5, e, e', hb, el1, el2, hto, hfr, Bool.not_true]
                exact K _ qk (fin3 _ (fin2 _))
              · rw [e1] at el1; rw [e2] at el2
                simp -implicitDefEqProofs only [↓GP, GB, GL, Nat.reduceAdd, Nat.reduceSub, Nat.reduceEqDiff, Nat.reduceMul, Nat.reduceLeDiff, Int.reduceBNe, Int.reduceBEq, Nat.reduceLT, reduceCtorEq, f5, e, e', hb, el1, el2, hto, hfr, Bool.not_true]
                exact K _ qk (fin3 _ (fin2 _))
    · rw [if_pos hxy] at K
      have hb : eqI (.key (.one .b)) (.bool (thereB h v)) (.bool (thereB k w)) = some false := by
        cases h1 : thereB h v <;> cases h2 : thereB k w <;> simp_all [eqI, keyEq, cellEq]
      simp -implicitDefEqProofs only [↓GP, GB, GL, Nat.reduceAdd, Nat.reduceSub, Nat.reduceEqDiff, Nat.reduceMul, Nat.reduceLeDiff, Int.reduceBNe, Int.reduceBEq, Nat.reduceLT, reduceCtorEq, f5, e, e', hb]
      exact K _ qk (fin true)
end
end Go.Proofs.Ytoldkemimhebaaa

set_option linter.unusedSimpArgs false
set_option linter.unusedVariables false
namespace Go.Proofs.Ytoldkemimhebaaa
open Go Go.IM
def l50_0 : IC := (.seq (.seq (.region [oa 50 (.bin .lss (.t 49) (.t 48))] (kp 153 [0,1,2,3,10,48,49,50]))
  (.seq (.cond (.t 50)
  (sk 153 [0,1,2,3,10,48,49])
  (sx 153 [0,2,10] 0))
  (.seq (.block 1
  (.seq (.region [oa 51 (.mov (.t 49)), oa 11 (.mov (.t 51))] (kp 153 [0,1,2,3,10,11,48,49]))
  (.region [oa 52 (.mov (.t 10)), oa 53 (.mov (.t 1)), oa 54 (.mov (.t 11)), oa 55 (.indexAddr 2 (.t 53) (.t 54)), oa 56 (.load (some 2) (.t 55)), oa 57 (.mov (.t 3)), oa 58 (.mov (.t 11)), oa 59 (.indexAddr 2 (.t 57) (.t 58)), oa 60 (.load (some 2) (.t 59)), oa 61 (.call 99 [(.t 52), (.t 56), (.t 60)])] (kp 153 [0,1,2,3,10,48,49]))))
  (.region [oa 62 (.bin .add (.t 49) (ai 1)), oa 49 (.mov (.t 62))] (kp 153 [0,1,2,3,10,48,49])))))
  (sk 153 [0,1,2,3,10,48,49]))
def l50_1 : IC := (.seq (.seq (.region [oa 127 (.bin .lss (.t 126) (.t 125))] (kp 153 [0,2,10,12,13,14,125,126,127]))
  (.seq (.cond (.t 127)
  (sk 153 [0,2,10,12,13,14,125,126])
  (sx 153 [0,2,10,12] 4))
  (.seq (.block 5
  (.seq (.region [oa 128 (.mov (.t 126)), oa 21 (.mov (.t 128))] (kp 153 [0,2,10,12,13,14,21,125,126]))
  (.seq (.region [oa 130 (.mov (.t 0)), oa 131 (.load (some 2) (.t 13)), oa 132 (.mov (.t 21)), oa 133 (.call 67 [(.t 130), (.t 131), (.t 132)]), oa 129 (.mov (.t 133)), oa 134 (.extract (.t 129) 0), oa 135 (.extract (.t 129) 1), oa 22 (.alloc [(.int .i64 (0)), (.int .i64 (0))]), ob (.store 2 (.t 22) (.t 134)), oa 23 (.mov (.t 135))] (kp 153 [0,2,10,12,13,14,21,22,125,126]))
  (.seq (.region [oa 137 (.mov (.t 2)), oa 138 (.load (some 2) (.t 14)), oa 139 (.mov (.t 21)), oa 140 (.call 67 [(.t 137), (.t 138), (.t 139)]), oa 136 (.mov (.t 140)), oa 141 (.extract (.t 136) 0), oa 142 (.extract (.t 136) 1), oa 24 (.alloc [(.int .i64 (0)), (.int .i64 (0))]), ob (.store 2 (.t 24) (.t 141)), oa 25 (.mov (.t 142))] (kp 153 [0,2,10,12,13,14,22,24,125,126]))
  (.region [oa 143 (.mov (.t 10)), oa 144 (.load (some 2) (.t 22)), oa 145 (.load (some 2) (.t 24)), oa 146 (.call 99 [(.t 143), (.t 144), (.t 145)])] (kp 153 [0,2,10,12,13,14,125,126]))))))
  (.region [oa 147 (.bin .add (.t 126) (ai 1)), oa 126 (.mov (.t 147))] (kp 153 [0,2,10,12,13,14,125,126])))))
  (sk 153 [0,2,10,12,13,14,125,126]))
def l50_2 : IC := (.seq (.seq (.seq (.region [oa 63 (.mov (.t 12)), oa 64 (.mov (.t 10)), oa 65 (.nilCheck (.t 64)), oa 66 (.fieldAddr 4 (.t 65)), oa 67 (.load none (.t 66)), oa 68 (.lenSlice (.t 67)), oa 69 (.bin .lss (.t 63) (.t 68)), oa 70 (.mov (.t 69)), oc 71 (.mov (.t 10)) 70 tt, oc 72 (.nilCheck (.t 71)) 70 tt, oc 73 (.fieldAddr 5 (.t 72)) 70 tt, oc 74 (.load none (.t 73)) 70 tt, oc 75 (.un .not (.t 74)) 70 tt, oa 76 (.pick (.t 70) (.t 75) (.c (.bool false)))] (kp 153 [0,2,10,12,76]))
  (.cond (.t 76)
  (sk 153 [0,2,10,12])
  (sx 153 [10] 2)))
  (.seq (.block 3
  (.seq (.region [oa 79 (.mov (.t 10)), oa 80 (.nilCheck (.t 79)), oa 81 (.fieldAddr 4 (.t 80)), oa 82 (.load none (.t 81)), oa 83 (.mov (.t 12)), oa 84 (.indexAddr 2 (.t 82) (.t 83)), oa 85 (.load (some 2) (.t 84)), oa 13 (.alloc [(.int .i64 (0)), (.int .i64 (0))]), ob (.store 2 (.t 13) (.t 85))] (kp 153 [0,2,10,12,13]))
  (.seq (.region [oa 86 (.mov (.t 10)), oa 87 (.nilCheck (.t 86)), oa 88 (.fieldAddr 2 (.t 87)), oa 89 (.load none (.t 88)), oa 90 (.load (some 2) (.t 13)), oa 91 (.lookup (.agg [.i, .i]) (.agg [(.int .i64 (0)), (.int .i64 (0))]) false (.t 89) (.t 90)), oa 14 (.alloc [(.int .i64 (0)), (.int .i64 (0))]), ob (.store 2 (.t 14) (.t 91))] (kp 153 [0,2,10,12,13,14]))
  (.seq (.region [oa 93 (.mov (.t 0)), oa 94 (.load (some 2) (.t 13)), oa 95 (.call 30 [(.t 93), (.t 94)]), oa 92 (.mov (.t 95)), oa 96 (.extract (.t 92) 0), oa 97 (.extract (.t 92) 1), oa 98 (.extract (.t 92) 2), oa 15 (.mov (.t 96)), oa 16 (.mov (.t 97)), oa 17 (.mov (.t 98))] (kp 153 [0,2,10,12,13,14,15,16]))
  (.seq (.region [oa 100 (.mov (.t 2)), oa 101 (.load (some 2) (.t 14)), oa 102 (.call 30 [(.t 100), (.t 101)]), oa 99 (.mov (.t 102)), oa 103 (.extract (.t 99) 0), oa 104 (.extract (.t 99) 1), oa 105 (.extract (.t 99) 2), oa 18 (.mov (.t 103)), oa 19 (.mov (.t 104)), oa 20 (.mov (.t 105))] (kp 153 [0,2,10,12,13,14,15,16,18,19]))
  (.seq (.seq (.region [oa 106 (.mov (.t 15)), oa 107 (.mov (.t 18)), oa 108 (.bin .neq (.t 106) (.t 107)), oa 109 (.mov (.t 108)), oc 110 (.mov (.t 16)) 109 ff, oc 111 (.mov (.t 19)) 109 ff, oc 112 (.bin .neq (.t 110) (.t 111)) 109 ff, oa 113 (.pick (.t 109) (.c (.bool true)) (.t 112)), oa 114 (.mov (.t 113)), oc 115 (.mov (.t 0)) 114 ff, oc 116 (.fieldAddr 1 (.t 13)) 114 ff, oc 117 (.load none (.t 116)) 114 ff, oc 119 (.mov (.t 2)) 114 ff, oc 120 (.fieldAddr 1 (.t 14)) 114 ff, oc 121 (.load none (.t 120)) 114 ff, oc 118 (.call 100 [(.t 115), (.t 117)]) 114 ff, oe (.again 121 (.load none (.t 120))) 114 ff, oc 122 (.call 100 [(.t 119), (.t 121)]) 114 ff, oc 123 (.bin .neq (.t 118) (.t 122)) 114 ff, oa 124 (.pick (.t 114) (.c (.bool true)) (.t 123))] (kp 153 [0,2,10,12,13,14,16,124]))
  (.cond (.t 124)
  (.seq (.region [oa 8 (.mov (.c (.bool false))), oa 9 (.mov (ai 0))] (kp 153 [8,9]))
  (sr 153 [8,9]))
  (sk 153 [0,2,10,12,13,14,16])))
  (.seq (.region [oa 125 (.mov (.t 16)), oa 126 (.mov (ai 0))] (kp 153 [0,2,10,12,13,14,125,126]))
  (.block 4
  (.seq (sk 153 [0,2,10,12,13,14,125,126])
  (.loop l50_1))))))))))
  (.region [oa 77 (.mov (.t 12)), oa 78 (.bin .add (.t 77) (ai 1)), oa 12 (.mov (.t 78))] (kp 153 [0,2,10,12]))))
  (sk 153 [0,2,10,12]))
def j50_bbbbbb : IC := (.seq (.region [oa 148 (.mov (.t 10)), oa 149 (.nilCheck (.t 148)), oa 150 (.fieldAddr 5 (.t 149)), oa 151 (.load none (.t 150)), oa 152 (.un .not (.t 151)), oa 8 (.mov (.t 152)), oa 9 (.mov (ai 0))] (kp 153 [8,9]))
  (sr 153 [8,9]))
def j50_bbbbb : IC := (.seq (.seq (.region [oa 12 (.mov (ai 0))] (kp 153 [0,2,10,12]))
  (.block 2
  (.seq (sk 153 [0,2,10,12])
  (.loop l50_2))))
  j50_bbbbbb)
def c50 : IFn := ⟨153, [(8, none), (9, none)],
  (.seq (.region [oa 8 (.mov (.c (.bool false))), oa 9 (.mov (ai 0))] (kp 153 [0,1,2,3]))
  (.seq (.seq (.region [oa 26 (.mov (.t 0)), oa 27 (.call 89 [(.t 26)]), oa 28 (.mov (.t 27)), oc 29 (.mov (.t 2)) 28 ff, oc 30 (.call 89 [(.t 29)]) 28 ff, oa 31 (.pick (.t 28) (.c (.bool true)) (.t 30))] (kp 153 [0,1,2,3,31]))
  (.cond (.t 31)
  (.seq (.region [oa 8 (.mov (.c (.bool false))), oa 9 (.mov (ai 6))] (kp 153 [8,9]))
  (sr 153 [8,9]))
  (sk 153 [0,1,2,3])))
  (.seq (.seq (.region [oa 32 (.mov (.t 1)), oa 33 (.lenSlice (.t 32)), oa 34 (.mov (.t 3)), oa 35 (.lenSlice (.t 34)), oa 36 (.bin .neq (.t 33) (.t 35))] (kp 153 [0,1,2,3,36]))
  (.cond (.t 36)
  (.seq (.region [oa 8 (.mov (.c (.bool false))), oa 9 (.mov (ai 0))] (kp 153 [8,9]))
  (sr 153 [8,9]))
  (sk 153 [0,1,2,3])))
  (.seq (.region [oa 37 (.mov (.t 0)), oa 38 (.build [(.ptr none), (.slice none 0 (some 0)), (.map none)] [(0, 1, (.t 37))]), oa 39 (.box (.t 38)), oa 40 (.mov (.t 2)), oa 41 (.build [(.ptr none), (.slice none 0 (some 0)), (.map none)] [(0, 1, (.t 40))]), oa 42 (.box (.t 41)), oa 43 .mkMap, oa 44 .mkMap, oa 45 (.build [(.ptr none), (.ptr none), (.map none), (.map none), (.slice none 0 (some 0)), (.bool false)] [(0, 1, (.t 39)), (1, 1, (.t 42)), (2, 1, (.t 43)), (3, 1, (.t 44))]), oa 46 (.box (.t 45)), oa 10 (.mov (.t 46))] (kp 153 [0,1,2,3,10]))
  (.seq (.seq (.region [oa 47 (.mov (.t 1)), oa 48 (.lenSlice (.t 47)), oa 49 (.mov (ai 0))] (kp 153 [0,1,2,3,10,48,49]))
  (.block 0
  (.seq (sk 153 [0,1,2,3,10,48,49])
  (.loop l50_0))))
  j50_bbbbb)))))⟩
theorem F50 : shutF Try.prog 50 = some c50 := by kernel_rfl
def regFrom : List PReg → Int → Nat → Option Nat
  | [], _, _ => none
  | g :: rs, L, i => if (g.life : Int) = L then some i else regFrom rs L (i + 1)
def regI (h : PHeap) (L : Int) : Int := match regFrom h.regs L 0 with
  | some j => (j : Int)
  | none => -1
def mism (h k : PHeap) (v w : Wd) : Bool := match pfind v.1 v.2 h.regs, pfind w.1 w.2 k.regs with
  | some x, some y => decide (x.b.kind ≠ y.b.kind) || (decide (x.b.ws.length ≠ y.b.ws.length) || decide (regI h v.2 ≠ regI k w.2))
  | _, _ => true
def foldP (h k : PHeap) (S : List (Wd × Wd) × Bool) (ps : List (Wd × Wd)) : List (Wd × Wd) × Bool := ps.foldl (fun S e => pairP h k S e.1 e.2) S
def loopM (h k : PHeap) : Nat → Nat → List (Wd × Wd) × Bool → Bool
  | 0, _, S => !S.2
  | n + 1, i, S => match S.1[i]? with
    | none => !S.2
    | some e => if S.2 = true then false else if mism h k e.1 e.2 = true then false else loopM h k n (i + 1) (foldP h k S ((objW h e.1).zip (objW k e.2)))
structure PairsOk (h k : PHeap) (P : List (Wd × Wd)) : Prop where
  a : Found h (P.map (·.1))
  b : Found k (P.map (·.2))
theorem lkA_none {P : List (Wd × Wd)} {v : Wd} (h : lkA P v = none) : v ∉ P.map (·.1) := by
  unfold lkA at h
  rw [Option.map_eq_none_iff, List.find?_eq_none] at h
  intro m
  obtain ⟨e, he, rfl⟩ := List.mem_map.1 m
  exact h e he (by simp)
theorem swap_fst (P : List (Wd × Wd)) : (swapP P).map (·.1) = P.map (·.2) := by unfold swapP; rw [List.map_map]; rfl
theorem PairsOk.pair {h k : PHeap} {P : List (Wd × Wd)} {un : Bool} (hP : PairsOk h k P) (v w : Wd) : PairsOk h k (pairP h k (P, un) v w).1 := by
  unfold pairP
  split
  · exact hP
  · split
    · exact hP
    · rename_i hxy
      split
      · exact hP
      · rename_i hx
        split
        · rename_i h1 h2
          have hv := lkA_none h1
          have hw := lkA_none h2
          rw [swap_fst] at hw
          have hvt : thereB h v = true := by simpa using hx
          have hwt : thereB k w = true := by
            have : thereB h v = thereB k w := by simpa using hxy
            rw [← this]; exact hvt
          have e1 := hP.a.put v
          have e2 := hP.b.put w
          unfold putW at e1 e2
          rw [if_pos ⟨hv, hvt⟩] at e1
          rw [if_pos ⟨hw, hwt⟩] at e2
          exact ⟨by simpa using e1, by simpa using e2⟩
        · exact hP
theorem PairsOk.fold {h k : PHeap} : ∀ (ps : List (Wd × Wd)) {S : List (Wd × Wd) × Bool}, PairsOk h k S.1 → PairsOk h k (foldP h k S ps).1
  | [], _, hS => hS
  | e :: ps, S, hS => PairsOk.fold ps (S := pairP h k S e.1 e.2) (hS.pair e.1 e.2)
theorem PairsOk.nil (h k : PHeap) : PairsOk h k [] := ⟨Found.nil h, Found.nil k⟩
theorem lkA_get : ∀ {P : List (Wd × Wd)} {i : Nat} {e : Wd × Wd}, (P.map (·.1)).Nodup → P[i]? = some e → lkA P e.1 = some e.2
  | [], _, _, _, h => by simp at h
  | x :: P, 0, e, hn, h => by simp at h; subst h; simp [lkA]
  | x :: P, i + 1, e, hn, h => by
    rw [List.map_cons, List.nodup_cons] at hn
    have h' : P[i]? = some e := by simpa using h
    have hne : x.1 ≠ e.1 := fun ex => hn.1 (by rw [ex]; exact List.mem_map.2 ⟨e, List.mem_of_getElem? h', rfl⟩)
    have := lkA_get hn.2 h'
    unfold lkA at this ⊢
    rw [List.find?_cons_of_neg (by simpa using hne)]
    exact this
section
variable {o : Nat → Option O} {s : St} {C F : Ch} {Q : V → St → Prop} {p q : Nat}
set_option maxRecDepth 10000
set_option maxHeartbeats 4000000
theorem reg_loop {h : PHeap} {L : Int} {K : Kt} (lh : Look C p h) : ∀ (n i : Nat) (s : St), i + n = h.regs.length → Holds o s C →
    (∀ j s', regFrom (h.regs.drop i) L i = some j → Holds o s' C → WP (K .ret (sp 24 [(4, I j)]) s') Q) → (∀ s', regFrom (h.regs.drop i) L i = none → Holds o s' C → WP (K (.exit 0) (sp 24 []) s') Q) →
    WP (loop PF (.loop l100_0) (sp 24 [(0, ptrN h.id), (1, I L), (9, I h.regs.length), (10, I i)]) s K) Q
  | 0, i, s, hi, H, q1, q2 => by
    have hlt : ¬ ((i : Int) < (h.regs.length : Int)) := by omega
    refine wp_round fun LL hLL => ?_
    simp -implicitDefEqProofs only [↓GP, GB, GL, Nat.reduceAdd, Nat.reduceSub, Nat.reduceEqDiff, Nat.reduceMul, Nat.reduceLeDiff, Int.reduceBNe, Int.reduceBEq, Nat.reduceLT, reduceCtorEq, l100_0, hlt]
    exact q2 s (by rw [List.drop_eq_nil_of_le (by omega)]; rfl) H
  | n + 1, i, s, hi, H, q1, q2 => by
    have hlt : ((i : Int) < (h.regs.length : Int)) := by omega
    have hi' : i < h.regs.length := by omega
    have hlen := lh.len
    have hw1 := wrap_add1 (a := i) (by omega)
    have hg := List.getElem?_eq_getElem hi'
    rw [List.drop_eq_getElem_cons hi', regFrom] at q1 q2
    generalize h.regs[i] = g at hg q1 q2
    refine wp_round fun LL hLL => ?_
    simp -implicitDefEqProofs only [↓GP, GB, GL, Nat.reduceAdd, Nat.reduceSub, Nat.reduceEqDiff, Nat.reduceMul, Nat.reduceLeDiff, Int.reduceBNe, Int.reduceBEq, Nat.reduceLT, reduceCtorEq, l100_0, hlt]
    refine wp_in (s35 H lh.hin lh.len hg fun s1 h1 => ?_)
    by_cases e : (g.life : Int) = L
    · have hb : ((g.life : Int) == L) = true := by simpa using e
      simp -implicitDefEqProofs only [↓GP, GB, GL, Nat.reduceAdd, Nat.reduceSub, Nat.reduceEqDiff, Nat.reduceMul, Nat.reduceLeDiff, Int.reduceBNe, Int.reduceBEq, Nat.reduceLT, reduceCtorEq, hb]
      exact q1 i s1 (by rw [if_pos e]) h1
    · have hb : ((g.life : Int) == L) = false := by simpa using e
      simp -implicitDefEqProofs only [↓GP, GB, GL, Nat.reduceAdd, Nat.reduceSub, Nat.reduceEqDiff, Nat.reduceMul, Nat.reduceLeDiff, Int.reduceBNe, Int.reduceBEq, Nat.reduceLT, reduceCtorEq, hb, hw1]
      rw [hLL]
      rw [if_neg e] at q1 q2
      exact reg_loop lh n (i + 1) s1 (by omega) h1 q1 q2
theorem s100 {h : PHeap} {L : Int} (H : Holds o s C) (lh : Look C p h) (k : ∀ s', Holds o s' C → Q (I (regI h L)) s') : WP (call PF 100 [ptrN h.id, I L] s) Q := by
  have e27 := s27 H lh.hin
  rw [call_run F100]; simp -implicitDefEqProofs only [↓GP, GB, GL, Nat.reduceAdd, Nat.reduceSub, Nat.reduceEqDiff, Nat.reduceMul, Nat.reduceLeDiff, Int.reduceBNe, Int.reduceBEq, Nat.reduceLT, reduceCtorEq, c100, e27]
  rw [I0]
  refine reg_loop lh h.regs.length 0 s (by omega) H (fun j s' e h1 => ?_) fun s' e h1 => ?_
  · simp -implicitDefEqProofs only [↓GP, GB, GL, Nat.reduceAdd, Nat.reduceSub, Nat.reduceEqDiff, Nat.reduceMul, Nat.reduceLeDiff, Int.reduceBNe, Int.reduceBEq, Nat.reduceLT, reduceCtorEq]
    have := k s' h1
    unfold regI at this
    rw [List.drop_zero] at e
    rw [e] at this
    exact this
  · simp -implicitDefEqProofs only [↓GP, GB, GL, Nat.reduceAdd, Nat.reduceSub, Nat.reduceEqDiff, Nat.reduceMul, Nat.reduceLeDiff, Int.reduceBNe, Int.reduceBEq, Nat.reduceLT, reduceCtorEq]
    have := k s' h1
    unfold regI at this
    rw [List.drop_zero] at e
    rw [e] at this
    exact this
theorem al_roots {h k : PHeap} {c ta tb ka kb xa xb : Nat} {a b : List Wd} {K : Kt} (lh : Look C p h) (lk : Look C q k) (hall : (allW h).length ≤ 90000) (ma : (xa, rowO 2 a.length (a.flatMap encW)) ∈ C) (mb : (xb, rowO 2 a.length (b.flatMap encW)) ∈ C) (hab : b.length = a.length) (hl : a.length ≤ 1000) :
    ∀ (n i qk : Nat) (S : List (Wd × Wd) × Bool) (s : St), i + n = a.length → PairsOk h k S.1 → Holds o s (pairC c ta tb ka kb qk h.id k.id S.1 S.2 ++ C) →
    (∀ s' qk' S', S' = foldP h k S ((a.drop i).zip (b.drop i)) → PairsOk h k S'.1 → Holds o s' (pairC c ta tb ka kb qk' h.id k.id S'.1 S'.2 ++ C) → WP (K (.exit 0) (sp 153 [(0, ptrN h.id), (2, ptrN k.id), (10, ptrN c)]) s') Q) →
    WP (loop PF (.loop l50_0) (sp 153 [(0, ptrN h.id), (1, rowV xa a.length), (2, ptrN k.id), (3, rowV xb a.length), (10, ptrN c), (48, I a.length), (49, I i)]) s K) Q
  | 0, i, qk, S, s, hi, hP, H, f => by
    have hlt : ¬ ((i : Int) < (a.length : Int)) := by omega
    refine wp_round fun LL hLL => ?_
    simp -implicitDefEqProofs only [↓GP, GB, GL, Nat.reduceAdd, Nat.reduceSub, Nat.reduceEqDiff, Nat.reduceMul, Nat.reduceLeDiff, Int.reduceBNe, Int.reduceBEq, Nat.reduceLT, reduceCtorEq, l50_0, hlt]
    exact f s qk S (by rw [List.drop_eq_nil_of_le (by omega)]; rfl) hP H
  | n + 1, i, qk, S, s, hi, hP, H, f => by
    have hlt : ((i : Int) < (a.length : Int)) := by omega
    have hi' : i < a.length := by omega
    have hi2 : i < b.length := by omega
    have hw1 := wrap_add1 (a := i) (by omega)
    have hix := ix_row (sz := 2) (k := xa) (n := a.length) (i := i) (kk := .i64) hi'
    have hix2 := ix_row (sz := 2) (k := xb) (n := a.length) (i := i) (kk := .i64) hi'
    have er : rowO 2 a.length (a.flatMap encW) = some (.cells (a.flatMap encW) (some 2)) := by unfold rowO; rw [if_neg (by omega)]
    have er2 : rowO 2 a.length (b.flatMap encW) = some (.cells (b.flatMap encW) (some 2)) := by unfold rowO; rw [if_neg (by omega)]
    have fa := H.mem (List.mem_append_right _ (er ▸ ma))
    have fb := H.mem (List.mem_append_right _ (er2 ▸ mb))
    have hld := ldN_tab (enc := encW) encW_len a (some 2) (List.getElem?_eq_getElem hi')
    have hld2 := ldN_tab (enc := encW) encW_len b (some 2) (List.getElem?_eq_getElem hi2)
    rw [List.drop_eq_getElem_cons hi', List.drop_eq_getElem_cons hi2, List.zip_cons_cons] at f
    generalize a[i] = v at f hld
    generalize b[i] = w at f hld2
    have hpl := hP.a.len
    rw [List.length_map] at hpl
    refine wp_round fun LL hLL => ?_
    simp -implicitDefEqProofs only [↓GP, GB, GL, Nat.reduceAdd, Nat.reduceSub, Nat.reduceEqDiff, Nat.reduceMul, Nat.reduceLeDiff, Int.reduceBNe, Int.reduceBEq, Nat.reduceLT, reduceCtorEq, l50_0, hlt, hix, hix2, fa, fb, hld, hld2, encW]
    obtain ⟨P, un⟩ := S
    refine wp_in (s99 (v := v) (w := w) H lh lk (by show P.length ≤ 100000; simp only at hpl; omega) fun s1 qk1 h1 => ?_)
    simp -implicitDefEqProofs only [↓GP, GB, GL, Nat.reduceAdd, Nat.reduceSub, Nat.reduceEqDiff, Nat.reduceMul, Nat.reduceLeDiff, Int.reduceBNe, Int.reduceBEq, Nat.reduceLT, reduceCtorEq, hw1]
    rw [hLL]
    exact al_roots lh lk hall ma mb hab hl n (i + 1) qk1 (pairP h k (P, un) v w) s1 (by omega) (hP.pair v w) h1 f
theorem al_words {h k : PHeap} {c ta tb ka kb bv bw m i0 : Nat} {v w : Wd} {x y : PObj} {K : Kt} (lh : Look C p h) (lk : Look C q k) (hall : (allW h).length ≤ 90000) (mv : (bv, some (.cells (encW v) none)) ∈ C) (mw : (bw, some (.cells (encW w) none)) ∈ C)
    (hv : 0 < v.2) (hw : 0 < w.2) (hx : pfind v.1 v.2 h.regs = some x) (hy : pfind w.1 w.2 k.regs = some y) (hxm : x.b.ws.length = m) (hym : y.b.ws.length = m) (hm : m ≤ 31) :
    ∀ (n i qk : Nat) (S : List (Wd × Wd) × Bool) (s : St), i + n = m → PairsOk h k S.1 → Holds o s (pairC c ta tb ka kb qk h.id k.id S.1 S.2 ++ C) →
    (∀ s' qk' S', S' = foldP h k S ((x.b.ws.drop i).zip (y.b.ws.drop i)) → PairsOk h k S'.1 → Holds o s' (pairC c ta tb ka kb qk' h.id k.id S'.1 S'.2 ++ C) → WP (K (.exit 4) (sp 153 [(0, ptrN h.id), (2, ptrN k.id), (10, ptrN c), (12, I i0)]) s') Q) →
    WP (loop PF (.loop l50_1) (sp 153 [(0, ptrN h.id), (2, ptrN k.id), (10, ptrN c), (12, I i0), (13, ptrN bv), (14, ptrN bw), (125, I m), (126, I i)]) s K) Q
  | 0, i, qk, S, s, hi, hP, H, f => by
    have hlt : ¬ ((i : Int) < (m : Int)) := by omega
    refine wp_round fun LL hLL => ?_
    simp -implicitDefEqProofs only [↓GP, GB, GL, Nat.reduceAdd, Nat.reduceSub, Nat.reduceEqDiff, Nat.reduceMul, Nat.reduceLeDiff, Int.reduceBNe, Int.reduceBEq, Nat.reduceLT, reduceCtorEq, l50_1, hlt]
    exact f s qk S (by rw [List.drop_eq_nil_of_le (by omega)]; rfl) hP H
  | n + 1, i, qk, S, s, hi, hP, H, f => by
    have hlt : ((i : Int) < (m : Int)) := by omega
    have hi' : i < x.b.ws.length := by omega
    have hi2 : i < y.b.ws.length := by omega
    have hw1 := wrap_add1 (a := i) (by omega)
    have up : ∀ z ∈ C, z ∈ pairC c ta tb ka kb qk h.id k.id S.1 S.2 ++ C := fun z hz => List.mem_append_right _ hz
    have fv := H.mem (up _ mv)
    have gx := List.getElem?_eq_getElem hi'
    have gy := List.getElem?_eq_getElem hi2
    rw [List.drop_eq_getElem_cons hi', List.drop_eq_getElem_cons hi2, List.zip_cons_cons] at f
    generalize x.b.ws[i] = a at f gx
    generalize y.b.ws[i] = b at f gy
    have hpl := hP.a.len
    rw [List.length_map] at hpl
    refine wp_round fun LL hLL => ?_
    simp -implicitDefEqProofs only [↓GP, GB, GL, Nat.reduceAdd, Nat.reduceSub, Nat.reduceEqDiff, Nat.reduceMul, Nat.reduceLeDiff, Int.reduceBNe, Int.reduceBEq, Nat.reduceLT, reduceCtorEq, l50_1, hlt, fv, encW]
    refine wp_in (s67 H (lh.mono up).hin lh.ne lh.len lh.ok hv hx gx (by omega) fun s1 h1 => ?_)
    have fw := h1.mem (up _ mw)
    simp -implicitDefEqProofs only [↓GP, GB, GL, Nat.reduceAdd, Nat.reduceSub, Nat.reduceEqDiff, Nat.reduceMul, Nat.reduceLeDiff, Int.reduceBNe, Int.reduceBEq, Nat.reduceLT, reduceCtorEq, fw, encW]
    have h2 := (h1.alloc (.cells [I 0, I 0] none)).set0 (.cells [I a.1, I a.2] none)
    refine wp_in (s67 h2 ((lk.mono up).hin.cons _) lk.ne lk.len lk.ok hw hy gy (by omega) fun s2 h3 => ?_)
    have f3 := h3.f1
    simp -implicitDefEqProofs only [↓GP, GB, GL, Nat.reduceAdd, Nat.reduceSub, Nat.reduceEqDiff, Nat.reduceMul, Nat.reduceLeDiff, Int.reduceBNe, Int.reduceBEq, Nat.reduceLT, reduceCtorEq, f3, encW]
    have h4 := (h3.alloc (.cells [I 0, I 0] none)).set0 (.cells [I b.1, I b.2] none)
    obtain ⟨P, un⟩ := S
    refine wp_in (s99 (v := a) (w := b) h4.tl.tl lh lk (by show P.length ≤ 100000; simp only at hpl; omega) fun s3 qk1 h5 => ?_)
    simp -implicitDefEqProofs only [↓GP, GB, GL, Nat.reduceAdd, Nat.reduceSub, Nat.reduceEqDiff, Nat.reduceMul, Nat.reduceLeDiff, Int.reduceBNe, Int.reduceBEq, Nat.reduceLT, reduceCtorEq, hw1]
    rw [hLL]
    exact al_words lh lk hall mv mw hv hw hx hy hxm hym hm n (i + 1) qk1 (pairP h k (P, un) a b) s3 (by omega) (hP.pair a b) h5 f
theorem there_find {h : PHeap} {w : Wd} (ht : thereB h w = true) : 0 < w.2 ∧ ∃ x, pfind w.1 w.2 h.regs = some x := by
  unfold thereB at ht
  simp only [Bool.and_eq_true, decide_eq_true_eq] at ht
  exact ⟨ht.1, Option.isSome_iff_exists.1 ht.2⟩
theorem objW_find {h : PHeap} {w : Wd} {x : PObj} (hx : pfind w.1 w.2 h.regs = some x) : objW h w = x.b.ws := by unfold objW; rw [hx]; rfl
theorem al_outer {h k : PHeap} {c ta tb ka kb : Nat} {K : Kt} {R : Bool} (lh : Look C p h) (lk : Look C q k) (hall : (allW h).length ≤ 90000)
    (fT : ∀ s' qk' (S' : List (Wd × Wd) × Bool), S'.2 = !R → Holds o s' (pairC c ta tb ka kb qk' h.id k.id S'.1 S'.2 ++ C) → WP (K (.exit 2) (sp 153 [(10, ptrN c)]) s') Q)
    (fF : R = false → ∀ s', Holds o s' C → WP (K .ret (sp 153 [(8, .bool false), (9, I 0)]) s') Q) :
    ∀ (n i qk : Nat) (S : List (Wd × Wd) × Bool) (s : St), (allW h).length + 1 ≤ i + n → PairsOk h k S.1 → loopM h k n i S = R → Holds o s (pairC c ta tb ka kb qk h.id k.id S.1 S.2 ++ C) →
    WP (loop PF (.loop l50_2) (sp 153 [(0, ptrN h.id), (2, ptrN k.id), (10, ptrN c), (12, I i)]) s K) Q := by
  intro n
  induction n with
  | zero =>
    intro i qk S s hn hP hR H
    have hpl := hP.a.len
    rw [List.length_map] at hpl
    have hlt : ¬ ((i : Int) < (S.1.length : Int)) := by omega
    have fc := H.mem (List.mem_append_left _ (List.mem_cons_self ..) : (c, some (O.cells [ptrN ta, ptrN tb, .map (some (.new ka)), .map (some (.new kb)), rowV qk S.1.length, .bool S.2] none)) ∈ pairC c ta tb ka kb qk h.id k.id S.1 S.2 ++ C)
    refine wp_round fun LL hLL => ?_
    simp -implicitDefEqProofs only [↓GP, GB, GL, Nat.reduceAdd, Nat.reduceSub, Nat.reduceEqDiff, Nat.reduceMul, Nat.reduceLeDiff, Int.reduceBNe, Int.reduceBEq, Nat.reduceLT, reduceCtorEq, l50_2, fc, hlt]
    exact fT s qk S (by unfold loopM at hR; rw [← hR]; simp) H
  | succ n ih =>
    intro i qk S s hn hP hR H
    have hpl := hP.a.len
    rw [List.length_map] at hpl
    have fc := H.mem (List.mem_append_left _ (List.mem_cons_self ..) : (c, some (O.cells [ptrN ta, ptrN tb, .map (some (.new ka)), .map (some (.new kb)), rowV qk S.1.length, .bool S.2] none)) ∈ pairC c ta tb ka kb qk h.id k.id S.1 S.2 ++ C)
    by_cases hi : i < S.1.length
    · have hlt : ((i : Int) < (S.1.length : Int)) := by omega
      have he := List.getElem?_eq_getElem hi
      unfold loopM at hR
      rw [he] at hR
      simp only at hR
      cases hun : S.2 with
      | true =>
        rw [hun] at hR fc
        rw [if_pos rfl] at hR
        refine wp_round fun LL hLL => ?_
        simp -implicitDefEqProofs only [↓GP, GB, GL, Nat.reduceAdd, Nat.reduceSub, Nat.reduceEqDiff, Nat.reduceMul, Nat.reduceLeDiff, Int.reduceBNe, Int.reduceBEq, Nat.reduceLT, reduceCtorEq, l50_2, fc, hlt]
        exact fT s qk S (by rw [← hR, hun]; rfl) H
      | false =>
        rw [hun] at hR fc
        rw [if_neg (by simp)] at hR
        have hlk := lkA_get hP.a.nodup he
        have m1 : S.1[i].1 ∈ S.1.map (·.1) := List.mem_map.2 ⟨_, List.getElem_mem hi, rfl⟩
        have m2 : S.1[i].2 ∈ S.1.map (·.2) := List.mem_map.2 ⟨_, List.getElem_mem hi, rfl⟩
        have ht1 := hP.a.there _ m1
        have ht2 := hP.b.there _ m2
        have hg1 : (S.1.map (·.1))[i]? = some S.1[i].1 := by rw [List.getElem?_map, he]; rfl
        generalize hgen : S.1[i] = e at *
        obtain ⟨v, w⟩ := e
        obtain ⟨hv, x, hx⟩ := there_find ht1
        obtain ⟨hw, y, hy⟩ := there_find ht2
        have hix := ix_row (sz := 2) (k := qk) (n := S.1.length) (i := i) (kk := .i64) hi
        have mq : (qk, some (O.cells ((S.1.map (·.1)).flatMap encW) (some 2))) ∈ pairC c ta tb ka kb qk h.id k.id S.1 S.2 ++ C := by
          have : rowO 2 S.1.length ((S.1.map (·.1)).flatMap encW) = some (.cells ((S.1.map (·.1)).flatMap encW) (some 2)) := rowO_pos (by omega)
          rw [← this]; exact List.mem_append_left _ (by simp [pairC])
        have fq := H.mem mq
        have hld := ldN_tab (enc := encW) encW_len (S.1.map (·.1)) (some 2) hg1
        have ma : (ka, some (seqM encA (S.1.map fun e => (e.1, encA e.2)))) ∈ pairC c ta tb ka kb qk h.id k.id S.1 S.2 ++ C := List.mem_append_left _ (by simp [pairC])
        have h1 := (H.alloc (.cells [I 0, I 0] none)).set0 (.cells [I v.1, I v.2] none)
        have el := lookup_map keyA (seq_is (S.1.map fun e => (e.1, encA e.2))) (h1.mem (List.mem_cons_of_mem _ ma)).1 (.agg [I 0, I 0]) false v
        simp only [seq_get, getD_encA, Bool.false_eq_true, if_false] at el
        rw [hlk, Option.getD_some] at el
        simp only [encA, encW] at el
        have hw1 := wrap_add1 (a := i) (by omega)
        refine wp_round fun LL hLL => ?_
        simp -implicitDefEqProofs only [↓GP, GB, GL, Nat.reduceAdd, Nat.reduceSub, Nat.reduceEqDiff, Nat.reduceMul, Nat.reduceLeDiff, Int.reduceBNe, Int.reduceBEq, Nat.reduceLT, reduceCtorEq, l50_2, fc, hlt, hix, fq, hld, encW, el]
        have h2 := (h1.alloc (.cells [I 0, I 0] none)).set0 (.cells [I w.1, I w.2] none)
        simp only [set_next, alloc_next] at h2
        have up : ∀ z ∈ C, z ∈ (s.next + 1, some (O.cells [I w.1, I w.2] none)) :: (s.next, some (.cells [I v.1, I v.2] none)) :: (pairC c ta tb ka kb qk h.id k.id S.1 S.2 ++ C) := fun z hz => List.mem_cons_of_mem _ (List.mem_cons_of_mem _ (List.mem_append_right _ hz))
        obtain ⟨g1, mg1, mx1⟩ := pfind_mem hx
        have hxw := lh.ws g1 mg1 x mx1
        refine wp_in (s30 h2 (lh.mono up).hin lh.ne lh.len lh.ok hv hx fun s1 h3 => ?_)
        have f3 := h3.f2
        simp -implicitDefEqProofs only [↓GP, GB, GL, Nat.reduceAdd, Nat.reduceSub, Nat.reduceEqDiff, Nat.reduceMul, Nat.reduceLeDiff, Int.reduceBNe, Int.reduceBEq, Nat.reduceLT, reduceCtorEq, f3, encW]
        refine wp_in (s30 h3 (lk.mono up).hin lk.ne lk.len lk.ok hw hy fun s2 h4 => ?_)
        have f4 := h4.f2
        have hmis : mism h k v w = (decide (x.b.kind ≠ y.b.kind) || (decide (x.b.ws.length ≠ y.b.ws.length) || decide (regI h v.2 ≠ regI k w.2))) := by
          unfold mism; rw [hx, hy]
        rw [hmis] at hR
        have toC : ∀ {s'}, Holds o s' ((s.next + 1, some (O.cells [I w.1, I w.2] none)) :: (s.next, some (.cells [I v.1, I v.2] none)) :: (pairC c ta tb ka kb qk h.id k.id S.1 S.2 ++ C)) → Holds o s' C := fun h => h.tl.tl.dropL
        by_cases hk : x.b.kind = y.b.kind
        · have hkb : ((x.b.kind : Int) != (y.b.kind : Int)) = false := by simp [hk]
          by_cases hln : x.b.ws.length = y.b.ws.length
          · have hlb : ((x.b.ws.length : Int) != (y.b.ws.length : Int)) = false := by simp [hln]
            simp -implicitDefEqProofs only [↓GP, GB, GL, Nat.reduceAdd, Nat.reduceSub, Nat.reduceEqDiff, Nat.reduceMul, Nat.reduceLeDiff, Int.reduceBNe, Int.reduceBEq, Nat.reduceLT, reduceCtorEq, hkb, hlb, f4]
            refine wp_in (s100 h4 (lh.mono up) fun s3 h5 => ?_)
            have f5 := h5.f2
            simp -implicitDefEqProofs only [↓GP, GB, GL, Nat.reduceAdd, Nat.reduceSub, Nat.reduceEqDiff, Nat.reduceMul, Nat.reduceLeDiff, Int.reduceBNe, Int.reduceBEq, Nat.reduceLT, reduceCtorEq, f5]
            refine wp_in (s100 h5 (lk.mono up) fun s4 h6 => ?_)
            by_cases hr : regI h v.2 = regI k w.2
            · have hrb : (regI h v.2 != regI k w.2) = false := by simp [hr]
              rw [if_neg (by simp [hk, hln, hr]), objW_find hx, objW_find hy] at hR
              simp -implicitDefEqProofs only [↓GP, GB, GL, Nat.reduceAdd, Nat.reduceSub, Nat.reduceEqDiff, Nat.reduceMul, Nat.reduceLeDiff, Int.reduceBNe, Int.reduceBEq, Nat.reduceLT, reduceCtorEq, hrb]
              rw [I0]
              have h7 : Holds o s4 (pairC c ta tb ka kb qk h.id k.id S.1 S.2 ++ ((s.next + 1, some (O.cells [I w.1, I w.2] none)) :: (s.next, some (.cells [I v.1, I v.2] none)) :: C)) := (Holds.of (h6) (fun k => by simp +arith only [pairC, HA, HB]) (fun k x => by simp only [pairC, HA, HC]; grind only))
              refine al_words (v := v) (w := w) ((lh.cons _).cons _) ((lk.cons _).cons _) hall (List.mem_cons_of_mem _ (List.mem_cons_self ..)) (List.mem_cons_self ..) hv hw hx hy rfl hln.symm hxw x.b.ws.length 0 qk S s4 (by omega) hP h7 fun s5 qk5 S5 hS5 hP5 h8 => ?_
              rw [List.drop_zero, List.drop_zero] at hS5
              rw [← hS5] at hR
              simp -implicitDefEqProofs only [↓GP, GB, GL, Nat.reduceAdd, Nat.reduceSub, Nat.reduceEqDiff, Nat.reduceMul, Nat.reduceLeDiff, Int.reduceBNe, Int.reduceBEq, Nat.reduceLT, reduceCtorEq, hw1]
              rw [hLL]
              exact ih (i + 1) qk5 S5 s5 (by omega) hP5 hR (Holds.of (h8) (fun k => by simp +arith only [pairC, HA, HB]) (fun k x => by simp only [pairC, HA, HC]; grind only))
            · have hrb : (regI h v.2 != regI k w.2) = true := by simpa using hr
              rw [if_pos (by simp [hr])] at hR
              simp -implicitDefEqProofs only [↓GP, GB, GL, Nat.reduceAdd, Nat.reduceSub, Nat.reduceEqDiff, Nat.reduceMul, Nat.reduceLeDiff, Int.reduceBNe, Int.reduceBEq, Nat.reduceLT, reduceCtorEq, hrb]
              exact fF hR.symm s4 (toC h6)
          · have hlb : ((x.b.ws.length : Int) != (y.b.ws.length : Int)) = true := by simp; omega
            rw [if_pos (by simp [hln])] at hR
            simp -implicitDefEqProofs only [↓GP, GB, GL, Nat.reduceAdd, Nat.reduceSub, Nat.reduceEqDiff, Nat.reduceMul, Nat.reduceLeDiff, Int.reduceBNe, Int.reduceBEq, Nat.reduceLT, reduceCtorEq, hkb, hlb]
            exact fF hR.symm s2 (toC h4)
        · have hkb : ((x.b.kind : Int) != (y.b.kind : Int)) = true := by simp; omega
          rw [if_pos (by simp [hk])] at hR
          simp -implicitDefEqProofs only [↓GP, GB, GL, Nat.reduceAdd, Nat.reduceSub, Nat.reduceEqDiff, Nat.reduceMul, Nat.reduceLeDiff, Int.reduceBNe, Int.reduceBEq, Nat.reduceLT, reduceCtorEq, hkb]
          exact fF hR.symm s2 (toC h4)
    · have hlt : ¬ ((i : Int) < (S.1.length : Int)) := by omega
      unfold loopM at hR
      rw [List.getElem?_eq_none (by omega)] at hR
      refine wp_round fun LL hLL => ?_
      simp -implicitDefEqProofs only [↓GP, GB, GL, Nat.reduceAdd, Nat.reduceSub, Nat.reduceEqDiff, Nat.reduceMul, Nat.reduceLeDiff, Int.reduceBNe, Int.reduceBEq, Nat.reduceLT, reduceCtorEq, l50_2, fc, hlt]
      exact fT s qk S (by rw [← hR]; simp) H
def alikeP (h k : PHeap) (a b : List Wd) : Bool := decide (a.length = b.length) && loopM h k ((allW h).length + 1) 0 (foldP h k ([], false) (a.zip b))
theorem s50 {h k : PHeap} {xa xb : Nat} {a b : List Wd} (H : Holds o s C) (lh : Look C p h) (lk : Look C q k) (hall : (allW h).length ≤ 90000) (ma : (xa, rowO 2 a.length (a.flatMap encW)) ∈ C) (mb : (xb, rowO 2 b.length (b.flatMap encW)) ∈ C) (hl : a.length ≤ 1000)
    (f : ∀ s', Holds o s' C → Q (.tuple [.bool (alikeP h k a b), I 0]) s') : WP (call PF 50 [ptrN h.id, rowV xa a.length, ptrN k.id, rowV xb b.length] s) Q := by
  have e1 := s89 H lh.hin lh.ne lh.len
  have e2 := s89 H lk.hin lk.ne lk.len
  unfold alikeP at f
  by_cases hab : a.length = b.length
  · have hb : ((a.length : Int) != (b.length : Int)) = false := by simp [hab]
    rw [decide_eq_true hab, Bool.true_and] at f
    rw [call_run F50]; simp -implicitDefEqProofs only [↓GP, GB, GL, Nat.reduceAdd, Nat.reduceSub, Nat.reduceEqDiff, Nat.reduceMul, Nat.reduceLeDiff, Int.reduceBNe, Int.reduceBEq, Nat.reduceLT, reduceCtorEq, c50, e1, e2, hb]
    have h1 := ((((H.alloc (.cells [ptrN h.id, .slice none 0 (some 0), .map none] none)).alloc (.cells [ptrN k.id, .slice none 0 (some 0), .map none] none)).alloc (.map [] 0)).alloc (.map [] 0)).alloc (.cells [ptrN s.next, ptrN (s.next + 1), .map (some (.new (s.next + 2))), .map (some (.new (s.next + 3))), .slice none 0 (some 0), .bool false] none)
    have h2 : Holds o _ (pairC (s.next + 4) s.next (s.next + 1) (s.next + 2) (s.next + 3) 0 h.id k.id [] false ++ C) := (Holds.of (h1.nilEntry 0) (fun k => by simp +arith only [pairC, List.map_nil, seq_nil, List.length_nil, rowV_z, List.flatMap_nil, rowO_z, HA, HB]) (fun k x => by simp only [pairC, List.map_nil, seq_nil, List.length_nil, rowV_z, List.flatMap_nil, rowO_z, HA, HC]; grind only))
    rw [I0, ← hab]
    rw [← hab] at mb
    refine al_roots (a := a) (b := b) lh lk hall ma mb hab.symm hl a.length 0 0 ([], false) _ (by omega) (PairsOk.nil h k) h2 fun s1 qk1 S1 hS1 hP1 h3 => ?_
    rw [List.drop_zero, List.drop_zero] at hS1
    rw [← hS1] at f
    simp -implicitDefEqProofs only [↓GP, GB, GL, Nat.reduceAdd, Nat.reduceSub, Nat.reduceEqDiff, Nat.reduceMul, Nat.reduceLeDiff, Int.reduceBNe, Int.reduceBEq, Nat.reduceLT, reduceCtorEq, j50_bbbbb]
    rw [I0]
    refine al_outer lh lk hall (R := loopM h k ((allW h).length + 1) 0 S1) (fun s2 qk2 S2 hS2 h4 => ?_) (fun hR s2 h4 => ?_) ((allW h).length + 1) 0 qk1 S1 s1 (by omega) hP1 rfl h3
    · have fc := h4.mem (List.mem_append_left _ (List.mem_cons_self ..) : (s.next + 4, some (O.cells [ptrN s.next, ptrN (s.next + 1), .map (some (.new (s.next + 2))), .map (some (.new (s.next + 3))), rowV qk2 S2.1.length, .bool S2.2] none)) ∈ pairC (s.next + 4) s.next (s.next + 1) (s.next + 2) (s.next + 3) qk2 h.id k.id S2.1 S2.2 ++ C)
      rw [hS2] at fc
      simp -implicitDefEqProofs only [↓GP, GB, GL, Nat.reduceAdd, Nat.reduceSub, Nat.reduceEqDiff, Nat.reduceMul, Nat.reduceLeDiff, Int.reduceBNe, Int.reduceBEq, Nat.reduceLT, reduceCtorEq, j50_bbbbbb, fc, Bool.not_not]
      exact f s2 h4.dropL
    · rw [hR] at f
      simp -implicitDefEqProofs only [↓GP, GB, GL, Nat.reduceAdd, Nat.reduceSub, Nat.reduceEqDiff, Nat.reduceMul, Nat.reduceLeDiff, Int.reduceBNe, Int.reduceBEq, Nat.reduceLT, reduceCtorEq]
      exact f s2 h4
  · have hb : ((a.length : Int) != (b.length : Int)) = true := by simp; omega
    rw [decide_eq_false hab, Bool.false_and] at f
    rw [call_run F50]; simp -implicitDefEqProofs only [↓GP, GB, GL, Nat.reduceAdd, Nat.reduceSub, Nat.reduceEqDiff, Nat.reduceMul, Nat.reduceLeDiff, Int.reduceBNe, Int.reduceBEq, Nat.reduceLT, reduceCtorEq, c50, e1, e2, hb]
    exact f s H
end
end Go.Proofs.Ytoldkemimhebaaa

set_option linter.unusedSimpArgs false
set_option linter.unusedVariables false
namespace Go.Proofs.Ytoldkemimhebaaa
open Go Go.IM
def fitM (h k : PHeap) (P : List (Wd × Wd)) (v w : Wd) : List (Wd × Wd) × Bool :=
  if thereB h v = true ∧ thereB k w = true then
    match P.find? (fun e => decide (e.1 = v) || decide (e.2 = w)) with
    | some e => (P, decide (e.1 = v) && decide (e.2 = w))
    | none => (P ++ [(v, w)], decide (regI h v.2 = regI k w.2))
  else (P, (!thereB h v && !thereB k w) && ((decide (v.2 = 0) == decide (w.2 = 0)) && (!decide (v.2 = 0) || decide (v.1 = w.1))))
def foldR (h k : PHeap) : List (Wd × Wd) → List (Wd × Wd) → Option (List (Wd × Wd))
  | P, [] => some P
  | P, e :: ps => if (fitM h k P e.1 e.2).2 = true then foldR h k (fitM h k P e.1 e.2).1 ps else none
def mismK (h k : PHeap) (v w : Wd) : Bool := match pfind v.1 v.2 h.regs, pfind w.1 w.2 k.regs with
  | some x, some y => decide (x.b.kind ≠ y.b.kind) || decide (x.b.ws.length ≠ y.b.ws.length)
  | _, _ => true
def loopR (h k : PHeap) : Nat → Nat → List (Wd × Wd) → Bool
  | 0, _, _ => true
  | n + 1, i, P => match P[i]? with
    | none => true
    | some e => if mismK h k e.1 e.2 = true then false else match foldR h k P ((objW h e.1).zip (objW k e.2)) with
      | none => false
      | some P' => loopR h k n (i + 1) P'
def alikeR (h k : PHeap) (a b : List Wd) : Bool := decide (a.length = b.length) && (match foldR h k [] (a.zip b) with
  | none => false
  | some P => loopR h k ((allW h).length + 1) 0 P)
theorem there_pos {h : PHeap} {w : Wd} (ht : thereB h w = true) : w.2 ≠ 0 := by have := (there_find ht).1; omega
theorem lkA_mem {P : List (Wd × Wd)} (hn : (P.map (·.1)).Nodup) {e : Wd × Wd} (he : e ∈ P) : lkA P e.1 = some e.2 := by
  obtain ⟨i, hi, rfl⟩ := List.mem_iff_getElem.1 he
  exact lkA_get hn (List.getElem?_eq_getElem hi)
theorem lkA_no {P : List (Wd × Wd)} {v : Wd} (h : ∀ e ∈ P, e.1 ≠ v) : lkA P v = none := by
  unfold lkA
  rw [Option.map_eq_none_iff, List.find?_eq_none]
  exact fun e he => by simpa using h e he
theorem swap_mem {P : List (Wd × Wd)} {e : Wd × Wd} (he : e ∈ P) : (e.2, e.1) ∈ swapP P := List.mem_map.2 ⟨e, he, rfl⟩
structure GoodP (h k : PHeap) (S : List (Wd × Wd) × Bool) (P : List (Wd × Wd)) : Prop where
  eq : S.1 = P
  un : S.2 = false
  ok : PairsOk h k P
  reg : ∀ e ∈ P, regI h e.1.2 = regI k e.2.2
def BadP (h k : PHeap) (i : Nat) (S : List (Wd × Wd) × Bool) : Prop := S.2 = true ∨ ∃ j e, i ≤ j ∧ S.1[j]? = some e ∧ regI h e.1.2 ≠ regI k e.2.2
theorem fit_pair {h k : PHeap} {S : List (Wd × Wd) × Bool} {P : List (Wd × Wd)} (g : GoodP h k S P) (v w : Wd) {i : Nat} (hi : i ≤ P.length) :
    ((fitM h k P v w).2 = true ∧ GoodP h k (pairP h k S v w) (fitM h k P v w).1) ∨ ((fitM h k P v w).2 = false ∧ BadP h k i (pairP h k S v w)) := by
  obtain ⟨S1, S2⟩ := S
  obtain ⟨e1, e2, hok, hreg⟩ := g
  simp only at e1 e2
  subst e1 e2
  have hpo := hok.pair (un := false) v w
  by_cases hth : thereB h v = true ∧ thereB k w = true
  · have hv0 := there_pos hth.1
    have hw0 := there_pos hth.2
    have hsw : ((swapP S1).map (·.1)).Nodup := by rw [swap_fst]; exact hok.b.nodup
    have hpe : pairP h k (S1, false) v w = (match lkA S1 v, lkA (swapP S1) w with
        | none, none => (S1 ++ [(v, w)], false)
        | to, from_ => (S1, false || (!decide (to.getD (0, 0) = w) || !decide (from_.getD (0, 0) = v)))) := by
      unfold pairP
      rw [if_neg (by simp [hv0, hw0]), if_neg (by simp [hth.1, hth.2]), if_neg (by simp [hth.1])]
      all_goals (cases lkA S1 v <;> cases lkA (swapP S1) w <;> rfl)
    unfold fitM
    rw [if_pos hth, hpe]
    rw [hpe] at hpo
    cases hf : S1.find? (fun e => decide (e.1 = v) || decide (e.2 = w)) with
    | none =>
      have hno := List.find?_eq_none.1 hf
      have n1 : lkA S1 v = none := lkA_no fun e he ex => by have := hno e he; simp [ex] at this
      have n2 : lkA (swapP S1) w = none := lkA_no fun e he ex => by
        obtain ⟨x, hx, rfl⟩ := List.mem_map.1 he
        have := hno x hx
        simp only at ex
        simp [ex] at this
      rw [n1, n2] at hpo ⊢
      simp only at hpo ⊢
      by_cases hr : regI h v.2 = regI k w.2
      · left
        refine ⟨by simpa using hr, rfl, rfl, hpo, fun e he => ?_⟩
        rcases List.mem_append.1 he with he | he
        · exact hreg e he
        · simp at he; subst he; exact hr
      · right
        exact ⟨by simpa using hr, .inr ⟨S1.length, (v, w), hi, by simp, hr⟩⟩
    | some e =>
      have hem := List.mem_of_find?_eq_some hf
      have hep := List.find?_some hf
      simp only
      by_cases h1 : e.1 = v
      · have l1 := lkA_mem hok.a.nodup hem
        rw [h1] at l1
        by_cases h2 : e.2 = w
        · have l2 := lkA_mem hsw (swap_mem hem)
          simp only [h1, h2] at l1 l2
          rw [l1, l2] at hpo ⊢
          left
          refine ⟨by simp [h1, h2], rfl, by simp, hok, hreg⟩
        · right
          refine ⟨by simp [h2], .inl ?_⟩
          rw [l1]
          simp [h2]
      · right
        have h2 : e.2 = w := by simpa [h1] using hep
        have l2 := lkA_mem hsw (swap_mem hem)
        simp only [h2] at l2
        refine ⟨by simp [h1], .inl ?_⟩
        rw [l2]
        cases lkA S1 v <;> simp [h1]
  · unfold fitM
    rw [if_neg hth]
    unfold pairP at hpo ⊢
    by_cases hz : v.2 = 0 ∨ w.2 = 0
    · rw [if_pos hz] at hpo ⊢
      have tv : v.2 = 0 → thereB h v = false := fun e => by cases ht : thereB h v; rfl; exact absurd e (there_pos ht)
      have tw : w.2 = 0 → thereB k w = false := fun e => by cases ht : thereB k w; rfl; exact absurd e (there_pos ht)
      by_cases hvw : v = w
      · left
        subst hvw
        have hv : v.2 = 0 := by rcases hz with h | h <;> exact h
        exact ⟨by simp [tv hv, tw hv, hv], rfl, by simp, hok, hreg⟩
      · right
        refine ⟨?_, .inl (by simp [hvw])⟩
        by_cases hv : v.2 = 0
        · by_cases hw : w.2 = 0
          · have : ¬ v.1 = w.1 := fun e => hvw (Prod.ext e (by rw [hv, hw]))
            simp [hv, hw, this]
          · simp [hv, hw]
        · have hw := hz.resolve_left hv
          simp [hv, hw]
    · rw [if_neg hz] at hpo ⊢
      have hv : v.2 ≠ 0 := fun e => hz (.inl e)
      have hw : w.2 ≠ 0 := fun e => hz (.inr e)
      by_cases hxy : thereB h v = thereB k w
      · have h1 : thereB h v = false := by
          cases ht : thereB h v
          · rfl
          · exact absurd ⟨ht, by rw [← hxy]; exact ht⟩ hth
        have h2 : thereB k w = false := by rw [← hxy]; exact h1
        rw [if_neg (fun hn => hn hxy), if_pos h1]
        left
        exact ⟨by simp [h1, h2, hv, hw], rfl, rfl, hok, hreg⟩
      · rw [if_pos hxy]
        right
        refine ⟨?_, .inl rfl⟩
        cases ht : thereB h v <;> cases ht2 : thereB k w <;> simp_all
theorem bad_pair {h k : PHeap} {S : List (Wd × Wd) × Bool} {i : Nat} (b : BadP h k i S) (v w : Wd) : BadP h k i (pairP h k S v w) := by
  have hpre : ∃ t, (pairP h k S v w).1 = S.1 ++ t := by
    unfold pairP
    split
    · exact ⟨[], by simp⟩
    · split
      · exact ⟨[], by simp⟩
      · split
        · exact ⟨[], by simp⟩
        · split
          · exact ⟨_, rfl⟩
          · exact ⟨[], by simp⟩
  rcases b with b | ⟨j, e, h1, h2, h3⟩
  · left
    unfold pairP
    split
    · simp [b]
    · split
      · rfl
      · split
        · exact b
        · split
          · exact b
          · simp [b]
  · obtain ⟨t, ht⟩ := hpre
    exact .inr ⟨j, e, h1, by rw [ht, List.getElem?_append_left (List.getElem?_eq_some_iff.1 h2).1]; exact h2, h3⟩
theorem bad_fold {h k : PHeap} {i : Nat} : ∀ (ps : List (Wd × Wd)) {S : List (Wd × Wd) × Bool}, BadP h k i S → BadP h k i (foldP h k S ps)
  | [], _, b => b
  | e :: ps, S, b => bad_fold ps (S := pairP h k S e.1 e.2) (bad_pair b e.1 e.2)
theorem fit_fold {h k : PHeap} {i : Nat} : ∀ (ps : List (Wd × Wd)) {S : List (Wd × Wd) × Bool} {P : List (Wd × Wd)}, GoodP h k S P → i ≤ P.length →
    (∃ P', foldR h k P ps = some P' ∧ GoodP h k (foldP h k S ps) P' ∧ i ≤ P'.length) ∨ (foldR h k P ps = none ∧ BadP h k i (foldP h k S ps))
  | [], S, P, g, hi => .inl ⟨P, rfl, g, hi⟩
  | e :: ps, S, P, g, hi => by
    have hpre : P.length ≤ (fitM h k P e.1 e.2).1.length := by
      unfold fitM; split
      · split <;> simp
      · simp
    unfold foldR
    rcases fit_pair g e.1 e.2 hi with ⟨h1, h2⟩ | ⟨h1, h2⟩
    · rw [if_pos h1]
      exact fit_fold ps h2 (by omega)
    · rw [if_neg (by rw [h1]; simp)]
      exact .inr ⟨rfl, bad_fold ps h2⟩
theorem loop_bad {h k : PHeap} : ∀ (n i : Nat) {S : List (Wd × Wd) × Bool}, (allW h).length + 1 ≤ i + n → PairsOk h k S.1 → BadP h k i S → loopM h k n i S = false
  | 0, i, S, hn, hP, b => by
    have hl := hP.a.len
    rw [List.length_map] at hl
    rcases b with b | ⟨j, e, h1, h2, _⟩
    · unfold loopM; rw [b]; rfl
    · have := (List.getElem?_eq_some_iff.1 h2).1; omega
  | n + 1, i, S, hn, hP, b => by
    unfold loopM
    rcases b with b | ⟨j, e, h1, h2, h3⟩
    · cases S.1[i]? with
      | none => rw [b]; rfl
      | some e => rw [b]; rfl
    · have hj := (List.getElem?_eq_some_iff.1 h2).1
      have hi : i < S.1.length := by omega
      rw [List.getElem?_eq_getElem hi]
      simp only
      split
      · rfl
      · split
        · rfl
        · rename_i hm
          by_cases hij : i = j
          · subst hij
            have he : S.1[i] = e := (List.getElem?_eq_some_iff.1 h2).2
            rw [he] at hm
            exfalso
            apply hm
            unfold mism
            split
            · simp [h3]
            · rfl
          · exact loop_bad n (i + 1) (by omega) (hP.fold _) (bad_fold _ (.inr ⟨j, e, by omega, h2, h3⟩))
theorem loop_same {h k : PHeap} : ∀ (n i : Nat) {S : List (Wd × Wd) × Bool} {P : List (Wd × Wd)}, (allW h).length + 1 ≤ i + n → GoodP h k S P → loopM h k n i S = loopR h k n i P
  | 0, i, S, P, hn, g => by unfold loopM loopR; rw [g.un]; rfl
  | n + 1, i, S, P, hn, g => by
    unfold loopM loopR
    rw [g.eq]
    cases hp : P[i]? with
    | none => simp only; rw [g.un]; rfl
    | some e =>
      simp only
      rw [if_neg (by rw [g.un]; simp)]
      have hem := List.mem_of_getElem? hp
      have hmm : mism h k e.1 e.2 = mismK h k e.1 e.2 := by
        unfold mism mismK
        cases pfind e.1.1 e.1.2 h.regs with
        | none => rfl
        | some x => cases pfind e.2.1 e.2.2 k.regs with
          | none => rfl
          | some y => simp [g.reg e hem]
      rw [hmm]
      split
      · rfl
      · have hi := (List.getElem?_eq_some_iff.1 hp).1
        have hP : PairsOk h k S.1 := by rw [g.eq]; exact g.ok
        rcases fit_fold (i := i + 1) ((objW h e.1).zip (objW k e.2)) g (by omega) with ⟨P', h1, h2, h3⟩ | ⟨h1, h2⟩
        · rw [h1]
          exact loop_same n (i + 1) (by omega) h2
        · rw [h1]
          exact loop_bad n (i + 1) (by omega) (hP.fold _) h2
theorem alike_same (h k : PHeap) (a b : List Wd) : alikeP h k a b = alikeR h k a b := by
  unfold alikeP alikeR
  by_cases hab : a.length = b.length
  · rw [decide_eq_true hab, Bool.true_and, Bool.true_and]
    have g : GoodP h k ([], false) [] := ⟨rfl, rfl, PairsOk.nil h k, fun e he => by cases he⟩
    rcases fit_fold (i := 0) (a.zip b) g (Nat.le_refl _) with ⟨P', h1, h2, _⟩ | ⟨h1, h2⟩
    · rw [h1]
      exact loop_same _ 0 (by omega) h2
    · rw [h1]
      exact loop_bad _ 0 (by omega) ((PairsOk.nil h k).fold _) h2
  · rw [decide_eq_false hab, Bool.false_and, Bool.false_and]
end Go.Proofs.Ytoldkemimhebaaa

set_option linter.unusedSimpArgs false
set_option linter.unusedVariables false
namespace Go.Proofs.Ytoldkemimhebaaa
open Go Go.IM
end Go.Proofs.Ytoldkemimhebaaa

set_option linter.unusedSimpArgs false
set_option linter.unusedVariables false
namespace Go.Proofs.Ytoldkemimhebaaa
open Go Go.IM
def c101 : IFn := ⟨13, [(2, none)],
  (.seq (.region [oa 2 (.mov (.c (.bool false)))] (kp 13 [0]))
  (.seq (.region [oa 3 (.mov (.t 0)), oa 4 (.eql false .ptr (.t 3) (.c (.ptr none))), oa 5 (.mov (.t 4)), oc 6 (.mov (.t 0)) 5 ff, oc 7 (.nilCheck (.t 6)) 5 ff, oc 8 (.fieldAddr 1 (.t 7)) 5 ff, oc 9 (.load none (.t 8)) 5 ff, oc 10 (.lenSlice (.t 9)) 5 ff, oc 11 (.bin .eql (.t 10) (ai 0)) 5 ff, oa 12 (.pick (.t 5) (.c (.bool true)) (.t 11)), oa 2 (.mov (.t 12))] (kp 13 [2]))
  (sr 13 [2])))⟩
theorem F101 : shutF Try.prog 101 = some c101 := by kernel_rfl
section
variable {o : Nat → Option O} {s : St} {C F : Ch} {Q : V → St → Prop} {p q : Nat}
set_option maxRecDepth 10000
set_option maxHeartbeats 4000000
theorem s101 (hC : Holds o s C) {hr : RHeap} {p : Nat} (hin : RIn C p hr) (h0 : hr.regs ≠ []) : call PF 101 [ptrN hr.id] s = some (.bool false, s) := by
  have f := hC.mem hin.id
  simp only [RHeap.hd] at f
  have h1 : ((hr.regs.length : Int) == 0) = false := by
    rw [beq_eq_false_iff_ne]
    have := List.length_pos_iff.2 h0
    omega
  rw [call_run F101]; simp -implicitDefEqProofs only [↓GP, GB, GL, Nat.reduceAdd, Nat.reduceSub, Nat.reduceEqDiff, Nat.reduceMul, Nat.reduceLeDiff, Int.reduceBNe, Int.reduceBEq, Nat.reduceLT, reduceCtorEq, c101, f, hr.rv_len, h1]
structure RLook (C : Ch) (p : Nat) (hr : RHeap) : Prop where
  rin : RIn C p hr
  ne : hr.regs ≠ []
  len : hr.regs.length ≤ 100000
  objs : ∀ g ∈ hr.regs, g.objs.length ≤ 100000
  ws : ∀ g ∈ hr.regs, ∀ x ∈ g.objs, 1 ≤ x.b.ws.length ∧ x.b.ws.length ≤ 31
theorem RLook.cons {hr : RHeap} (h : RLook C p hr) (x : Nat × Option O) : RLook (x :: C) p hr := ⟨h.rin.cons x, h.ne, h.len, h.objs, h.ws⟩
theorem RLook.mono {D : Ch} {hr : RHeap} (h : RLook C p hr) (hs : ∀ x ∈ C, x ∈ D) : RLook D p hr := ⟨h.rin.mono hs, h.ne, h.len, h.objs, h.ws⟩
theorem rfind_neg {N L : Int} (hL : ¬ 1 ≤ L) : ∀ (rs : List RReg) (i : Nat), rfind N L rs i = none
  | [], _ => rfl
  | g :: rs, i => by unfold rfind; rw [if_neg (fun h => hL h.2)]; exact rfind_neg hL rs (i + 1)
end
end Go.Proofs.Ytoldkemimhebaaa

set_option linter.unusedSimpArgs false
set_option linter.unusedVariables false
namespace Go.Proofs.Ytoldkemimhebaaa
open Go Go.IM
section
variable {o : Nat → Option O} {s : St} {C F : Ch} {Q : V → St → Prop} {p q : Nat}
set_option maxRecDepth 10000
set_option maxHeartbeats 4000000
end
end Go.Proofs.Ytoldkemimhebaaa