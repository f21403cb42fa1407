/- Layer 15: PageNils: heaps that are nil, or dropped. -/
import Derived.Test.YtoldkemimhebaaaPg9
set_option linter.unusedSimpArgs false
set_option linter.unusedVariables false
namespace Go.Proofs.Ytoldkemimhebaaa
open Go Go.IM

-- virgate/virgatelaw15.PageNils
def l6_0 : IC := (.seq (.seq (.seq (.region [oa 46 (.mov (.t 11)), oa 47 (.mov (.t 0)), oa 48 (.lenSlice (.t 47)), oa 49 (.bin .lss (.t 46) (.t 48))] (kp 97 [0,5,10,11,49]))
  (.cond (.t 49)
  (sk 97 [0,5,10,11])
  (sx 97 [5] 0)))
  (.seq (.block 1
  (.seq (.region [oa 52 (.mov (.t 10)), oa 53 (.mov (.t 0)), oa 54 (.mov (.t 11)), oa 55 (.indexAddr 11 (.t 53) (.t 54)), oa 56 (.load (some 11) (.t 55)), oa 57 (.call 26 [(.t 52), (.t 56)]), oa 58 (.un .not (.t 57))] (kp 97 [0,5,10,11,58]))
  (.cond (.t 58)
  (.seq (.region [oa 4 (.mov (.c (.bool false)))] (kp 97 [4]))
  (sr 97 [4]))
  (sk 97 [0,5,10,11]))))
  (.region [oa 50 (.mov (.t 11)), oa 51 (.bin .add (.t 50) (ai 1)), oa 11 (.mov (.t 51))] (kp 97 [0,5,10,11]))))
  (sk 97 [0,5,10,11]))
def j6_bbbbbb : IC := (.seq (.region [oa 60 (.mov (.t 5)), oa 61 (.call 28 [(.t 60), (ai 0)]), oa 59 (.mov (.t 61)), oa 62 (.extract (.t 59) 0), oa 63 (.extract (.t 59) 1), oa 12 (.mov (.t 62)), oa 13 (.mov (.t 63))] (kp 97 [5,13]))
  (.seq (.region [oa 65 (.mov (.t 5)), oa 66 (.call 29 [(.t 65), (ai 0)]), oa 64 (.mov (.t 66)), oa 67 (.extract (.t 64) 0), oa 68 (.extract (.t 64) 1), oa 14 (.mov (.t 67)), oa 15 (.mov (.t 68))] (kp 97 [5,13,15]))
  (.seq (.region [oa 70 (.mov (.t 5)), oa 71 (.call 35 [(.t 70), (ai 0)]), oa 69 (.mov (.t 71)), oa 72 (.extract (.t 69) 0), oa 73 (.extract (.t 69) 1), oa 16 (.mov (.t 72)), oa 17 (.mov (.t 73))] (kp 97 [5,13,15,17]))
  (.seq (.region [oa 74 (.mov (.t 13)), oa 75 (.bin .eql (.t 74) (ai 6)), oa 76 (.mov (.t 75)), oc 77 (.mov (.t 15)) 76 tt, oc 78 (.bin .eql (.t 77) (ai 6)) 76 tt, oa 79 (.pick (.t 76) (.t 78) (.c (.bool false))), oa 80 (.mov (.t 79)), oc 81 (.mov (.t 17)) 80 tt, oc 82 (.bin .eql (.t 81) (ai 6)) 80 tt, oa 83 (.pick (.t 80) (.t 82) (.c (.bool false))), oa 84 (.mov (.t 83)), oc 85 (.mov (.t 5)) 84 tt, oc 86 (.call 27 [(.t 85)]) 84 tt, oc 87 (.bin .eql (.t 86) (ai 0)) 84 tt, oa 88 (.pick (.t 84) (.t 87) (.c (.bool false))), oa 89 (.mov (.t 88)), oc 90 (.mov (.t 5)) 89 tt, oc 91 (.call 36 [(.t 90)]) 89 tt, oc 92 (.bin .eql (.t 91) (ai 0)) 89 tt, oa 93 (.pick (.t 89) (.t 92) (.c (.bool false))), oa 94 (.mov (.t 93)), oc 95 (.call 23 []) 94 tt, oa 96 (.pick (.t 94) (.t 95) (.c (.bool false))), oa 4 (.mov (.t 96))] (kp 97 [4]))
  (sr 97 [4])))))
def c6 : IFn := ⟨97, [(4, none)],
  (.seq (.region [oa 4 (.mov (.c (.bool false)))] (kp 97 [0,1]))
  (.seq (.seq (.region [oa 18 (.mov (.t 0)), oa 19 (.call 24 [(.t 18)])] (kp 97 [0,1,19]))
  (.cond (.t 19)
  (.seq (.region [oa 20 (.call 23 []), oa 4 (.mov (.t 20))] (kp 97 [4]))
  (sr 97 [4]))
  (sk 97 [0,1])))
  (.seq (.region [oa 5 (.mov (.c (.ptr none)))] (kp 97 [0,1,5]))
  (.seq (.seq (.region [oa 21 (.mov (.t 1))] (kp 97 [0,5,21]))
  (.cond (.t 21)
  (.seq (.region [oa 23 (.call 25 [(ai 4), (ai 1)]), oa 22 (.mov (.t 23)), oa 24 (.extract (.t 22) 0), oa 25 (.extract (.t 22) 1), oa 26 (.extract (.t 22) 2), oa 27 (.extract (.t 22) 3), oa 6 (.mov (.t 24)), oa 7 (.mov (.t 25)), oa 8 (.mov (.t 26)), oa 9 (.mov (.t 27))] (kp 97 [0,6,7,9]))
  (.seq (.seq (.region [oa 28 (.mov (.t 9)), oa 29 (.un .not (.t 28))] (kp 97 [0,6,7,29]))
  (.cond (.t 29)
  (.seq (.region [oa 4 (.mov (.c (.bool false)))] (kp 97 [4]))
  (sr 97 [4]))
  (sk 97 [0,6,7])))
  (.seq (.region [oa 30 (.mov (.t 6)), oa 31 (.indexAddr 1 (.t 30) (ai 0)), oa 32 (.load none (.t 31)), oa 33 (.nilCheck (.t 32)), oa 34 (.fieldAddr 0 (.t 33)), oa 35 (.load none (.t 34)), oa 5 (.mov (.t 35))] (kp 97 [0,5,7]))
  (.seq (.region [oa 36 (.mov (.t 5)), oa 37 (.call 34 [(.t 36), (ai 0), (ai 1), (ai 30)])] (kp 97 [0,5,7]))
  (.seq (.region [oa 38 (.mov (.t 5)), oa 39 (.call 33 [(.t 38)])] (kp 97 [0,5,7]))
  (.seq (.region [oa 40 (.mov (.t 7)), oa 41 (.call 19 [(.t 40)]), oa 42 (.bin .neq (.t 41) (ai 4))] (kp 97 [0,5,42]))
  (.cond (.t 42)
  (.seq (.region [oa 4 (.mov (.c (.bool false)))] (kp 97 [4]))
  (sr 97 [4]))
  (sk 97 [0,5]))))))))
  (sk 97 [0,5])))
  (.seq (.region [oa 43 (.mov (.t 5)), oa 44 (.build [(.ptr none), (.ptr none), (.slice none 0 (some 0))] [(0, 1, (.t 43))]), oa 45 (.box (.t 44)), oa 10 (.mov (.t 45))] (kp 97 [0,5,10]))
  (.seq (.seq (.region [oa 11 (.mov (ai 0))] (kp 97 [0,5,10,11]))
  (.block 0
  (.seq (sk 97 [0,5,10,11])
  (.loop l6_0))))
  j6_bbbbbb))))))⟩
theorem F6 : shutF Try.prog 6 = some c6 := by kernel_rfl


section
variable {o : Nat → Option O} {s : St} {C F : Ch} {Q : V → St → Prop} {p r q t : Nat} {u : List Bool} {others : List Nat} {G : PairG}
set_option maxRecDepth 10000
set_option maxHeartbeats 4000000

/-- Storing, on the program's side alone. -/
theorem p_store (h : PairOk u [] G) (H : Holds o s (World p r q t u G F))
    (k : ∀ s' u' hp', hp'.id = G.hp.id → u'.length = u.length → hp'.regs ≠ [] → hp'.regs.length = G.hp.regs.length → PoolInv u' ((hp'.regs.map PReg.m).flatMap (·.pages)) → Holds o s' (poolC p r u' ++ (PHeap.ch p hp' ++ F)) → ∀ v, Q v s') : WP (call PF 34 [ptrN G.hp.id, I 0, I 1, I 30] s) Q := by
  obtain ⟨A, g, B, A', g', B', e1, e2, l1, l2, hm, hA, hB⟩ := h.at_ (i := 0) (List.length_pos_iff.2 h.pne)
  have hg : G.hp.regs[0]? = some g := by rw [e1, List.length_eq_zero_iff.1 l1]; rfl
  have mg : g ∈ G.hp.regs := by rw [e1]; simp
  have ok := h.okp mg
  have hop := h.pol mg
  have hpl := h.plen
  have hu := h.ulen
  have hpool : PoolInv u ((G.hp.regs.map PReg.m).flatMap (·.pages)) := by have := h.pool; rwa [List.append_nil] at this
  have hin := World.in_ (p := p) (r := r) (q := q) (t := t) (u := u) (G := G) (F := F)
  by_cases hbs : BadStore g 1 30
  · refine s34_bad H hin.id hin.row (by omega) hg (hin.hd mg) hbs fun s1 h2 => ?_
    exact k s1 u G.hp rfl rfl h.pne rfl hpool (Holds.of (h2) (fun k => by simp +arith only [HA, HB]) (fun k x => by simp only [HA, HC]; grind only)) _
  · have hgs : GoodStore g 1 30 := by
      unfold BadStore at hbs
      refine ⟨by omega, by omega, by omega, by omega, fun hs => ⟨by omega, ?_⟩⟩
      rcases Classical.em (g.objs = []) with h | h
      · exact h
      · exact absurd (.inr (.inr ⟨hs, .inr h⟩)) hbs
    cases hput : putM u g.size g.life g.fill g.pages (30 + 1) with
    | none =>
      have h34 := fun Q' => s34_full (o := o) (s := s) (Q := Q') (hp := G.hp) (p := p) (r := r) (u := u) (A := A) (B := B) (g := g) (F := poolC q t u ++ (G.pc ++ (G.hr.ch q ++ F))) (Holds.of (H) (fun k => by simp +arith only [HA, HB]) (fun k x => by simp only [HA, HC]; grind only)) e1 hpl (by omega) ok.1 hgs hput
      rw [l1] at h34
      refine h34 _ fun s1 h2 => ?_
      exact k s1 u G.hp rfl rfl h.pne rfl hpool (Holds.of (h2) (fun k => by simp +arith only [HA, HB]) (fun k x => by simp only [HA, HC]; grind only)) _
    | some res =>
      obtain ⟨at_, u', fill, pages⟩ := res
      obtain ⟨hri, hpool', hfresh⟩ := (h.inv.reg g.m (List.mem_map.2 ⟨g, mg, rfl⟩)).put (h.pool1 e1) (kind := 1) (n := 30) (by omega) ⟨by omega, by omega⟩ (fun hs => by have := (hgs.2.2.2.2 hs).2; simp [PReg.m, this]) hput (List.replicate 30 (0, 0)) (by simp)
      have hf : ∀ y ∈ g.objs, y.b.at_ ≠ at_ := fun y hy => hfresh y.b (List.mem_map.2 ⟨y, hy, rfl⟩)
      have h34 := fun Q' => s34 (o := o) (s := s) (Q := Q') (hp := G.hp) (p := p) (r := r) (u := u) (A := A) (B := B) (g := g) (F := poolC q t u ++ (G.pc ++ (G.hr.ch q ++ F))) (Holds.of (H) (fun k => by simp +arith only [HA, HB]) (fun k x => by simp only [HA, HC]; grind only)) e1 hpl (by omega) ok.1 (h.pok g mg) (by omega) hgs hput hf
      rw [l1] at h34
      refine h34 _ fun s1 pgk obk pl xid wid okp h2 => ?_
      generalize hgd : (({ g with pgk := pgk, pages := pages, fill := fill } : PReg).lay obk pl ⟨xid, wid, ⟨at_, 1, List.replicate 30 (0, 0)⟩⟩) = g1 at okp h2
      have hp1 : g1.pages = pages := by rw [← hgd]; rfl
      refine k s1 u' { G.hp with regs := A ++ g1 :: B } rfl (putM_len hput) (by simp) (by simp [e1]) ?_ (Holds.of (h2) (fun k => by simp +arith only [HA, HB]) (fun k x => by simp only [HA, HC]; grind only)) _
      refine hpool'.perm ?_
      simp only [List.append_nil, List.map_append, List.map_cons, List.flatMap_append, List.flatMap_cons, List.append_assoc, PReg.m, hp1]
      exact List.perm_append_comm_assoc _ _ _

theorem nils_loop {id wk : Nat} {v hv rv : V} {ws : List (Int × Int)} {l : List (ActG × List Bool)} {K : Kt} (h : GoneP C id wk hv rv ws) (hA : ActsAt o v l) (hl : l.length ≤ 150) (q1 : ∀ s', Holds o s' C → WP (K (.exit 0) (sp 97 [(5, hv)]) s') Q) :
    ∀ (m i : Nat) (s : St), i + m = l.length → Holds o s C → WP (loop PF (.loop l6_0) (sp 97 [(0, v), (5, hv), (10, ptrN id), (11, I i)]) s K) Q
  | 0, i, s, hi, H => by
    have hlt : ¬ ((i : Int) < (l.length : Int)) := by omega
    refine wp_round fun LL hLL => ?_
    simp -implicitDefEqProofs only [↓GP, GB, GL, Nat.reduceAdd, Nat.reduceSub, Nat.reduceEqDiff, Nat.reduceMul, Nat.reduceLeDiff, Int.reduceBNe, Int.reduceBEq, Nat.reduceLT, reduceCtorEq, l6_0, hA.len, hlt]
    exact q1 s H
  | m + 1, i, s, hi, H => by
    have hlt : ((i : Int) < (l.length : Int)) := by omega
    have hi' : i < l.length := by omega
    obtain ⟨ad, a1, a2⟩ := hA.get i hi'
    have a3 := (a2 s H.old).1
    have mi := List.getElem_mem hi'
    have hw1 := wrap_add1 (a := i) (by omega)
    refine wp_round fun LL hLL => ?_
    simp -implicitDefEqProofs only [↓GP, GB, GL, Nat.reduceAdd, Nat.reduceSub, Nat.reduceEqDiff, Nat.reduceMul, Nat.reduceLeDiff, Int.reduceBNe, Int.reduceBEq, Nat.reduceLT, reduceCtorEq, l6_0, hA.len, hlt, a1, a3]
    refine wp_in (s26_gone (bs := l[i].2) l[i].1 (hA.d _ mi).1 (hA.some_ _ mi) h H fun s1 h1 => ?_)
    simp -implicitDefEqProofs only [↓GP, GB, GL, Nat.reduceAdd, Nat.reduceSub, Nat.reduceEqDiff, Nat.reduceMul, Nat.reduceLeDiff, Int.reduceBNe, Int.reduceBEq, Nat.reduceLT, reduceCtorEq, hw1]
    rw [hLL]
    exact nils_loop h hA hl q1 m (i + 1) s1 (by omega) h1

theorem longB_len {l : List (ActG × List Bool)} (h : longB l = false) : l.length ≤ 150 := by
  unfold longB at h
  rw [Bool.or_eq_false_iff] at h
  have := h.2
  simp at this; exact this
theorem H00 (hs : s.old = o) : Holds o s [] := ⟨hs, List.nodup_nil, (fun k x m => by cases m), (fun k m => by cases m)⟩
theorem im_true {f : Nat} {args : List V} (h : WP (call PF f args s) fun v' _ => v' = .bool true) : ∃ st, call PF f args s = some (.bool true, st) := by
  obtain ⟨v', st, e, rfl⟩ := h
  exact ⟨st, e⟩

/-- PageNils: it answers true. -/
theorem pageNils_im {v : V} {l : List (ActG × List Bool)} (hA : ActsAt o v l) (hll : l.length < 2 ^ 61) (b : Bool) (s : St) (hs : s.old = o) : ∃ st, call PF 6 [v, .bool b] s = some (.bool true, st) := by
  refine im_true ?_
  have e24 := s24 hs hA hll
  cases hlg : longB l with
  | true =>
    rw [hlg] at e24
    obtain ⟨t, ht, -⟩ := sane15 s
    rw [call_run F6]; simp -implicitDefEqProofs only [↓GP, GB, GL, Nat.reduceAdd, Nat.reduceSub, Nat.reduceEqDiff, Nat.reduceMul, Nat.reduceLeDiff, Int.reduceBNe, Int.reduceBEq, Nat.reduceLT, reduceCtorEq, c6, e24, ht]
  | false =>
    rw [hlg] at e24
    have hl := longB_len hlg
    rw [call_run F6]; simp -implicitDefEqProofs only [↓GP, GB, GL, Nat.reduceAdd, Nat.reduceSub, Nat.reduceEqDiff, Nat.reduceMul, Nat.reduceLeDiff, Int.reduceBNe, Int.reduceBEq, Nat.reduceLT, reduceCtorEq, c6, e24]
    have H0 := H00 hs
    have fin : ∀ {D : Ch} {id : Nat} {hv : V} (s1 : St), GoneP D id 0 hv (.ptr none) [] → Holds o s1 D → WP (loop PF (.loop l6_0) (sp 97 [(0, v), (5, hv), (10, ptrN id), (11, I 0)]) s1 (blockK 0 (seqK (loop PF) (call PF) j6_bbbbbb (finR [(4, none)])))) (fun v' _ => v' = .bool true) := by
      intro D id hv s1 h H
      refine nils_loop h hA hl (fun s2 h2 => ?_) l.length 0 s1 (by omega) H
      simp -implicitDefEqProofs only [↓GP, GB, GL, Nat.reduceAdd, Nat.reduceSub, Nat.reduceEqDiff, Nat.reduceMul, Nat.reduceLeDiff, Int.reduceBNe, Int.reduceBEq, Nat.reduceLT, reduceCtorEq, j6_bbbbbb]
      refine wp_in (s28_err (err := 6) h2 (.inl ⟨h.g, rfl⟩) h.v.1 h.v.2 fun s3 h3 => ?_)
      simp -implicitDefEqProofs only [↓GP, GB, GL, Nat.reduceAdd, Nat.reduceSub, Nat.reduceEqDiff, Nat.reduceMul, Nat.reduceLeDiff, Int.reduceBNe, Int.reduceBEq, Nat.reduceLT, reduceCtorEq]
      refine wp_in (s29_err (err := 6) h3 (.inl ⟨h.g, rfl⟩) h.v.1 h.v.2 fun s4 h4 => ?_)
      simp -implicitDefEqProofs only [↓GP, GB, GL, Nat.reduceAdd, Nat.reduceSub, Nat.reduceEqDiff, Nat.reduceMul, Nat.reduceLeDiff, Int.reduceBNe, Int.reduceBEq, Nat.reduceLT, reduceCtorEq]
      refine wp_in (s35_err (err := 6) h4 (.inl ⟨h.g, rfl⟩) h.v.1 h.v.2 fun s5 h5 => ?_)
      obtain ⟨t', ht', -⟩ := sane15 s5
      simp -implicitDefEqProofs only [↓GP, GB, GL, Nat.reduceAdd, Nat.reduceSub, Nat.reduceEqDiff, Nat.reduceMul, Nat.reduceLeDiff, Int.reduceBNe, Int.reduceBEq, Nat.reduceLT, reduceCtorEq, s27_gone h5 h.g, s36_gone h5 h.g, ht', Int.reduceBEq]
    cases b with
    | false =>
      simp -implicitDefEqProofs only [↓GP, GB, GL, Nat.reduceAdd, Nat.reduceSub, Nat.reduceEqDiff, Nat.reduceMul, Nat.reduceLeDiff, Int.reduceBNe, Int.reduceBEq, Nat.reduceLT, reduceCtorEq]
      have H1 := (H0.alloc (.cells [.ptr none, .ptr none, .slice none 0 (some 0)] none)).nilEntry 0
      exact fin _ ⟨.inl rfl, .inl rfl, List.mem_cons_of_mem _ (List.mem_cons_self ..), List.mem_cons_self ..⟩ H1
    | true =>
      simp -implicitDefEqProofs only [↓GP, GB, GL, Nat.reduceAdd, Nat.reduceSub, Nat.reduceEqDiff, Nat.reduceMul, Nat.reduceLeDiff, Int.reduceBNe, Int.reduceBEq, Nat.reduceLT, reduceCtorEq]
      refine wp_in (s25 (n := 4) (by omega) (by omega) H0 fun s1 p r q t G hk ok hws hlv h1 => ?_)
      have h2 : Holds o s1 (World p r q t (List.replicate 4 false) G ((hk, rowO 1 1 [ptrN G.id]) :: [])) := (Holds.of (h1) (fun k => by simp +arith only [HA, HB]) (fun k x => by simp only [HA, HC]; grind only))
      have fh := h2.mem (World.fr (List.mem_cons_self ..) : (hk, some (.cells [ptrN G.id] (some 1))) ∈ World p r q t (List.replicate 4 false) G ((hk, rowO 1 1 [ptrN G.id]) :: []))
      have fG := h2.mem World.id
      simp only [PairG.hd] at fG
      have hix := ix_row (sz := 1) (k := hk) (n := 1) (i := 0) (kk := .i64) (by omega)
      simp only [Int.natCast_zero, Nat.zero_mul] at hix
      have hpl := ok.plen
      simp -implicitDefEqProofs only [↓GP, GB, GL, Nat.reduceAdd, Nat.reduceSub, Nat.reduceEqDiff, Nat.reduceMul, Nat.reduceLeDiff, Int.reduceBNe, Int.reduceBEq, Nat.reduceLT, reduceCtorEq, hix, fh, fG]
      refine wp_in (p_store ok h2 fun s2 u2 hp2 e1 e2 e3 e4 hpool h3 v => ?_)
      have hu2 : u2.length = 4 := by rw [e2]; simp
      simp -implicitDefEqProofs only [↓GP, GB, GL, Nat.reduceAdd, Nat.reduceSub, Nat.reduceEqDiff, Nat.reduceMul, Nat.reduceLeDiff, Int.reduceBNe, Int.reduceBEq, Nat.reduceLT, reduceCtorEq]
      rw [← e1]
      refine wp_in (s33 h3 e3 (by omega) (by omega) (fun g hg => ?_) fun s3 h4 => ?_)
      · have hsub := sub_flatMap (fun r : Reg => r.pages) (List.mem_map.2 ⟨g, hg, rfl⟩ : g.m ∈ hp2.regs.map PReg.m)
        have := hpool.sub_len hsub
        exact ⟨fun x hx => hpool.lt (hsub.subset hx), by simp only [PReg.m] at this; omega⟩
      · have hin : PoolInv (freeAll u2 (hp2.regs.map (·.pages))) [] := freeAll_inv _ (by
          rw [List.flatMap_map] at hpool
          rw [List.flatMap_map]; exact hpool)
        have e19 := s19 (poolAt h4) (by rw [freeAll_len]; omega)
        have hc := free_count hin
        rw [freeAll_len, hu2] at hc
        simp only [List.length_nil, Nat.add_zero] at hc
        rw [hc] at e19
        simp -implicitDefEqProofs only [↓GP, GB, GL, Nat.reduceAdd, Nat.reduceSub, Nat.reduceEqDiff, Nat.reduceMul, Nat.reduceLeDiff, Int.reduceBNe, Int.reduceBEq, Nat.reduceLT, reduceCtorEq, e19, Int.cast_ofNat_Int, Int.reduceBNe]
        have H5 := (h4.alloc (.cells [ptrN hp2.id, .ptr none, .slice none 0 (some 0)] none)).nilEntry 0
        exact fin _ ⟨.inr ⟨hp2.id, _, _, rfl, List.mem_cons_of_mem _ (List.mem_cons_of_mem _ (List.mem_append_right _ (List.mem_cons_self ..)))⟩, .inl rfl, List.mem_cons_of_mem _ (List.mem_cons_self ..), List.mem_cons_self ..⟩ H5
end
end Go.Proofs.Ytoldkemimhebaaa
