/- PageFree, on the ideal machine. -/
import Derived.Test.YtoldkemimhebaaaPg2
set_option linter.unusedSimpArgs false
set_option linter.unusedVariables false
namespace Go.Proofs.Ytoldkemimhebaaa
open Go Go.IM

-- virgate/virgatelaw15.PageFree
def l5_0 : IC := (.seq (.seq (.seq (.region [oa 33 (.mov (.t 10)), oa 34 (.mov (.t 0)), oa 35 (.lenSlice (.t 34)), oa 36 (.bin .lss (.t 33) (.t 35))] (kp 112 [0,1,5,6,9,10,36]))
  (.cond (.t 36)
  (sk 112 [0,1,5,6,9,10])
  (sx 112 [1,6,9] 0)))
  (.seq (.block 1
  (.region [oa 39 (.mov (.t 5)), oa 40 (.indexAddr 1 (.t 39) (ai 0)), oa 41 (.load none (.t 40)), oa 42 (.mov (.t 0)), oa 43 (.mov (.t 10)), oa 44 (.indexAddr 11 (.t 42) (.t 43)), oa 45 (.load (some 11) (.t 44)), oa 46 (.call 26 [(.t 41), (.t 45)])] (kp 112 [0,1,5,6,9,10])))
  (.region [oa 37 (.mov (.t 10)), oa 38 (.bin .add (.t 37) (ai 1)), oa 10 (.mov (.t 38))] (kp 112 [0,1,5,6,9,10]))))
  (sk 112 [0,1,5,6,9,10]))
def l5_1 : IC := (.seq (.seq (.seq (.region [oa 47 (.mov (.t 9)), oa 48 (.call 27 [(.t 47)]), oa 49 (.bin .gtr (.t 48) (ai 1))] (kp 112 [1,6,9,49]))
  (.cond (.t 49)
  (sk 112 [1,6,9])
  (sx 112 [6,9] 2)))
  (.block 3
  (.seq (.region [oa 50 (.mov (.t 9)), oa 51 (.call 27 [(.t 50)]), oa 52 (.bin .sub (.t 51) (ai 1)), oa 11 (.mov (.t 52))] (kp 112 [1,6,9,11]))
  (.seq (.region [oa 54 (.mov (.t 9)), oa 55 (.mov (.t 11)), oa 56 (.call 29 [(.t 54), (.t 55)]), oa 53 (.mov (.t 56)), oa 57 (.extract (.t 53) 0), oa 58 (.extract (.t 53) 1), oa 12 (.mov (.t 57)), oa 13 (.mov (.t 58))] (kp 112 [1,6,9,11,12,13]))
  (.seq (.region [oa 59 (.mov (.t 6)), oa 60 (.call 19 [(.t 59)]), oa 14 (.mov (.t 60))] (kp 112 [1,6,9,11,12,13,14]))
  (.seq (.seq (.region [oa 61 (.mov (.t 13)), oa 62 (.bin .neq (.t 61) (ai 0))] (kp 112 [1,6,9,11,12,14,62]))
  (.cond (.t 62)
  (.seq (.region [oa 4 (.mov (.c (.bool false)))] (kp 112 [4]))
  (sr 112 [4]))
  (sk 112 [1,6,9,11,12,14])))
  (.seq (.seq (.region [oa 63 (.mov (.t 1))] (kp 112 [1,6,9,11,12,14,63]))
  (.cond (.t 63)
  (.seq (.region [oa 65 (.mov (.t 9)), oa 66 (.mov (.t 11)), oa 67 (.call 31 [(.t 65), (.t 66)]), oa 64 (.mov (.t 67)), oa 68 (.extract (.t 64) 0), oa 69 (.extract (.t 64) 1), oa 13 (.mov (.t 69))] (kp 112 [1,6,9,12,13,14]))
  (.seq (.seq (.region [oa 70 (.mov (.t 13)), oa 71 (.bin .neq (.t 70) (ai 0)), oa 72 (.mov (.t 71)), oc 73 (.mov (.t 6)) 72 ff, oc 74 (.call 19 [(.t 73)]) 72 ff, oc 75 (.mov (.t 14)) 72 ff, oc 76 (.mov (.t 12)) 72 ff, oc 77 (.lenSlice (.t 76)) 72 ff, oc 78 (.bin .add (.t 75) (.t 77)) 72 ff, oc 79 (.bin .neq (.t 74) (.t 78)) 72 ff, oa 80 (.pick (.t 72) (.c (.bool true)) (.t 79))] (kp 112 [1,6,9,80]))
  (.cond (.t 80)
  (.seq (.region [oa 4 (.mov (.c (.bool false)))] (kp 112 [4]))
  (sr 112 [4]))
  (sk 112 [1,6,9])))
  (.seq (.region [oa 12 (.mov (.c (.slice none 0 (some 0))))] (kp 112 [1,6,9,12]))
  (.region [oa 81 (.mov (.t 6)), oa 82 (.call 19 [(.t 81)]), oa 14 (.mov (.t 82))] (kp 112 [1,6,9,12,14])))))
  (sk 112 [1,6,9,12,14])))
  (.seq (.region [oa 84 (.mov (.t 9)), oa 85 (.call 32 [(.t 84)]), oa 83 (.mov (.t 85)), oa 86 (.extract (.t 83) 0), oa 87 (.extract (.t 83) 1), oa 15 (.mov (.t 86)), oa 13 (.mov (.t 87))] (kp 112 [1,6,9,12,13,14,15]))
  (.seq (.region [oa 88 (.mov (.t 13)), oa 89 (.bin .neq (.t 88) (ai 0)), oa 90 (.mov (.t 89)), oc 91 (.mov (.t 15)) 90 ff, oc 92 (.mov (.t 12)) 90 ff, oc 93 (.lenSlice (.t 92)) 90 ff, oc 94 (.bin .neq (.t 91) (.t 93)) 90 ff, oa 95 (.pick (.t 90) (.c (.bool true)) (.t 94)), oa 96 (.mov (.t 95)), oc 97 (.mov (.t 6)) 96 ff, oc 98 (.call 19 [(.t 97)]) 96 ff, oc 99 (.mov (.t 14)) 96 ff, oc 100 (.mov (.t 15)) 96 ff, oc 101 (.bin .add (.t 99) (.t 100)) 96 ff, oc 102 (.bin .neq (.t 98) (.t 101)) 96 ff, oa 103 (.pick (.t 96) (.c (.bool true)) (.t 102))] (kp 112 [1,6,9,103]))
  (.cond (.t 103)
  (.seq (.region [oa 4 (.mov (.c (.bool false)))] (kp 112 [4]))
  (sr 112 [4]))
  (sk 112 [1,6,9])))))))))))
  (sk 112 [1,6,9]))
def c5 : IFn := ⟨112, [(4, none)],
  (.seq (.region [oa 4 (.mov (.c (.bool false)))] (kp 112 [0,1]))
  (.seq (.seq (.region [oa 16 (.mov (.t 0)), oa 17 (.call 24 [(.t 16)])] (kp 112 [0,1,17]))
  (.cond (.t 17)
  (.seq (.region [oa 18 (.call 23 []), oa 4 (.mov (.t 18))] (kp 112 [4]))
  (sr 112 [4]))
  (sk 112 [0,1])))
  (.seq (.region [oa 20 (.call 25 [(ai 12), (ai 1)]), oa 19 (.mov (.t 20)), oa 21 (.extract (.t 19) 0), oa 22 (.extract (.t 19) 1), oa 23 (.extract (.t 19) 2), oa 24 (.extract (.t 19) 3), oa 5 (.mov (.t 21)), oa 6 (.mov (.t 22)), oa 7 (.mov (.t 23)), oa 8 (.mov (.t 24))] (kp 112 [0,1,5,6,8]))
  (.seq (.seq (.region [oa 25 (.mov (.t 8)), oa 26 (.un .not (.t 25))] (kp 112 [0,1,5,6,26]))
  (.cond (.t 26)
  (.seq (.region [oa 4 (.mov (.c (.bool false)))] (kp 112 [4]))
  (sr 112 [4]))
  (sk 112 [0,1,5,6])))
  (.seq (.region [oa 27 (.mov (.t 5)), oa 28 (.indexAddr 1 (.t 27) (ai 0)), oa 29 (.load none (.t 28)), oa 30 (.nilCheck (.t 29)), oa 31 (.fieldAddr 0 (.t 30)), oa 32 (.load none (.t 31)), oa 9 (.mov (.t 32))] (kp 112 [0,1,5,6,9]))
  (.seq (.seq (.region [oa 10 (.mov (ai 0))] (kp 112 [0,1,5,6,9,10]))
  (.block 0
  (.seq (sk 112 [0,1,5,6,9,10])
  (.loop l5_0))))
  (.seq (.block 2
  (.seq (sk 112 [1,6,9])
  (.loop l5_1)))
  (.seq (.region [oa 104 (.mov (.t 9)), oa 105 (.call 33 [(.t 104)])] (kp 112 [6]))
  (.seq (.region [oa 106 (.mov (.t 6)), oa 107 (.call 21 [(.t 106)]), oa 108 (.bin .eql (.t 107) (ai 0)), oa 109 (.mov (.t 108)), oc 110 (.call 23 []) 109 tt, oa 111 (.pick (.t 109) (.t 110) (.c (.bool false))), oa 4 (.mov (.t 111))] (kp 112 [4]))
  (sr 112 [4]))))))))))⟩
theorem F5 : shutF Try.prog 5 = some c5 := by kernel_rfl


section
variable {o : Nat → Option O} {s : St} {C F : Ch} {Q : V → St → Prop} {p r q t : Nat} {u : List Bool} {others : List Nat} {G : PairG}
set_option maxRecDepth 10000
set_option maxHeartbeats 4000000

theorem acts_free {hk : Nat} {v v1 v6 v9 : V} {l : List (ActG × List Bool)} {K : Kt} (hA : ActsAt o v l) (hl : l.length ≤ 150) :
    ∀ (m i : Nat) (s : St) (u : List Bool) (G : PairG), i + m = l.length → PairOk u others G → G.ws.length ≤ 1000 * i → Holds o s (World p r q t u G ((hk, rowO 1 1 [ptrN G.id]) :: F)) →
    (∀ s' u' G', PairOk u' others G' → G'.id = G.id → G'.hp.id = G.hp.id → u'.length = u.length → G'.hp.lives ≤ G.hp.lives + m → Holds o s' (World p r q t u' G' ((hk, rowO 1 1 [ptrN G.id]) :: F)) → WP (K (.exit 0) (sp 112 [(1, v1), (6, v6), (9, v9)]) s') Q) →
    WP (loop PF (.loop l5_0) (sp 112 [(0, v), (1, v1), (5, rowV hk 1), (6, v6), (9, v9), (10, I i)]) s K) Q
  | 0, i, s, u, G, hi, h, hw, H, k => by
    have hlt : ¬ ((i : Int) < (l.length : Int)) := by omega
    refine wp_round fun LL hLL => ?_
    simp -implicitDefEqProofs only [↓GP, GB, GL, Nat.reduceAdd, Nat.reduceSub, Nat.reduceEqDiff, Nat.reduceMul, Nat.reduceLeDiff, Int.reduceBNe, Int.reduceBEq, Nat.reduceLT, reduceCtorEq, l5_0, hA.len, hlt]
    exact k s u G h rfl rfl rfl (by omega) H
  | m + 1, i, s, u, G, hi, h, hw, H, k => by
    have hlt : ((i : Int) < (l.length : Int)) := by omega
    have hi' : i < l.length := by omega
    obtain ⟨ad, a1, a2⟩ := hA.get i hi'
    have a3 := (a2 s H.old).1
    have mi := List.getElem_mem hi'
    have fh := H.mem (World.fr (List.mem_cons_self ..) : (hk, some (.cells [ptrN G.id] (some 1))) ∈ World p r q t u G ((hk, rowO 1 1 [ptrN G.id]) :: F))
    have hix := ix_row (sz := 1) (k := hk) (n := 1) (i := 0) (kk := .i64) (by omega)
    have hw1 := wrap_add1 (a := i) (by omega)
    simp only [Int.natCast_zero, Nat.zero_mul] at hix
    refine wp_round fun LL hLL => ?_
    simp -implicitDefEqProofs only [↓GP, GB, GL, Nat.reduceAdd, Nat.reduceSub, Nat.reduceEqDiff, Nat.reduceMul, Nat.reduceLeDiff, Int.reduceBNe, Int.reduceBEq, Nat.reduceLT, reduceCtorEq, l5_0, hA.len, hlt, hix, fh, a1, a3]
    refine wp_in (s26 (bs := l[i].2) l[i].1 (hA.d _ mi).1 (hA.some_ _ mi) h (by omega) H fun s1 u1 G1 n1 h1 => ?_)
    simp -implicitDefEqProofs only [↓GP, GB, GL, Nat.reduceAdd, Nat.reduceSub, Nat.reduceEqDiff, Nat.reduceMul, Nat.reduceLeDiff, Int.reduceBNe, Int.reduceBEq, Nat.reduceLT, reduceCtorEq, hw1]
    rw [hLL]
    refine acts_free hA hl m (i + 1) s1 u1 G1 (by omega) n1.ok (by have := n1.ws; omega) (by rw [n1.id]; exact h1) fun s2 u2 G2 ok2 e1 e2 e3 e4 h2 => k s2 u2 G2 ok2 (e1.trans n1.id) (e2.trans n1.pid) (e3.trans n1.ul) (by have := n1.lv; omega) (by rw [← n1.id]; exact h2)

/-- The program's heap alone. -/
structure POk (u : List Bool) (hp : PHeap) : Prop where
  ulen : u.length ≤ 30
  inv : HInv hp.lives (hp.regs.map PReg.m)
  pool : PoolInv u ((hp.regs.map PReg.m).flatMap (·.pages))
  pok : ∀ g ∈ hp.regs, g.ok
theorem PairOk.toP (h : PairOk u [] G) : POk u G.hp := ⟨h.ulen, h.inv, by have := h.pool; rwa [List.append_nil] at this, h.pok⟩
theorem POk.g {hp : PHeap} (h : POk u hp) {g : PReg} (hg : g ∈ hp.regs) : (∀ x ∈ g.pages, x < u.length) ∧ g.pages.length ≤ 30 := by
  have hr : g.m ∈ hp.regs.map PReg.m := List.mem_map.2 ⟨g, hg, rfl⟩
  have hs := sub_flatMap (fun r : Reg => r.pages) hr
  have := h.pool.sub_len hs
  have := h.ulen
  exact ⟨fun x hx => h.pool.lt (hs.subset hx), by simp only [PReg.m] at *; omega⟩
theorem POk.ne {hp : PHeap} (h : POk u hp) : hp.regs ≠ [] := fun e => h.inv.ne (by rw [e]; rfl)
theorem POk.len {hp : PHeap} (h : POk u hp) : hp.regs.length ≤ 100000 := by have h1 := h.inv.len; have h2 := h.inv.lives; rw [List.length_map] at h1; omega
theorem POk.last {hp : PHeap} (h : POk u hp) {A : List PReg} {g : PReg} (e : hp.regs = A ++ [g]) : PoolInv u (g.pages ++ (A.map PReg.m).flatMap (·.pages)) := by
  have := h.pool
  rw [e] at this
  refine this.perm ?_
  simp only [List.map_append, List.map_cons, List.map_nil, List.flatMap_append, List.flatMap_cons, List.flatMap_nil, List.append_nil]
  exact List.perm_append_comm
theorem POk.pop {hp : PHeap} (h : POk u hp) {A : List PReg} {g : PReg} (e : hp.regs = A ++ [g]) (h0 : A ≠ []) (sl : List V) : POk (freeP u g.pages) { hp with regs := A, sl := sl } where
  ulen := by rw [freeP_len]; exact h.ulen
  inv := by
    have hi := h.inv
    rw [e] at hi
    simp only [List.map_append, List.map_cons, List.map_nil] at hi
    refine ⟨hi.lives, by simpa using h0, by have := hi.len; simp at this ⊢; omega, ?_, fun r hr => hi.life r (List.mem_append_left _ hr), fun r hr => hi.reg r (List.mem_append_left _ hr)⟩
    have := hi.nodup
    rw [List.map_append, List.nodup_append] at this
    exact this.1
  pool := (h.last e).free
  pok := fun x hx => h.pok x (by rw [e]; exact List.mem_append_left _ hx)
theorem POk.reset {hp : PHeap} (h : POk u hp) {A : List PReg} {g : PReg} {k : Nat} (e : hp.regs = A ++ [g]) (hl : hp.lives < 100000) :
    POk (freeP u g.pages) { hp with lives := hp.lives + 1, regs := A ++ { g with life := hp.lives + 1, fill := 0, pages := [], objs := [], plk := k, pl := .map [] 0 } :: [] } where
  ulen := by rw [freeP_len]; exact h.ulen
  inv := by
    have hi := h.inv
    rw [e] at hi
    simp only [List.map_append, List.map_cons, List.map_nil] at hi
    refine ⟨by simp only; omega, by simp, by have := hi.len; simp at this ⊢; omega, ?_, ?_, ?_⟩
    · have hn := hi.nodup
      simp only [List.map_append, List.map_cons, List.map_nil, List.nodup_append] at hn ⊢
      refine ⟨hn.1, by simp, fun x hx y hy => ?_⟩
      obtain ⟨r, hr, rfl⟩ := List.mem_map.1 hx
      have := (hi.life r (List.mem_append_left _ hr)).2
      simp [PReg.m] at hy
      omega
    · intro r hr
      simp only [List.map_append, List.map_cons, List.map_nil, List.mem_append, List.mem_cons, List.not_mem_nil, or_false] at hr
      rcases hr with hr | rfl
      · have := hi.life r (List.mem_append_left _ hr); simp only; omega
      · simp only [PReg.m]; omega
    · intro r hr
      simp only [List.map_append, List.map_cons, List.map_nil, List.mem_append, List.mem_cons, List.not_mem_nil, or_false] at hr
      rcases hr with hr | rfl
      · exact hi.reg r (List.mem_append_left _ hr)
      · have := (hi.reg g.m (by simp)).size
        exact ⟨this, by simp [PReg.m], fun _ => by simp [PReg.m], fun _ => Packed.nil⟩
  pool := by
    have := (h.last e).free
    simpa [PReg.m] using this
  pok := by
    intro x hx
    simp only [List.mem_append, List.mem_cons, List.not_mem_nil, or_false] at hx
    rcases hx with hx | rfl
    · exact h.pok x (by rw [e]; simp [hx])
    · exact mapIs_nil
theorem freeP_nil (u : List Bool) : freeP u [] = u := rfl
theorem free_count {a : List Nat} (h : PoolInv u a) : u.count false + a.length = u.length := by
  have := h.count; have := count_both u; omega
theorem poolAt (H : Holds o s (poolC p r u ++ F)) : PoolAt s p r u := by
  have f := Holds.f2 H
  exact ⟨f.1.1, f.2.1.1⟩

/-- Closing, until one region is left. -/
theorem close_loop {hid : Nat} {b : Bool}  {K : Kt} : ∀ (d : Nat) (s : St) (u : List Bool) (hp : PHeap), hp.regs.length = d + 1 → hp.id = hid → POk u hp → hp.lives + hp.regs.length ≤ 100000 → Holds o s (poolC p r u ++ (hp.ch p ++ F)) →
    (∀ s' u' hp', POk u' hp' → hp'.id = hid → Holds o s' (poolC p r u' ++ (hp'.ch p ++ F)) → WP (K (.exit 2) (sp 112 [(6, ptrN p), (9, ptrN hid)]) s') Q) →
    WP (loop PF (.loop l5_1) (sp 112 [(1, .bool b), (6, ptrN p), (9, ptrN hid)]) s K) Q
  | 0, s, u, hp, hd, hid', h, hl, H, k => by
    subst hid'
    have hin : In (poolC p r u ++ (hp.ch p ++ F)) p hp := ⟨fun x hx => List.mem_append_right _ (List.mem_append_left _ hx)⟩
    have e := s27 H hin
    rw [hd] at e
    have hlt : ¬ (((0 + 1 : Nat) : Int) > 1) := by omega
    refine wp_round fun LL hLL => ?_
    simp -implicitDefEqProofs only [↓GP, GB, GL, Nat.reduceAdd, Nat.reduceSub, Nat.reduceEqDiff, Nat.reduceMul, Nat.reduceLeDiff, Int.reduceBNe, Int.reduceBEq, Nat.reduceLT, reduceCtorEq, l5_1, e, hlt, Int.cast_ofNat_Int, Nat.zero_add, gt_iff_lt, Int.reduceLT]
    exact k s u hp h rfl H
  | d + 1, s, u, hp, hd, hid', h, hl, H, k => by
    subst hid'
    have hin : In (poolC p r u ++ (hp.ch p ++ F)) p hp := ⟨fun x hx => List.mem_append_right _ (List.mem_append_left _ hx)⟩
    have e := s27 H hin
    have hpl := h.len
    have hu := h.ulen
    have hgt : ((hp.regs.length : Int) > 1) := by omega
    obtain ⟨e1, l1⟩ := list_split (show hp.regs[hp.regs.length - 1]? = some (hp.regs[hp.regs.length - 1]'(by omega)) by simp [show hp.regs.length - 1 < hp.regs.length by omega])
    rw [List.drop_eq_nil_of_le (show hp.regs.length ≤ hp.regs.length - 1 + 1 by omega)] at e1
    generalize hAe : hp.regs.take (hp.regs.length - 1) = A at e1 l1
    generalize hge : hp.regs[hp.regs.length - 1]'(by omega) = g at e1
    have hA0 : A ≠ [] := by intro e; rw [e] at l1; simp at l1; omega
    have mg : g ∈ hp.regs := by rw [e1]; simp
    obtain ⟨g1, g2⟩ := h.g mg
    have hg : hp.regs[A.length]? = some g := by rw [e1]; simp
    have w1 : wrapI .i64 ((hp.regs.length : Int) - 1) = I (A.length : Nat) := by rw [wrap_sub1 (by omega) (by omega), l1]
    refine wp_round fun LL hLL => ?_
    simp -implicitDefEqProofs only [↓GP, GB, GL, Nat.reduceAdd, Nat.reduceSub, Nat.reduceEqDiff, Nat.reduceMul, Nat.reduceLeDiff, Int.reduceBNe, Int.reduceBEq, Nat.reduceLT, reduceCtorEq, l5_1, e, hgt, w1]
    refine wp_in (s29 H hin hpl hg (by omega) fun s1 pk h1 => ?_)
    have hc := free_count (h.last e1)
    have H1 : Holds o s1 (poolC p r u ++ ((pk, pagesO g.pages) :: (hp.ch p ++ F))) := (Holds.of (h1) (fun k => by simp +arith only [HA, HB]) (fun k x => by simp only [HA, HC]; grind only))
    have e19 := s19 (poolAt H1) (by omega)
    have hcf := free_count ((h.last e1).free)
    rw [freeP_len] at hcf
    rw [List.length_append] at hc
    have hrow : lenV (rowV pk g.pages.length) = some (.int .i64 g.pages.length) := rowV_len _ _
    have hw : wrapI .i64 (((u.count false : Nat) : Int) + (g.pages.length : Int)) = I (((freeP u g.pages).count false : Nat) : Int) := by rw [wrap_add (by omega) (by omega)]; congr 2; omega
    simp -implicitDefEqProofs only [↓GP, GB, GL, Nat.reduceAdd, Nat.reduceSub, Nat.reduceEqDiff, Nat.reduceMul, Nat.reduceLeDiff, Int.reduceBNe, Int.reduceBEq, Nat.reduceLT, reduceCtorEq, e19, Int.reduceBNe]
    cases b with
    | true =>
      simp -implicitDefEqProofs only [↓GP, GB, GL, Nat.reduceAdd, Nat.reduceSub, Nat.reduceEqDiff, Nat.reduceMul, Nat.reduceLeDiff, Int.reduceBNe, Int.reduceBEq, Nat.reduceLT, reduceCtorEq]
      refine wp_in (s31 (hp := hp) (p := p) (r := r) (u := u) (A := A) (B := []) (g := g) (F := (pk, pagesO g.pages) :: F) (Holds.of (H1) (fun k => by simp +arith only [HA, HB]) (fun k x => by simp only [HA, HC]; grind only)) e1 hpl (by omega) g1 (by omega) (by omega) fun s2 kk h2 => ?_)
      have e19' := s19 (poolAt h2) (by rw [freeP_len]; omega)
      have hbe : ((((freeP u g.pages).count false : Nat) : Int) != (((freeP u g.pages).count false : Nat) : Int)) = false := by simp
      simp -implicitDefEqProofs only [↓GP, GB, GL, Nat.reduceAdd, Nat.reduceSub, Nat.reduceEqDiff, Nat.reduceMul, Nat.reduceLeDiff, Int.reduceBNe, Int.reduceBEq, Nat.reduceLT, reduceCtorEq, e19', hw, hbe, Int.reduceBNe]
      have hok2 := h.reset (k := kk) e1 (by omega)
      refine wp_in (s32 (hp := { hp with lives := hp.lives + 1, regs := A ++ { g with life := hp.lives + 1, fill := 0, pages := [], objs := [], plk := kk, pl := .map [] 0 } :: [] }) (p := p) (r := r) (u := freeP u g.pages) (A := A) (g := { g with life := hp.lives + 1, fill := 0, pages := [], objs := [], plk := kk, pl := .map [] 0 }) (F := (pk, pagesO g.pages) :: F) h2 rfl hA0 hok2.len (by rw [freeP_len]; omega) (by simp) (by simp) fun s3 h3 => ?_)
      have hok3 := hok2.pop (A := A) rfl hA0 (ptrN g.id :: hp.sl)
      have e19'' := s19 (poolAt h3) (by rw [freeP_len, freeP_len]; omega)
      have hw2 : wrapI .i64 ((((freeP u g.pages).count false : Nat) : Int) + 0) = I (((freeP u g.pages).count false : Nat) : Int) := by rw [wrap64 (by omega) (by omega), Int.add_zero]
      simp -implicitDefEqProofs only [↓GP, GB, GL, Nat.reduceAdd, Nat.reduceSub, Nat.reduceEqDiff, Nat.reduceMul, Nat.reduceLeDiff, Int.reduceBNe, Int.reduceBEq, Nat.reduceLT, reduceCtorEq, e19'', hw2, hbe, Int.reduceBNe, Int.natCast_zero, List.length_nil, freeP_nil]
      rw [hLL]
      exact close_loop d s3 (freeP u g.pages) { hp with lives := hp.lives + 1, regs := A, sl := ptrN g.id :: hp.sl } (by simp only; omega) rfl hok3 (by simp only; omega) (Holds.of (h3) (fun k => by simp +arith only [freeP_nil, HA, HB]) (fun k x => by simp only [freeP_nil, HA, HC]; grind only)) k
    | false =>
      simp -implicitDefEqProofs only [↓GP, GB, GL, Nat.reduceAdd, Nat.reduceSub, Nat.reduceEqDiff, Nat.reduceMul, Nat.reduceLeDiff, Int.reduceBNe, Int.reduceBEq, Nat.reduceLT, reduceCtorEq]
      refine wp_in (s32 (hp := hp) (p := p) (r := r) (u := u) (A := A) (g := g) (F := (pk, pagesO g.pages) :: F) (Holds.of (H1) (fun k => by simp +arith only [HA, HB]) (fun k x => by simp only [HA, HC]; grind only)) e1 hA0 hpl (by omega) g1 (by omega) fun s2 h2 => ?_)
      have hok3 := h.pop e1 hA0 (ptrN g.id :: hp.sl)
      have e19' := s19 (poolAt h2) (by rw [freeP_len]; omega)
      have hbe : ((((freeP u g.pages).count false : Nat) : Int) != (((freeP u g.pages).count false : Nat) : Int)) = false := by simp
      have hbn : ((g.pages.length : Int) != (g.pages.length : Int)) = false := by simp
      simp -implicitDefEqProofs only [↓GP, GB, GL, Nat.reduceAdd, Nat.reduceSub, Nat.reduceEqDiff, Nat.reduceMul, Nat.reduceLeDiff, Int.reduceBNe, Int.reduceBEq, Nat.reduceLT, reduceCtorEq, e19', hw, hbe, hbn, Int.reduceBNe]
      rw [hLL]
      exact close_loop d s2 (freeP u g.pages) { hp with regs := A, sl := ptrN g.id :: hp.sl } (by simp only; omega) rfl hok3 (by simp only; omega) (Holds.of (h2) (fun k => by simp +arith only [HA, HB]) (fun k x => by simp only [HA, HC]; grind only)) k

theorem freeAll_inv : ∀ (L : List (List Nat)) {u : List Bool}, PoolInv u (L.flatMap id) → PoolInv (freeAll u L) []
  | [], u, h => h
  | a :: L, u, h => by
    rw [List.flatMap_cons] at h
    exact freeAll_inv L (u := freeP u a) h.free
theorem freeAll_len : ∀ (L : List (List Nat)) (u : List Bool), (freeAll u L).length = u.length
  | [], u => rfl
  | a :: L, u => (freeAll_len L (freeP u a)).trans (freeP_len u a)
theorem mod_one : (0 : Nat) < 1 := by omega

/-- PageFree: it answers true. -/
theorem pageFree_im {v : V} {l : List (ActG × List Bool)} (hA : ActsAt o v l) (hll : l.length < 2 ^ 61) (b : Bool) (s : St) (hs : s.old = o) : ∃ st, call PF 5 [v, .bool b] s = some (.bool true, st) := by
  suffices WP (call PF 5 [v, .bool b] s) fun v' _ => v' = .bool true by
    obtain ⟨v', st, e, rfl⟩ := this
    exact ⟨st, e⟩
  have e24 := s24 hs hA hll
  cases hlg : longB l with
  | true =>
    rw [hlg] at e24
    obtain ⟨t, ht, -⟩ := sane15 s
    rw [call_run F5]; simp -implicitDefEqProofs only [↓GP, GB, GL, Nat.reduceAdd, Nat.reduceSub, Nat.reduceEqDiff, Nat.reduceMul, Nat.reduceLeDiff, Int.reduceBNe, Int.reduceBEq, Nat.reduceLT, reduceCtorEq, c5, e24, ht]
  | false =>
    rw [hlg] at e24
    have hl : l.length ≤ 150 := by
      unfold longB at hlg
      rw [Bool.or_eq_false_iff] at hlg
      have := hlg.2
      simp at this; exact this
    rw [call_run F5]; simp -implicitDefEqProofs only [↓GP, GB, GL, Nat.reduceAdd, Nat.reduceSub, Nat.reduceEqDiff, Nat.reduceMul, Nat.reduceLeDiff, Int.reduceBNe, Int.reduceBEq, Nat.reduceLT, reduceCtorEq, c5, e24]
    have H0 : Holds o s [] := ⟨hs, List.nodup_nil, (fun k x m => by cases m), (fun k m => by cases m)⟩
    refine wp_in (s25 (n := 12) (by omega) (by omega) H0 fun s1 p r q t G hk ok hws hlv h1 => ?_)
    have h2 : Holds o s1 (World p r q t (List.replicate 12 false) G ((hk, rowO 1 1 [ptrN G.id]) :: [])) := (Holds.of (h1) (fun k => by simp +arith only [HA, HB]) (fun k x => by simp only [HA, HC]; grind only))
    have fh := h2.mem (World.fr (List.mem_cons_self ..) : (hk, some (.cells [ptrN G.id] (some 1))) ∈ World p r q t (List.replicate 12 false) G ((hk, rowO 1 1 [ptrN G.id]) :: []))
    have fG := h2.mem World.id
    simp only [PairG.hd] at fG
    have hix := ix_row (sz := 1) (k := hk) (n := 1) (i := 0) (kk := .i64) (by omega)
    simp only [Int.natCast_zero, Nat.zero_mul] at hix
    simp -implicitDefEqProofs only [↓GP, GB, GL, Nat.reduceAdd, Nat.reduceSub, Nat.reduceEqDiff, Nat.reduceMul, Nat.reduceLeDiff, Int.reduceBNe, Int.reduceBEq, Nat.reduceLT, reduceCtorEq, hix, fh, fG]
    refine acts_free (F := []) hA hl l.length 0 s1 (List.replicate 12 false) G (by omega) ok (by rw [hws]; simp) h2 fun s2 u2 G2 ok2 e1 e2 e3 e4 h3 => ?_
    simp -implicitDefEqProofs only [↓GP, GB, GL, Nat.reduceAdd, Nat.reduceSub, Nat.reduceEqDiff, Nat.reduceMul, Nat.reduceLeDiff, Int.reduceBNe, Int.reduceBEq, Nat.reduceLT, reduceCtorEq]
    have hp2 := ok2.toP
    have hlen : G2.hp.regs.length ≤ G2.hp.lives := ok2.plives
    have hne := List.length_pos_iff.2 ok2.pne
    rw [← e2]
    refine close_loop (p := p) (r := r) (F := poolC q t u2 ++ (G2.pc ++ (G2.hr.ch q ++ ((hk, rowO 1 1 [ptrN G.id]) :: [])))) (G2.hp.regs.length - 1) s2 u2 G2.hp (by omega) rfl hp2 (by omega) (Holds.of (h3) (fun k => by simp +arith only [HA, HB]) (fun k x => by simp only [HA, HC]; grind only)) fun s3 u3 hp3 ok3 e5 h4 => ?_
    simp -implicitDefEqProofs only [↓GP, GB, GL, Nat.reduceAdd, Nat.reduceSub, Nat.reduceEqDiff, Nat.reduceMul, Nat.reduceLeDiff, Int.reduceBNe, Int.reduceBEq, Nat.reduceLT, reduceCtorEq]
    rw [← e5]
    have hu3 := ok3.ulen
    refine wp_in (s33 h4 ok3.ne ok3.len (by omega) (fun g hg => ⟨(ok3.g hg).1, by have := (ok3.g hg).2; omega⟩) fun s4 h5 => ?_)
    have hin : PoolInv (freeAll u3 (hp3.regs.map (·.pages))) [] := freeAll_inv _ (by
      have := ok3.pool
      rw [List.flatMap_map] at this
      rw [List.flatMap_map]; exact this)
    have e21 := s21 (poolAt h5) (by rw [freeAll_len]; omega)
    rw [hin.count] at e21
    obtain ⟨t', ht', -⟩ := sane15 s4
    simp only [List.length_nil, Int.natCast_zero] at e21
    simp -implicitDefEqProofs only [↓GP, GB, GL, Nat.reduceAdd, Nat.reduceSub, Nat.reduceEqDiff, Nat.reduceMul, Nat.reduceLeDiff, Int.reduceBNe, Int.reduceBEq, Nat.reduceLT, reduceCtorEq, e21, ht', Int.reduceBEq]
end
end Go.Proofs.Ytoldkemimhebaaa
