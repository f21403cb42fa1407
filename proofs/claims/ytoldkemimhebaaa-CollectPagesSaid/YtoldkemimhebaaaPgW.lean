/- Layer 15: what an act does to a pair: turning. -/
import Derived.Test.YtoldkemimhebaaaPgU
set_option linter.unusedSimpArgs false
set_option linter.unusedVariables false
namespace Go.Proofs.Ytoldkemimhebaaa
open Go Go.IM

-- (*virgate/virgatelaw15.Pair).turn
def l70_0 : IC := (.seq (.seq (.seq (.region [oa 23 (.mov (.t 8)), oa 24 (.mov (.t 5)), oa 25 (.lenSlice (.t 24)), oa 26 (.bin .lss (.t 23) (.t 25))] (kp 99 [0,3,5,7,8,26]))
  (.cond (.t 26)
  (sk 99 [0,3,5,7,8])
  (sx 99 [0,3,7] 0)))
  (.seq (.block 1
  (.seq (.region [oa 29 (.mov (.t 8)), oa 30 (.fieldAddr 10 (.t 3)), oa 31 (.load none (.t 30)), oa 32 (.lenSlice (.t 31)), oa 33 (.bin .lss (.t 29) (.t 32)), oa 34 (.mov (.t 33)), oc 35 (.fieldAddr 10 (.t 3)) 34 tt, oc 36 (.load none (.t 35)) 34 tt, oc 37 (.mov (.t 8)) 34 tt, oc 38 (.indexAddr 1 (.t 36) (.t 37)) 34 tt, oc 39 (.load none (.t 38)) 34 tt, oa 40 (.pick (.t 34) (.t 39) (.c (.bool false)))] (kp 99 [0,3,5,7,8,40]))
  (.cond (.t 40)
  (.region [oa 41 (.mov (.t 7)), oa 42 (.mov (.t 5)), oa 43 (.mov (.t 8)), oa 44 (.indexAddr 2 (.t 42) (.t 43)), oa 45 (.load (some 2) (.t 44)), oa 46 (.buildSlice 1 [(.int .i64 (0)), (.int .i64 (0))] [(0, 2, (.t 45))]), oa 47 (.append 2 16 (.t 41) (.t 46)), oa 7 (.mov (.t 47))] (kp 99 [0,3,5,7,8]))
  (sk 99 [0,3,5,7,8]))))
  (.region [oa 27 (.mov (.t 8)), oa 28 (.bin .add (.t 27) (ai 1)), oa 8 (.mov (.t 28))] (kp 99 [0,3,5,7,8]))))
  (sk 99 [0,3,5,7,8]))
def j70_bbbbb : IC := (.seq (.region [oa 59 (.mov (.t 0)), oa 60 (.nilCheck (.t 59)), oa 61 (.fieldAddr 0 (.t 60)), oa 62 (.load none (.t 61)), oa 63 (.fieldAddr 2 (.t 3)), oa 64 (.load none (.t 63)), oa 65 (.mov (.t 7)), oa 66 (.call 109 [(.t 62), (.t 64), (.t 65)]), oa 58 (.mov (.t 66)), oa 67 (.extract (.t 58) 0), oa 68 (.extract (.t 58) 1), oa 9 (.mov (.t 67)), oa 10 (.mov (.t 68))] (kp 99 [0,3,7,9,10]))
  (.seq (.region [oa 70 (.mov (.t 0)), oa 71 (.nilCheck (.t 70)), oa 72 (.fieldAddr 1 (.t 71)), oa 73 (.load none (.t 72)), oa 74 (.fieldAddr 2 (.t 3)), oa 75 (.load none (.t 74)), oa 76 (.mov (.t 7)), oa 77 (.call 97 [(.t 73), (.t 75), (.t 76)]), oa 69 (.mov (.t 77)), oa 78 (.extract (.t 69) 0), oa 79 (.extract (.t 69) 1), oa 11 (.mov (.t 78)), oa 12 (.mov (.t 79))] (kp 99 [0,9,10,11,12]))
  (.seq (.seq (.region [oa 80 (.mov (.t 12)), oa 81 (.bin .eql (.t 80) (ai 0))] (kp 99 [0,9,10,11,12,81]))
  (.cond (.t 81)
  (.region [oa 82 (.mov (.t 0)), oa 83 (.mov (.t 0)), oa 84 (.nilCheck (.t 83)), oa 85 (.fieldAddr 2 (.t 84)), oa 86 (.load none (.t 85)), oa 87 (.mov (.t 11)), oa 88 (.append 2 16 (.t 86) (.t 87)), oa 89 (.nilCheck (.t 82)), oa 90 (.fieldAddr 2 (.t 89)), ob (.store 1 (.t 90) (.t 88))] (kp 99 [9,10,11,12]))
  (sk 99 [9,10,11,12])))
  (.seq (.region [oa 91 (.mov (.t 10)), oa 92 (.mov (.t 12)), oa 93 (.bin .eql (.t 91) (.t 92)), oa 94 (.mov (.t 93)), oc 95 (.mov (.t 9)) 94 tt, oc 96 (.mov (.t 11)) 94 tt, oc 97 (.call 48 [(.t 95), (.t 96)]) 94 tt, oa 98 (.pick (.t 94) (.t 97) (.c (.bool false))), oa 4 (.mov (.t 98))] (kp 99 [4]))
  (sr 99 [4])))))
def j70_bbbb : IC := (.seq (.seq (.region [oa 48 (.fieldAddr 3 (.t 3)), oa 49 (.load none (.t 48)), oa 50 (.bin .rem (.t 49) (ai 5)), oa 51 (.bin .eql (.t 50) (ai 4))] (kp 99 [0,3,7,51]))
  (.cond (.t 51)
  (.region [oa 52 (.mov (.t 7)), oa 53 (.mov (.t 0)), oa 54 (.load (some 11) (.t 3)), oa 55 (.call 64 [(.t 53), (.t 54)]), oa 56 (.buildSlice 1 [(.int .i64 (0)), (.int .i64 (0))] [(0, 2, (.t 55))]), oa 57 (.append 2 16 (.t 52) (.t 56)), oa 7 (.mov (.t 57))] (kp 99 [0,3,7]))
  (sk 99 [0,3,7])))
  j70_bbbbb)
def c70 : IFn := ⟨99, [(4, none)],
  (.seq (.region [oa 3 (.box (.t 1)), oa 4 (.mov (.c (.bool false)))] (kp 99 [0,3]))
  (.seq (.region [oa 14 (.mov (.t 0)), oa 15 (.nilCheck (.t 14)), oa 16 (.fieldAddr 1 (.t 15)), oa 17 (.load none (.t 16)), oa 18 (.fieldAddr 2 (.t 3)), oa 19 (.load none (.t 18)), oa 20 (.call 81 [(.t 17), (.t 19)]), oa 13 (.mov (.t 20)), oa 21 (.extract (.t 13) 0), oa 22 (.extract (.t 13) 1), oa 5 (.mov (.t 21)), oa 6 (.mov (.t 22))] (kp 99 [0,3,5]))
  (.seq (.region [oa 7 (.mov (.c (.slice none 0 (some 0))))] (kp 99 [0,3,5,7]))
  (.seq (.seq (.region [oa 8 (.mov (ai 0))] (kp 99 [0,3,5,7,8]))
  (.block 0
  (.seq (sk 99 [0,3,5,7,8])
  (.loop l70_0))))
  j70_bbbb))))⟩
theorem F70 : shutF Try.prog 70 = some c70 := by kernel_rfl


section
variable {o : Nat → Option O} {s : St} {C F : Ch} {Q : V → St → Prop} {p r q t : Nat} {u : List Bool} {others : List Nat} {G : PairG}
set_option maxRecDepth 10000
set_option maxHeartbeats 4000000

theorem relay_map : ∀ (xs : List PObj) (ats : List Nat), ats.length = xs.length → (relay xs ats).map (fun x => (x.b.at_, x.b.ws.length + 1)) = ats.zip (xs.map fun x => x.b.ws.length + 1)
  | [], [], _ => rfl
  | [], _ :: _, h => by simp at h
  | _ :: _, [], h => by simp at h
  | x :: xs, a :: ats, h => by simp only [relay, List.zipWith_cons_cons, List.map_cons, List.zip_cons_cons]; rw [show (x.at a).b.at_ = a from rfl, show (x.at a).b.ws = x.b.ws from rfl]; congr 1; exact relay_map xs ats (by simpa using h)
theorem relay_enc (life : Nat) : ∀ (xs : List PObj) (ats : List Nat), ats.length = xs.length → (relay xs ats).flatMap (encP life) = (ats.map fun a : Nat => ((a : Int), (life : Int))).flatMap encW
  | [], [], _ => rfl
  | [], _ :: _, h => by simp at h
  | _ :: _, [], h => by simp at h
  | x :: xs, a :: ats, h => by
    have ih := relay_enc life xs ats (by simpa using h)
    simp only [relay, List.zipWith_cons_cons, List.flatMap_cons, List.map_cons] at ih ⊢
    rw [ih]; rfl
theorem rrelay_enc (life : Nat) : ∀ (xs : List RObj) (ats : List Nat), ats.length = xs.length → (rrelay xs ats).flatMap (rencP life) = (ats.map fun a : Nat => ((a : Int), (life : Int))).flatMap encW
  | [], [], _ => rfl
  | [], _ :: _, h => by simp at h
  | _ :: _, [], h => by simp at h
  | x :: xs, a :: ats, h => by
    have ih := rrelay_enc life xs ats (by simpa using h)
    simp only [rrelay, List.zipWith_cons_cons, List.flatMap_cons, List.map_cons] at ih ⊢
    rw [ih]; rfl
theorem relay_same : ∀ (xs : List PObj) (xs' : List RObj) (ats : List Nat), xs.map (·.b) = xs'.map (·.b) → (relay xs ats).map (·.b) = (rrelay xs' ats).map (·.b)
  | [], [], _, _ => rfl
  | [], _ :: _, _, h => by simp at h
  | _ :: _, [], _, h => by simp at h
  | x :: xs, y :: ys, [], h => rfl
  | x :: xs, y :: ys, a :: ats, h => by
    simp only [List.map_cons, List.cons.injEq] at h
    have ih := relay_same xs ys ats h.2
    simp only [relay, rrelay, List.zipWith_cons_cons, List.map_cons] at ih ⊢
    rw [ih]
    congr 1
    show ({ x.b with at_ := a } : Obj) = { y.b with at_ := a }
    rw [h.1]
theorem relay_ws : ∀ (xs : List PObj) (ats : List Nat), ∀ z ∈ relay xs ats, ∃ y ∈ xs, z.b.ws = y.b.ws ∧ z.b.kind = y.b.kind
  | [], _, z, h => by simp [relay] at h
  | x :: xs, [], z, h => by simp [relay] at h
  | x :: xs, a :: ats, z, h => by
    simp only [relay, List.zipWith_cons_cons, List.mem_cons] at h
    rcases h with rfl | h
    · exact ⟨x, List.mem_cons_self .., rfl, rfl⟩
    · obtain ⟨y, hy, e⟩ := relay_ws xs ats z h
      exact ⟨y, List.mem_cons_of_mem _ hy, e⟩

/-- Turning an infinite region. -/
theorem PairOk.turn (h : PairOk u others G) {A B : List PReg} {A' B' : List RReg} {g : PReg} {g' : RReg} (e1 : G.hp.regs = A ++ g :: B) (e2 : G.hr.regs = A' ++ g' :: B') (hA : A.map PReg.m = A'.map RReg.m) (hB : B.map PReg.m = B'.map RReg.m) (hm : g.m = g'.m) (hs : g.size = 0)
    {xs : List PObj} {xs' : List RObj} (hx : xs.Sublist g.objs) (hb : xs.map (·.b) = xs'.map (·.b)) :
    ∃ ats u' fill' pages', layM 0 g.life (xs.map fun x => x.b.ws.length + 1) (freeP u g.pages) 0 [] = some (ats, u', fill', pages') ∧ ats.Nodup ∧ pages'.length ≤ 30 ∧ ats.length = xs.length ∧ u'.length = u.length ∧
      ∀ pgk obk plk pl pgk' obk', PReg.ok { g with pgk := pgk, obk := obk, plk := plk, pl := pl, fill := fill', pages := pages', objs := relay xs ats } →
        PairOk u' others { G with hp := { G.hp with regs := A ++ { g with pgk := pgk, obk := obk, plk := plk, pl := pl, fill := fill', pages := pages', objs := relay xs ats } :: B }, hr := { G.hr with regs := A' ++ { g' with pgk := pgk', obk := obk', fill := fill', pages := pages', objs := rrelay xs' ats } :: B' } } := by
  have mg : g.m ∈ G.hp.regs.map PReg.m := by rw [e1]; simp
  have hi := h.inv.reg g.m mg
  have hpk := hi.inf hs
  have hp1 := h.pool1 e1
  have hfr := hp1.free
  have hf := hpk.fold
  have hsub : (xs.map fun x => x.b.ws.length + 1).Sublist ((g.m.objs.map fun x => (x.at_, x.ws.length + 1)).map (·.2)) := by
    simp only [PReg.m, List.map_map]
    exact hx.map _
  have hle := fold_sub hsub (Le2.refl (0, 0))
  rw [hf] at hle
  have hcnt : g.pages.length ≤ (freeP u g.pages).count false := by
    have c1 := hfr.count
    have c2 := count_both (freeP u g.pages)
    have c3 := hp1.len
    rw [freeP_len] at c2
    rw [List.length_append] at c3
    omega
  obtain ⟨⟨ats, u', fill', pages'⟩, hlay, hlen⟩ := layM_some (life := g.life) (xs.map fun x => x.b.ws.length + 1) (freeP u g.pages) 0 [] (by
    have : ((xs.map fun x => x.b.ws.length + 1).foldl step (0, 0)).1 ≤ g.pages.length := by unfold Le2 at hle; simp only [PReg.m] at hle; omega
    simp only [List.length_nil]; omega)
  have hp2 : PoolInv (freeP u g.pages) ([] ++ ((A.map PReg.m).flatMap (·.pages) ++ ((B.map PReg.m).flatMap (·.pages) ++ others))) := hfr
  obtain ⟨k1, k2⟩ := lay_packed Packed.nil hp2 hlay
  rw [List.nil_append] at k1
  have hal : ats.length = xs.length := by have := layM_len hlay; simpa using this
  have hul : u'.length = u.length := by have := (layM_pages hlay).2; simp only at this; rw [this, freeP_len]
  have hws : ∀ z ∈ relay xs ats, 1 ≤ z.b.ws.length ∧ z.b.ws.length ≤ 31 ∧ z.b.kind < 256 := by
    intro z hz
    obtain ⟨y, hy, w1, w2⟩ := relay_ws xs ats z hz
    have := hi.ws y.b (List.mem_map.2 ⟨y, hx.subset hy, rfl⟩)
    rw [w1, w2]; exact this
  have hnd : ats.Nodup := by
    have := k1.nodup (fun x hx' => by
      obtain ⟨a, b⟩ := x
      have := (List.of_mem_zip hx').2
      obtain ⟨y, hy, rfl⟩ := List.mem_map.1 this
      have := hi.ws y.b (List.mem_map.2 ⟨y, hx.subset hy, rfl⟩)
      simp only; omega)
    rwa [List.map_fst_zip (by simp; omega)] at this
  refine ⟨ats, u', fill', pages', hlay, hnd, ?_, hal, hul, fun pgk obk plk pl pgk' obk' okp => ?_⟩
  · have : pages'.length ≤ u'.length := k2.sub_len (List.sublist_append_left pages' _)
    have := h.ulen
    omega
  · have hsz : g.size = g'.size := congrArg Reg.size hm
    have hlf : g.life = g'.life := congrArg Reg.life hm
    refine h.upd (u' := u') e1 e2 hA hB ?_ rfl ?_ okp hul k2
    · simp only [PReg.m, RReg.m, hsz, hlf, relay_same xs xs' ats hb]
    · refine ⟨hi.size, fun z hz => ?_, fun h0 => ?_, fun _ => ?_⟩
      · obtain ⟨y, hy, rfl⟩ := List.mem_map.1 hz
        exact hws y hy
      · simp only [PReg.m] at h0; omega
      · have : ((relay xs ats).map (·.b)).map (fun x => (x.at_, x.ws.length + 1)) = ats.zip (xs.map fun x => x.b.ws.length + 1) := by
          rw [List.map_map]; exact relay_map xs ats hal
        simp only [PReg.m]
        rw [this]
        exact k1

/-- The flags of an act, in old memory. -/
def SomeAt (o : Nat → Option O) (x : ActG) (bs : List Bool) : Prop := x.sn = bs.length ∧ ∀ (i : Nat) (h : i < bs.length), ∃ ad, ixV 1 (.slice x.sa x.sn x.sc) (.int .i64 (i : Int)) = some (.ptr (some ad)) ∧ ∀ s : St, s.old = o → loadV none (.ptr (some ad)) s = some (.bool bs[i])
def keepL : List (Int × Int) → List Bool → List (Int × Int)
  | w :: l, b :: bs => if b then w :: keepL l bs else keepL l bs
  | _, _ => []
theorem keepL_len : ∀ (l : List (Int × Int)) (bs : List Bool), (keepL l bs).length ≤ l.length
  | [], _ => by simp [keepL]
  | w :: l, [] => by simp [keepL]
  | w :: l, b :: bs => by
    have := keepL_len l bs
    cases b <;> simp [keepL] <;> omega

theorem keep_loop {id bx : Nat} {lv : V} {l : List (Int × Int)} {x : ActG} {bs : List Bool} {K : Kt} (hS : SomeAt o x bs) (mb : (bx, some (.cells x.cells none)) ∈ C) (hv : SlAt C lv l.length (l.flatMap encW)) (hl : l.length ≤ 10000) :
    ∀ (m i k : Nat) (acc : List (Int × Int)) (s : St), i + m = l.length → acc.length ≤ i → Holds o s ((k, rowO 2 acc.length (acc.flatMap encW)) :: C) →
    (∀ s' k', Holds o s' ((k', rowO 2 (acc ++ keepL (l.drop i) (bs.drop i)).length ((acc ++ keepL (l.drop i) (bs.drop i)).flatMap encW)) :: C) → WP (K (.exit 0) (sp 99 [(0, ptrN id), (3, ptrN bx), (7, rowV k' (acc ++ keepL (l.drop i) (bs.drop i)).length)]) s') Q) →
    WP (loop PF (.loop l70_0) (sp 99 [(0, ptrN id), (3, ptrN bx), (5, lv), (7, rowV k acc.length), (8, I i)]) s K) Q
  | 0, i, k, acc, s, hi, hacc, H, q => by
    have hlt : ¬ ((i : Int) < (l.length : Int)) := by omega
    refine wp_round fun LL hLL => ?_
    simp -implicitDefEqProofs only [↓GP, GB, GL, Nat.reduceAdd, Nat.reduceSub, Nat.reduceEqDiff, Nat.reduceMul, Nat.reduceLeDiff, Int.reduceBNe, Int.reduceBEq, Nat.reduceLT, reduceCtorEq, l70_0, hv.len, hlt]
    rw [List.drop_eq_nil_of_le (show l.length ≤ i by omega)] at q
    simp only [keepL, List.append_nil] at q
    exact q s k H
  | m + 1, i, k, acc, s, hi, hacc, H, q => by
    have hlt : ((i : Int) < (l.length : Int)) := by omega
    have hi' : i < l.length := by omega
    have hd : l.drop i = l[i] :: l.drop (i + 1) := List.drop_eq_getElem_cons hi'
    have fb := H.mem (List.mem_cons_of_mem _ mb)
    obtain ⟨k0, g0, e1, e2⟩ := (hv.mono (D := (k, rowO 2 acc.length (acc.flatMap encW)) :: C) fun x hx => List.mem_cons_of_mem _ hx).get H hi' 2
    have hld := ldN_tab encW_len l g0 (show l[i]? = some l[i] by simp [hi'])
    have hw := wrap_add1 (a := i) (by omega)
    obtain ⟨hsn, hS'⟩ := hS
    refine wp_round fun LL hLL => ?_
    by_cases hib : i < bs.length
    · obtain ⟨ad, a1, a2⟩ := hS' i hib
      have a3 := a2 s H.old
      have hlt2 : ((i : Int) < (x.sn : Int)) := by omega
      have hdb : bs.drop i = bs[i] :: bs.drop (i + 1) := List.drop_eq_getElem_cons hib
      rw [hd, hdb] at q
      cases hbi : bs[i] with
      | true =>
        rw [hbi] at q a3
        simp only [keepL, if_true] at q
        simp -implicitDefEqProofs only [↓GP, GB, GL, Nat.reduceAdd, Nat.reduceSub, Nat.reduceEqDiff, Nat.reduceMul, Nat.reduceLeDiff, Int.reduceBNe, Int.reduceBEq, Nat.reduceLT, reduceCtorEq, l70_0, hv.len, hlt, fb, hlt2, a1, a3, e1, e2, hld, encW]
        refine wp_append (cs := acc.flatMap encW) ((H.alloc _).r1) (by rw [tab_len encW_len]) (new_cells' (alloc_new_same _ _) rfl) rfl rfl (by omega) (by unfold maxRow; omega) (by unfold maxRow; omega) fun k' s1 h1 => ?_
        simp -implicitDefEqProofs only [↓GP, GB, GL, Nat.reduceAdd, Nat.reduceSub, Nat.reduceEqDiff, Nat.reduceMul, Nat.reduceLeDiff, Int.reduceBNe, Int.reduceBEq, Nat.reduceLT, reduceCtorEq, hw]
        rw [hLL]
        have hl1 : (acc ++ [l[i]]).length = acc.length + 1 := by simp
        have := keep_loop (K := K) (id := id) ⟨hsn, hS'⟩ mb hv hl m (i + 1) k' (acc ++ [l[i]]) s1 (by omega) (by simp; omega) (by
          have h2 := h1.r1.tl
          rw [List.flatMap_append]; simpa [encW] using h2) (fun s' k'' h' => by
            have := q s' k'' (by simpa using h')
            simpa using this)
        rw [hl1] at this
        exact this
      | false =>
        rw [hbi] at q a3
        simp only [keepL, Bool.false_eq_true, if_false] at q
        simp -implicitDefEqProofs only [↓GP, GB, GL, Nat.reduceAdd, Nat.reduceSub, Nat.reduceEqDiff, Nat.reduceMul, Nat.reduceLeDiff, Int.reduceBNe, Int.reduceBEq, Nat.reduceLT, reduceCtorEq, l70_0, hv.len, hlt, fb, hlt2, a1, a3, hw]
        rw [hLL]
        exact keep_loop ⟨hsn, hS'⟩ mb hv hl m (i + 1) k acc s (by omega) (by omega) H q
    · have hlt2 : ¬ ((i : Int) < (x.sn : Int)) := by omega
      rw [List.drop_eq_nil_of_le (show bs.length ≤ i by omega)] at q
      have e0 : ∀ l : List (Int × Int), keepL l [] = [] := fun l => by cases l <;> rfl
      rw [e0] at q
      simp -implicitDefEqProofs only [↓GP, GB, GL, Nat.reduceAdd, Nat.reduceSub, Nat.reduceEqDiff, Nat.reduceMul, Nat.reduceLeDiff, Int.reduceBNe, Int.reduceBEq, Nat.reduceLT, reduceCtorEq, l70_0, hv.len, hlt, fb, hlt2, hw]
      rw [hLL]
      refine keep_loop ⟨hsn, hS'⟩ mb hv hl m (i + 1) k acc s (by omega) (by omega) H ?_
      rw [List.drop_eq_nil_of_le (show bs.length ≤ i + 1 by omega), e0]
      exact q

/-- Both turn, or refuse with the same error. -/
theorem s70_tail {v51 : V} {bx kk : Nat} (x : ActG) {K : List (Int × Int)} (hK : K.length ≤ 1000) (h : PairOk u others G) (hwl : G.ws.length ≤ 1000000)
    (H : Holds o s ((kk, rowO 2 K.length (K.flatMap encW)) :: (bx, some (.cells x.cells none)) :: World p r q t u G F))
    (k : ∀ s' u' G', Next others u G u' G' → Holds o s' (World p r q t u' G' F) → Q (.bool true) s') :
    WP (go (loop PF) (call PF) j70_bbbbb (sp 99 [(0, ptrN G.id), (3, ptrN bx), (7, rowV kk K.length), (51, v51)]) s (finR [(4, none)])) Q := by
  have hin := ((World.in_ (p := p) (r := r) (q := q) (t := t) (u := u) (G := G) (F := F)).cons (bx, some (.cells x.cells none))).cons (kk, rowO 2 K.length (K.flatMap encW))
  have rin := ((World.rin (p := p) (r := r) (q := q) (t := t) (u := u) (G := G) (F := F)).cons (bx, some (.cells x.cells none))).cons (kk, rowO 2 K.length (K.flatMap encW))
  have mk : (kk, rowO 2 K.length (K.flatMap encW)) ∈ (kk, rowO 2 K.length (K.flatMap encW)) :: (bx, some (.cells x.cells none)) :: World p r q t u G F := List.mem_cons_self ..
  have hrl := h.len
  have hpl := h.plen
  have hu := h.ulen
  have fb := H.tl.f1
  have fG := H.tl.tl.mem World.id
  simp only [PairG.hd] at fG
  have nilW : SlAt ((kk, rowO 2 K.length (K.flatMap encW)) :: (bx, some (.cells x.cells none)) :: World p r q t u G F) (.slice none 0 (some 0)) ([] : List (Int × Int)).length (([] : List (Int × Int)).flatMap encW) := .inl ⟨rfl, _, _, rfl⟩
  -- both refuse
  have bad : ∀ err : Int, err = 2 →
      (∀ s2, Holds o s2 ((kk, rowO 2 K.length (K.flatMap encW)) :: (bx, some (.cells x.cells none)) :: World p r q t u G F) → ∀ Q', (∀ s', Holds o s' ((kk, rowO 2 K.length (K.flatMap encW)) :: (bx, some (.cells x.cells none)) :: World p r q t u G F) → Q' (.tuple [.slice none 0 (some 0), I err]) s') → WP (call PF 109 [ptrN G.hp.id, I x.a, rowV kk K.length] s2) Q') →
      (∀ s2, Holds o s2 ((kk, rowO 2 K.length (K.flatMap encW)) :: (bx, some (.cells x.cells none)) :: World p r q t u G F) → ∀ Q', (∀ s', Holds o s' ((kk, rowO 2 K.length (K.flatMap encW)) :: (bx, some (.cells x.cells none)) :: World p r q t u G F) → Q' (.tuple [.slice none 0 (some 0), I err]) s') → WP (call PF 97 [ptrN G.hr.id, I x.a, rowV kk K.length] s2) Q') →
      WP (go (loop PF) (call PF) j70_bbbbb (sp 99 [(0, ptrN G.id), (3, ptrN bx), (7, rowV kk K.length), (51, v51)]) s (finR [(4, none)])) Q := by
    intro err herr hP hR
    subst herr
    simp -implicitDefEqProofs only [↓GP, GB, GL, Nat.reduceAdd, Nat.reduceSub, Nat.reduceEqDiff, Nat.reduceMul, Nat.reduceLeDiff, Int.reduceBNe, Int.reduceBEq, Nat.reduceLT, reduceCtorEq, j70_bbbbb, fG, fb]
    refine wp_in (hP s H _ fun s1 h1 => ?_)
    have fb1 := h1.tl.f1
    have fG1 := h1.tl.tl.mem World.id
    simp only [PairG.hd] at fG1
    simp -implicitDefEqProofs only [↓GP, GB, GL, Nat.reduceAdd, Nat.reduceSub, Nat.reduceEqDiff, Nat.reduceMul, Nat.reduceLeDiff, Int.reduceBNe, Int.reduceBEq, Nat.reduceLT, reduceCtorEq, fG1, fb1]
    refine wp_in (hR s1 h1 _ fun s2 h2 => ?_)
    have e := s48 h2 nilW nilW (by simp)
    simp -implicitDefEqProofs only [↓GP, GB, GL, Nat.reduceAdd, Nat.reduceSub, Nat.reduceEqDiff, Nat.reduceMul, Nat.reduceLeDiff, Int.reduceBNe, Int.reduceBEq, Nat.reduceLT, reduceCtorEq, e, Int.reduceBEq]
    exact k _ u G h.nx h2.tl.tl
  by_cases hb : 0 ≤ x.a ∧ x.a < G.hp.regs.length
  · obtain ⟨n, hn⟩ : ∃ n : Nat, x.a = n := ⟨x.a.toNat, by omega⟩
    obtain ⟨A, g, B, A', g', B', e1, e2, l1, l2, hm, hA, hB⟩ := h.at_ (i := n) (by omega)
    have hg : G.hp.regs[n]? = some g := by rw [e1, ← l1]; simp
    have hg' : G.hr.regs[n]? = some g' := by rw [e2, ← l2]; simp
    have mg : g ∈ G.hp.regs := by rw [e1]; simp
    have mg' : g' ∈ G.hr.regs := by rw [e2]; simp
    have ok := h.okp mg
    have ok' := h.okr mg'
    have hop := h.pol mg
    have hop' := h.rol mg'
    have hsz : g.size = g'.size := congrArg Reg.size hm
    have hlf : g.life = g'.life := congrArg Reg.life hm
    have hri := h.inv.reg g.m (List.mem_map.2 ⟨g, mg, rfl⟩)
    have hnd : ((A' ++ g' :: B').map (·.life)).Nodup := by
      have := h.inv.nodup
      rw [h.same, e2, List.map_map] at this
      exact this
    have hlf1 := (h.inv.life g.m (List.mem_map.2 ⟨g, mg, rfl⟩)).1
    have hat : (g.objs.map (·.b.at_)).Nodup := by have := hri.nodup; simpa [PReg.m, List.map_map, Function.comp_def] using this
    have hps := pick_same hnd (by rw [← hlf]; exact hlf1) hm hat K 0
    rw [List.drop_zero, ← e2, l2] at hps
    by_cases hbd : 0 < g.size ∨ pickM g.life g.objs K = none
    · have hbd' : 0 < g'.size ∨ rpick G.hr.regs n 0 K = none := by
        refine hbd.imp (fun h => by omega) fun hn => ?_
        rw [hn] at hps
        cases hr : rpick G.hr.regs n 0 K with
        | none => rfl
        | some _ => rw [hr] at hps; exact hps.elim
      refine bad 2 rfl (fun s2 h2 Q' q' => ?_) (fun s2 h2 Q' q' => ?_)
      · rw [hn]; exact s109_bad h2 hin hpl hg (by omega) (by omega) mk hbd q'
      · rw [hn]; exact s97_bad h2 rin h.rlen h.rol' hg' (by omega) mk hbd' q'
    · have hs0 : g.size = 0 := by
        rcases Nat.eq_zero_or_pos g.size with h | h
        · exact h
        · exact absurd (.inl h) hbd
      obtain ⟨xs, hxs⟩ : ∃ xs, pickM g.life g.objs K = some xs := by
        cases hp : pickM g.life g.objs K with
        | none => exact absurd (.inr hp) hbd
        | some xs => exact ⟨xs, rfl⟩
      rw [hxs] at hps
      cases hrp : rpick G.hr.regs n 0 K with
      | none => rw [hrp] at hps; exact hps.elim
      | some xs' =>
        rw [hrp] at hps
        simp only at hps
        obtain ⟨hsub, hxl⟩ := pickM_sublist hxs
        obtain ⟨ats, u', fill', pages', hlay, hand, hpl', hal, hul, hok⟩ := h.turn e1 e2 hA hB hm hs0 hsub hps
        have hxl' : xs'.length = xs.length := by have := congrArg List.length hps; simpa using this.symm
        have hlay' : layM 0 g'.life (xs'.map fun x => x.b.ws.length + 1) (freeP u g'.pages) 0 [] = some (ats, u', fill', pages') := by
          rw [← hlay, hlf, show g.pages = g'.pages from congrArg Reg.pages hm]
          congr 1
          have a1 : xs.map (fun x => x.b.ws.length + 1) = (xs.map (·.b)).map (fun y => y.ws.length + 1) := by simp
          have a2 : xs'.map (fun x => x.b.ws.length + 1) = (xs'.map (·.b)).map (fun y => y.ws.length + 1) := by simp
          rw [a1, a2, hps]
        have h109 := fun Q' => s109 (o := o) (s := s) (Q := Q') (hp := G.hp) (p := p) (r := r) (wk := kk) (u := u) (A := A) (B := B) (g := g) (ws := K) (xs := xs) (ats := ats) (u' := u') (fill' := fill') (pages' := pages') (F := (kk, rowO 2 K.length (K.flatMap encW)) :: (bx, some (.cells x.cells none)) :: (poolC q t u ++ (G.pc ++ (G.hr.ch q ++ F)))) (Holds.of (H) (fun k => by simp +arith only [HA, HB]) (fun k x => by simp only [HA, HC]; grind only)) e1 hpl (by omega) ok.1 (by omega) (by omega) (List.mem_cons_self ..) hs0 hxs hlay hand (by omega)
        rw [l1] at h109
        simp -implicitDefEqProofs only [↓GP, GB, GL, Nat.reduceAdd, Nat.reduceSub, Nat.reduceEqDiff, Nat.reduceMul, Nat.reduceLeDiff, Int.reduceBNe, Int.reduceBEq, Nat.reduceLT, reduceCtorEq, j70_bbbbb, fG, fb]
        rw [hn]
        refine wp_in (h109 _ fun s1 pgk obk plk pl ck okp h1 => ?_)
        generalize hgd : ({ g with pgk := pgk, obk := obk, plk := plk, pl := pl, fill := fill', pages := pages', objs := relay xs ats } : PReg) = g1 at okp h1
        rw [relay_enc _ _ _ hal] at h1
        generalize hcw : (ats.map fun a : Nat => ((a : Int), (g.life : Int))) = cw at h1
        have hcl : cw.length = K.length := by rw [← hcw]; simp; omega
        have h2 : Holds o s1 ((bx, some (.cells x.cells none)) :: (G.id, some (.cells [ptrN G.hp.id, ptrN G.hr.id, rowV G.wk G.ws.length] none)) :: (ck, rowO 2 K.length (cw.flatMap encW)) :: (kk, rowO 2 K.length (K.flatMap encW)) :: (poolC q t u ++ (G.hr.ch q ++ ((G.wk, rowO 2 G.ws.length (G.ws.flatMap encW)) :: (poolC p r u' ++ (PHeap.ch p { G.hp with regs := A ++ g1 :: B } ++ F)))))) := (Holds.of (h1) (fun k => by simp +arith only [HA, HB]) (fun k x => by simp only [HA, HC]; grind only))
        have f2 := h2.f2
        simp only [ActG.cells, hn] at f2
        simp -implicitDefEqProofs only [↓GP, GB, GL, Nat.reduceAdd, Nat.reduceSub, Nat.reduceEqDiff, Nat.reduceMul, Nat.reduceLeDiff, Int.reduceBNe, Int.reduceBEq, Nat.reduceLT, reduceCtorEq, f2]
        have h97 := fun Q' => s97 (o := o) (s := s1) (Q := Q') (hr := G.hr) (p := q) (r := t) (wk := kk) (u := u) (A := A') (B := B') (g := g') (ws := K) (xs := xs') (ats := ats) (u' := u') (fill' := fill') (pages' := pages') (F := (kk, rowO 2 K.length (K.flatMap encW)) :: (ck, rowO 2 K.length (cw.flatMap encW)) :: (G.id, some (.cells [ptrN G.hp.id, ptrN G.hr.id, rowV G.wk G.ws.length] none)) :: ((G.wk, rowO 2 G.ws.length (G.ws.flatMap encW)) :: (poolC p r u' ++ (PHeap.ch p { G.hp with regs := A ++ g1 :: B } ++ F)))) (Holds.of (h2) (fun k => by simp +arith only [HA, HB]) (fun k x => by simp only [HA, HC]; grind only)) e2 h.rlen (fun g hg => by have := h.rol hg; omega) (by omega) ok'.1 (by omega) (List.mem_cons_self ..) (by omega) (by rw [l2]; exact hrp) hlay' (by omega)
        rw [l2] at h97
        refine wp_in (h97 _ fun s2 pgk' obk' ck' h3 => ?_)
        generalize hgd' : ({ g' with pgk := pgk', obk := obk', fill := fill', pages := pages', objs := rrelay xs' ats } : RReg) = g1' at h3
        rw [rrelay_enc _ _ _ (by omega), ← hlf, hcw] at h3
        have h4 : Holds o s2 ((G.wk, rowO 2 G.ws.length (G.ws.flatMap encW)) :: (G.id, some (.cells [ptrN G.hp.id, ptrN G.hr.id, rowV G.wk G.ws.length] none)) :: (ck', rowO 2 K.length (cw.flatMap encW)) :: (ck, rowO 2 K.length (cw.flatMap encW)) :: (poolC p r u' ++ (PHeap.ch p { G.hp with regs := A ++ g1 :: B } ++ (poolC q t u' ++ (RHeap.ch q { G.hr with regs := A' ++ g1' :: B' } ++ F))))) := (Holds.of (h3) (fun k => by simp +arith only [HA, HB]) (fun k x => by simp only [HA, HC]; grind only))
        have f4 := h4.tl.f1
        simp -implicitDefEqProofs only [↓GP, GB, GL, Nat.reduceAdd, Nat.reduceSub, Nat.reduceEqDiff, Nat.reduceMul, Nat.reduceLeDiff, Int.reduceBNe, Int.reduceBEq, Nat.reduceLT, reduceCtorEq, f4, Int.reduceBEq]
        have hck' : K.length = 0 ∨ s2.new ck' = some (.cells (cw.flatMap encW) (some 2)) := by
          rcases Nat.eq_zero_or_pos K.length with h0 | h0
          · exact .inl h0
          · have := h4.tl.tl
            rw [rowO_pos h0] at this
            exact .inr this.g0
        refine wp_append (cs := G.ws.flatMap encW) h4 (by rw [tab_len encW_len]) (new_row hck' (by rw [tab_len encW_len, hcl])) (by rw [tab_len encW_len, hcl]) (by rw [List.all_flatMap]; simp [encW, V.one]) (by omega) (by unfold maxRow; omega) (by unfold maxRow; omega) fun wk' s3 h5 => ?_
        have f5 := h5.tl.f1
        simp -implicitDefEqProofs only [↓GP, GB, GL, Nat.reduceAdd, Nat.reduceSub, Nat.reduceEqDiff, Nat.reduceMul, Nat.reduceLeDiff, Int.reduceBNe, Int.reduceBEq, Nat.reduceLT, reduceCtorEq, f5]
        have h6 := h5.set1 (.cells [ptrN G.hp.id, ptrN G.hr.id, rowV wk' (G.ws.length + K.length)] none)
        have hsw := s48 h6 (l := cw) (v := rowV ck cw.length) (v' := rowV ck' cw.length) (by rw [hcl]; exact SlAt.row (sz := 2) (by simp)) (by rw [hcl]; exact SlAt.row (sz := 2) (by simp)) (by omega)
        rw [hcl] at hsw
        simp -implicitDefEqProofs only [↓GP, GB, GL, Nat.reduceAdd, Nat.reduceSub, Nat.reduceEqDiff, Nat.reduceMul, Nat.reduceLeDiff, Int.reduceBNe, Int.reduceBEq, Nat.reduceLT, reduceCtorEq, hsw, Int.reduceBEq]
        refine k _ u' { G with wk := wk', hp := { G.hp with regs := A ++ g1 :: B }, hr := { G.hr with regs := A' ++ g1' :: B' }, ws := G.ws ++ cw } ?_ ?_
        · have hup := hok pgk obk plk pl pgk' obk' (by rw [hgd]; exact okp)
          rw [hgd, hgd'] at hup
          exact ⟨rfl, rfl, rfl, ⟨hup.ulen, hup.lives, hup.same, hup.inv, hup.pool, hup.pok, hup.grown, hup.one⟩, hul, by simp; omega, by simp⟩
        · exact (Holds.of (h6) (fun k => by simp +arith only [List.length_append, List.flatMap_append, hcl, HA, HB]) (fun k x => by simp only [List.length_append, List.flatMap_append, hcl, HA, HC]; grind only))
  · refine bad 2 rfl (fun s2 h2 Q' q' => s109_err h2 (AtErr.of hin h.pne hpl hb) rfl rfl q') (fun s2 h2 Q' q' => ?_)
    have e := s97_err (wv := rowV kk K.length) h2 (RAtErr.of rin h.rne (by rw [← hrl]; exact hb))
    exact wp_res e (q' s2 h2)

theorem rem5 (b : Int) : intI .rem .i64 b 5 = some (I (b.tmod 5)) := by
  show (if (5 : Int) = 0 then none else some (V.int .i64 (b.tmod 5))) = _
  rw [if_neg (by omega)]
theorem s70 {bs : List Bool} (x : ActG) (hS : SomeAt o x bs) (h : PairOk u others G) (hwl : G.ws.length ≤ 1000000) (H : Holds o s (World p r q t u G F))
    (k : ∀ s' u' G', Next others u G u' G' → Holds o s' (World p r q t u' G' F) → Q (.bool true) s') : WP (call PF 70 [ptrN G.id, .agg x.cells] s) Q := by
  have f0 := H.mem World.id
  simp only [PairG.hd] at f0
  have h1 := H.alloc (.cells x.cells none)
  have rin := (World.rin (p := p) (r := r) (q := q) (t := t) (u := u) (G := G) (F := F)).cons (s.next, some (.cells x.cells none))
  -- behind the loop
  have post : ∀ (s1 : St) (kk : Nat) (K : List (Int × Int)), K.length ≤ 961 → Holds o s1 ((kk, rowO 2 K.length (K.flatMap encW)) :: (s.next, some (.cells x.cells none)) :: World p r q t u G F) →
      WP (go (loop PF) (call PF) j70_bbbb (sp 99 [(0, ptrN G.id), (3, ptrN s.next), (7, rowV kk K.length)]) s1 (finR [(4, none)])) Q := by
    intro s1 kk K hK h2
    have fb := h2.tl.f1
    by_cases hb : x.b.tmod 5 = 4
    · have hbe : (x.b.tmod 5 == 4) = true := by simpa using hb
      simp -implicitDefEqProofs only [↓GP, GB, GL, Nat.reduceAdd, Nat.reduceSub, Nat.reduceEqDiff, Nat.reduceMul, Nat.reduceLeDiff, Int.reduceBNe, Int.reduceBEq, Nat.reduceLT, reduceCtorEq, j70_bbbb, fb, rem5, hbe]
      refine wp_in (s64 h2 (List.mem_cons_of_mem _ (List.mem_cons_of_mem _ World.id)) (List.mem_cons_of_mem _ (List.mem_cons_of_mem _ World.wk)) x fun s2 h3 => ?_)
      generalize wordG G.ws x = w
      simp -implicitDefEqProofs only [↓GP, GB, GL, Nat.reduceAdd, Nat.reduceSub, Nat.reduceEqDiff, Nat.reduceMul, Nat.reduceLeDiff, Int.reduceBNe, Int.reduceBEq, Nat.reduceLT, reduceCtorEq, encW]
      refine wp_append (cs := K.flatMap encW) ((h3.alloc _).r1) (by rw [tab_len encW_len]) (new_cells' (alloc_new_same _ _) rfl) rfl rfl (by omega) (by unfold maxRow; omega) (by unfold maxRow; omega) fun kk' s3 h4 => ?_
      simp -implicitDefEqProofs only [↓GP, GB, GL, Nat.reduceAdd, Nat.reduceSub, Nat.reduceEqDiff, Nat.reduceMul, Nat.reduceLeDiff, Int.reduceBNe, Int.reduceBEq, Nat.reduceLT, reduceCtorEq]
      have h5 := h4.r1.tl
      have hl : (K ++ [w]).length = K.length + 1 := by simp
      have := s70_tail (v51 := .any) (Q := Q) (K := K ++ [w]) (kk := kk') (bx := s.next) x (by simp; omega) h hwl (s := s3) (by rw [List.flatMap_append]; simpa [encW] using h5) k
      rw [hl] at this
      exact this
    · have hbe : (x.b.tmod 5 == 4) = false := by simpa using hb
      simp -implicitDefEqProofs only [↓GP, GB, GL, Nat.reduceAdd, Nat.reduceSub, Nat.reduceEqDiff, Nat.reduceMul, Nat.reduceLeDiff, Int.reduceBNe, Int.reduceBEq, Nat.reduceLT, reduceCtorEq, j70_bbbb, fb, rem5, hbe]
      exact s70_tail x (by omega) h hwl h2 k
  rw [call_run F70]; simp -implicitDefEqProofs only [↓GP, GB, GL, Nat.reduceAdd, Nat.reduceSub, Nat.reduceEqDiff, Nat.reduceMul, Nat.reduceLeDiff, Int.reduceBNe, Int.reduceBEq, Nat.reduceLT, reduceCtorEq, c70, f0]
  by_cases hb : 0 ≤ x.a ∧ x.a < G.hp.regs.length
  · obtain ⟨n, hn⟩ : ∃ n : Nat, x.a = n := ⟨x.a.toNat, by omega⟩
    obtain ⟨A, g, B, A', g', B', e1, e2, l1, l2, hm, hA, hB⟩ := h.at_ (i := n) (by omega)
    have hg' : G.hr.regs[n]? = some g' := by rw [e2, ← l2]; simp
    have mg' : g' ∈ G.hr.regs := by rw [e2]; simp
    have hop' := h.rol mg'
    rw [hn]
    refine wp_in (s81 h1 rin hg' (by omega) fun s1 lk h2 => ?_)
    have he : g'.objs.flatMap (rencP g'.life) = (g'.objs.map fun y => ((y.b.at_ : Int), (g'.life : Int))).flatMap encW := by rw [List.flatMap_map]; rfl
    rw [he] at h2
    simp -implicitDefEqProofs only [↓GP, GB, GL, Nat.reduceAdd, Nat.reduceSub, Nat.reduceEqDiff, Nat.reduceMul, Nat.reduceLeDiff, Int.reduceBNe, Int.reduceBEq, Nat.reduceLT, reduceCtorEq]
    generalize hl : (g'.objs.map fun y => ((y.b.at_ : Int), (g'.life : Int))) = l at h2
    have hll : l.length = g'.objs.length := by rw [← hl]; simp
    rw [← hll] at h2 ⊢
    refine keep_loop (id := G.id) (bx := s.next) (l := l) (bs := bs) hS (C := (lk, rowO 2 l.length (l.flatMap encW)) :: (s.next, some (.cells x.cells none)) :: World p r q t u G F) (by simp) (SlAt.row (sz := 2) (List.mem_cons_self ..)) (by omega) l.length 0 0 [] s1 (by omega) (by simp) (h2.nilEntry 0) fun s2 kk h3 => ?_
    simp only [List.drop_zero, List.nil_append] at h3
    have := keepL_len l bs
    simp -implicitDefEqProofs only [↓GP, GB, GL, Nat.reduceAdd, Nat.reduceSub, Nat.reduceEqDiff, Nat.reduceMul, Nat.reduceLeDiff, Int.reduceBNe, Int.reduceBEq, Nat.reduceLT, reduceCtorEq]
    exact post s2 kk _ (by omega) h3.r1.tl
  · have e := s81_err h1 (RAtErr.of rin h.rne (by rw [← h.len]; exact hb))
    simp -implicitDefEqProofs only [↓GP, GB, GL, Nat.reduceAdd, Nat.reduceSub, Nat.reduceEqDiff, Nat.reduceMul, Nat.reduceLeDiff, Int.reduceBNe, Int.reduceBEq, Nat.reduceLT, reduceCtorEq, e]
    refine keep_loop (id := G.id) (bx := s.next) (l := []) (bs := bs) hS (C := (s.next, some (.cells x.cells none)) :: World p r q t u G F) (by simp) (.inl ⟨rfl, _, _, rfl⟩) (by simp) 0 0 0 [] (s.alloc (.cells x.cells none)) (by simp) (by simp) (h1.nilEntry 0) fun s2 kk h3 => ?_
    simp only [List.drop_zero, List.nil_append, keepL] at h3
    simp -implicitDefEqProofs only [↓GP, GB, GL, Nat.reduceAdd, Nat.reduceSub, Nat.reduceEqDiff, Nat.reduceMul, Nat.reduceLeDiff, Int.reduceBNe, Int.reduceBEq, Nat.reduceLT, reduceCtorEq]
    exact post s2 kk [] (by simp) h3

/-- An act, on a pair. -/
theorem s26 {bs : List Bool} (x : ActG) (hd : 0 ≤ x.d) (hS : SomeAt o x bs) (h : PairOk u others G) (hwl : G.ws.length ≤ 1000000) (H : Holds o s (World p r q t u G F))
    (k : ∀ s' u' G', Next others u G u' G' → Holds o s' (World p r q t u' G' F) → Q (.bool true) s') : WP (call PF 26 [ptrN G.id, .agg x.cells] s) Q := by
  have hm : intI .rem .u8 x.d 8 = some (.int .u8 (x.d % 8)) := by
    show (if (8 : Int) = 0 then none else some (V.int .u8 (x.d.tmod 8))) = _
    rw [if_neg (by omega), Int.tmod_eq_emod_of_nonneg hd]
  have h0 := Int.emod_nonneg x.d (show (8 : Int) ≠ 0 by omega)
  have h8 := Int.emod_lt_of_pos x.d (show (0 : Int) < 8 by omega)
  have h1 := H.alloc (.cells x.cells none)
  rcases (show x.d % 8 = 0 ∨ x.d % 8 = 1 ∨ x.d % 8 = 2 ∨ x.d % 8 = 3 ∨ x.d % 8 = 4 ∨ x.d % 8 = 5 ∨ x.d % 8 = 6 ∨ x.d % 8 = 7 by omega) with e | e | e | e | e | e | e | e <;> rw [e] at hm
  · exact do_open x hm h H fun s' G' n h' => k s' u G' n h'
  · exact do_close x hm h H k
  · exact do_reset x hm h H k
  · rw [call_run F26]; simp -implicitDefEqProofs only [↓GP, GB, GL, Nat.reduceAdd, Nat.reduceSub, Nat.reduceEqDiff, Nat.reduceMul, Nat.reduceLeDiff, Int.reduceBNe, Int.reduceBEq, Nat.reduceLT, reduceCtorEq, c26, hm, Int.reduceBEq]
    refine wp_in (s63 (p := p) (r := r) (q := q) (t := t) (F := (s.next, some (.cells x.cells none)) :: F) x h (Holds.of (h1) (fun k => by simp +arith only [HA, HB]) (fun k x => by simp only [HA, HC]; grind only)) hwl fun s1 u' G' n h2 => ?_)
    simp -implicitDefEqProofs only [↓GP, GB, GL, Nat.reduceAdd, Nat.reduceSub, Nat.reduceEqDiff, Nat.reduceMul, Nat.reduceLeDiff, Int.reduceBNe, Int.reduceBEq, Nat.reduceLT, reduceCtorEq]
    exact k _ u' G' n (Holds.of (h2) (fun k => by simp +arith only [HA, HB]) (fun k x => by simp only [HA, HC]; grind only))
  · exact do_set x hm h H k
  · exact do_get x hm h H fun s' h' => k s' u G h.nx h'
  · rw [call_run F26]; simp -implicitDefEqProofs only [↓GP, GB, GL, Nat.reduceAdd, Nat.reduceSub, Nat.reduceEqDiff, Nat.reduceMul, Nat.reduceLeDiff, Int.reduceBNe, Int.reduceBEq, Nat.reduceLT, reduceCtorEq, c26, hm, Int.reduceBEq]
    refine wp_in (s70 (p := p) (r := r) (q := q) (t := t) (F := (s.next, some (.cells x.cells none)) :: F) x hS h hwl (Holds.of (h1) (fun k => by simp +arith only [HA, HB]) (fun k x => by simp only [HA, HC]; grind only)) fun s1 u' G' n h2 => ?_)
    simp -implicitDefEqProofs only [↓GP, GB, GL, Nat.reduceAdd, Nat.reduceSub, Nat.reduceEqDiff, Nat.reduceMul, Nat.reduceLeDiff, Int.reduceBNe, Int.reduceBEq, Nat.reduceLT, reduceCtorEq]
    exact k _ u' G' n (Holds.of (h2) (fun k => by simp +arith only [HA, HB]) (fun k x => by simp only [HA, HC]; grind only))
  · rw [call_run F26]; simp -implicitDefEqProofs only [↓GP, GB, GL, Nat.reduceAdd, Nat.reduceSub, Nat.reduceEqDiff, Nat.reduceMul, Nat.reduceLeDiff, Int.reduceBNe, Int.reduceBEq, Nat.reduceLT, reduceCtorEq, c26, hm, Int.reduceBEq]
    exact k _ u G h.nx h1.tl
end
end Go.Proofs.Ytoldkemimhebaaa
