/- Pc5, Pc6, Pc7, Pc8, in one text. -/
import Derived.Test.YtoldkemimhebaaaPc4
import Derived.Test.YtoldkemimhebaaaPg3
/- Layer 16: collecting, on models. -/
set_option linter.unusedSimpArgs false
set_option linter.unusedVariables false
namespace Go.Proofs.Ytoldkemimhebaaa
open Go Go.IM

/-- Objects that are laid anew. -/
def layObj (ys : List Obj) (ats : List Nat) : List Obj := List.zipWith (fun x a => { x with at_ := a }) ys ats
theorem relay_b : ∀ (xs : List PObj) (ats : List Nat), (relay xs ats).map (·.b) = layObj (xs.map (·.b)) ats
  | [], _ => by simp [relay, layObj]
  | _ :: _, [] => by simp [relay, layObj]
  | x :: xs, a :: ats => by
    have := relay_b xs ats
    simp only [relay, layObj] at this
    simp only [relay, layObj, List.zipWith_cons_cons, List.map_cons, this]
    rfl
theorem layObj_os : ∀ (ys : List Obj) (ats : List Nat), ats.length = ys.length → (layObj ys ats).map (fun x => (x.at_, x.ws.length + 1)) = ats.zip (ys.map fun x => x.ws.length + 1)
  | [], [], _ => rfl
  | [], _ :: _, h => by simp at h
  | _ :: _, [], h => by simp at h
  | y :: ys, a :: ats, h => by
    have := layObj_os ys ats (by simpa using h)
    simp only [layObj] at this
    simp only [layObj, List.zipWith_cons_cons, List.map_cons, List.zip_cons_cons, this]
theorem layObj_mem : ∀ (ys : List Obj) (ats : List Nat), ∀ z ∈ layObj ys ats, ∃ y ∈ ys, z.ws = y.ws ∧ z.kind = y.kind
  | [], _, z, h => by simp [layObj] at h
  | _ :: _, [], z, h => by simp [layObj] at h
  | y :: ys, a :: ats, z, h => by
    simp only [layObj, List.zipWith_cons_cons, List.mem_cons] at h
    rcases h with rfl | h
    · exact ⟨y, List.mem_cons_self .., rfl, rfl⟩
    · obtain ⟨y', h1, h2⟩ := layObj_mem ys ats z h
      exact ⟨y', List.mem_cons_of_mem _ h1, h2⟩

/-- A heap's regions, and a pool that is its own. -/
structure RsOk (lv : Nat) (u : List Bool) (regs : List Reg) : Prop where
  ulen : u.length ≤ 30
  inv : HInv lv regs
  pool : PoolInv u (regs.flatMap (·.pages))

theorem RsOk.turn {lv : Nat} {u : List Bool} {A B : List Reg} {g : Reg} (h : RsOk lv u (A ++ g :: B)) (hs : g.size = 0) {ys : List Obj} (hx : ys.Sublist g.objs) :
    ∃ ats u' fill' pages', layM 0 g.life (ys.map fun x => x.ws.length + 1) (freeP u g.pages) 0 [] = some (ats, u', fill', pages') ∧ ats.Nodup ∧ pages'.length ≤ 30 ∧ ats.length = ys.length ∧ u'.length = u.length ∧
      RsOk lv u' (A ++ { g with fill := fill', pages := pages', objs := layObj ys ats } :: B) := by
  have hi := h.inv.reg g (by simp)
  have hpk := hi.inf hs
  have hp1 : PoolInv u (g.pages ++ (A.flatMap (·.pages) ++ B.flatMap (·.pages))) := by
    have := h.pool
    refine this.perm ?_
    simp only [List.flatMap_append, List.flatMap_cons]
    exact (List.perm_append_comm_assoc _ _ _).symm
  have hfr := hp1.free
  have hf := hpk.fold
  have hsub : (ys.map fun x => x.ws.length + 1).Sublist ((g.objs.map fun x => (x.at_, x.ws.length + 1)).map (·.2)) := by
    simp only [List.map_map]
    exact hx.map _
  have hle := fold_sub hsub (Le2.refl (0, 0))
  rw [hf] at hle
  have hcnt : g.pages.length ≤ (freeP u g.pages).count false := by
    have c1 := hfr.count
    have c2 := count_both (freeP u g.pages)
    have c3 := hp1.len
    rw [freeP_len] at c2
    rw [List.length_append] at c3
    omega
  obtain ⟨⟨ats, u', fill', pages'⟩, hlay, hlen⟩ := layM_some (life := g.life) (ys.map fun x => x.ws.length + 1) (freeP u g.pages) 0 [] (by
    have : ((ys.map fun x => x.ws.length + 1).foldl step (0, 0)).1 ≤ g.pages.length := by unfold Le2 at hle; omega
    simp only [List.length_nil]; omega)
  have hp2 : PoolInv (freeP u g.pages) ([] ++ (A.flatMap (·.pages) ++ B.flatMap (·.pages))) := hfr
  obtain ⟨k1, k2⟩ := lay_packed Packed.nil hp2 hlay
  rw [List.nil_append] at k1
  have hal : ats.length = ys.length := by have := layM_len hlay; simpa using this
  have hul : u'.length = u.length := by have := (layM_pages hlay).2; simp only at this; rw [this, freeP_len]
  have hnd : ats.Nodup := by
    have := k1.nodup (fun x hx' => by
      obtain ⟨a, b⟩ := x
      have := (List.of_mem_zip hx').2
      obtain ⟨y, hy, rfl⟩ := List.mem_map.1 this
      have := hi.ws y (hx.subset hy)
      simp only; omega)
    rwa [List.map_fst_zip (by simp; omega)] at this
  have hul30 := h.ulen
  refine ⟨ats, u', fill', pages', hlay, hnd, ?_, hal, hul, by omega, ?_, ?_⟩
  · have : pages'.length ≤ u'.length := k2.sub_len (List.sublist_append_left pages' _)
    omega
  · have hI := h.inv
    have hmap : (A ++ { g with fill := fill', pages := pages', objs := layObj ys ats } :: B).map (·.life) = (A ++ g :: B).map (·.life) := by simp
    refine ⟨hI.lives, by simp, by have := hI.len; simpa using this, by rw [hmap]; exact hI.nodup, fun r hr => ?_, fun r hr => ?_⟩
    · rcases List.mem_append.1 hr with hr | hr
      · exact hI.life r (List.mem_append_left _ hr)
      · rcases List.mem_cons.1 hr with rfl | hr
        · exact hI.life g (by simp)
        · exact hI.life r (by simp [hr])
    · rcases List.mem_append.1 hr with hr | hr
      · exact hI.reg r (List.mem_append_left _ hr)
      · rcases List.mem_cons.1 hr with rfl | hr
        · refine ⟨hi.size, fun z hz => ?_, fun h0 => ?_, fun _ => ?_⟩
          · obtain ⟨y, hy, e1, e2⟩ := layObj_mem _ _ z hz
            rw [e1, e2]; exact hi.ws y (hx.subset hy)
          · simp only at h0; omega
          · show Packed ((layObj ys ats).map _) _ _
            rw [layObj_os ys ats hal]; exact k1
        · exact hI.reg r (by simp [hr])
  · refine k2.perm ?_
    simp only [List.flatMap_append, List.flatMap_cons]
    exact List.perm_append_comm_assoc _ _ _
end Go.Proofs.Ytoldkemimhebaaa

/- Layer 16: a region is turned; where a word is now. -/
set_option linter.unusedSimpArgs false
set_option linter.unusedVariables false
namespace Go.Proofs.Ytoldkemimhebaaa
open Go Go.IM

-- virgate/collect.infinite

def c91 : IFn := ⟨16, [(4, none)],
  (.seq (.region [oa 4 (.mov (.c (.bool false)))] (kp 16 [0,1]))
  (.seq (.region [oa 8 (.mov (.t 0)), oa 9 (.mov (.t 1)), oa 10 (.call 29 [(.t 8), (.t 9)]), oa 7 (.mov (.t 10)), oa 11 (.extract (.t 7) 0), oa 12 (.extract (.t 7) 1), oa 5 (.mov (.t 11)), oa 6 (.mov (.t 12))] (kp 16 [5]))
  (.seq (.region [oa 13 (.mov (.t 5)), oa 14 (.lenSlice (.t 13)), oa 15 (.bin .gtr (.t 14) (ai 0)), oa 4 (.mov (.t 15))] (kp 16 [4]))
  (sr 16 [4]))))⟩
theorem F91 : shutF Try.prog 91 = some c91 := by kernel_rfl

-- (*virgate/collect.collection).now

def c94 : IFn := ⟨32, [(4, (some (some 2)))],
  (.seq (.region [oa 3 (.box (.t 1)), oa 4 (.alloc [(.int .i64 (0)), (.int .i64 (0))])] (kp 32 [0,3,4]))
  (.seq (.seq (.region [oa 7 (.fieldAddr 1 (.t 3)), oa 8 (.load none (.t 7)), oa 9 (.bin .eql (.t 8) (ai 0))] (kp 32 [0,3,4,9]))
  (.cond (.t 9)
  (.seq (.region [oa 10 (.load (some 2) (.t 3)), ob (.store 2 (.t 4) (.t 10))] (kp 32 [4]))
  (sr 32 [4]))
  (sk 32 [0,3,4])))
  (.seq (.seq (.region [oa 12 (.mov (.t 0)), oa 13 (.nilCheck (.t 12)), oa 14 (.fieldAddr 1 (.t 13)), oa 15 (.load none (.t 14)), oa 16 (.load (some 2) (.t 3)), oa 17 (.lookup (.agg [.i, .i]) (.agg [(.int .i64 (0)), (.int .i64 (0))]) true (.t 15) (.t 16)), oa 11 (.mov (.t 17)), oa 18 (.extract (.t 11) 0), oa 19 (.extract (.t 11) 1), oa 5 (.alloc [(.int .i64 (0)), (.int .i64 (0))]), ob (.store 2 (.t 5) (.t 18)), oa 6 (.mov (.t 19))] (kp 32 [0,3,4,5,6]))
  (.seq (.region [oa 20 (.mov (.t 6))] (kp 32 [0,3,4,5,20]))
  (.cond (.t 20)
  (.seq (.region [oa 21 (.load (some 2) (.t 5)), ob (.store 2 (.t 4) (.t 21))] (kp 32 [4]))
  (sr 32 [4]))
  (sk 32 [0,3,4]))))
  (.seq (.seq (.region [oa 22 (.mov (.t 0)), oa 23 (.nilCheck (.t 22)), oa 24 (.fieldAddr 2 (.t 23)), oa 25 (.load none (.t 24)), oa 26 (.load (some 2) (.t 3)), oa 27 (.lookup (.agg [.i, .i]) (.bool false) false (.t 25) (.t 26))] (kp 32 [3,4,27]))
  (.cond (.t 27)
  (.seq (.region [oa 28 (.load (some 2) (.t 3)), ob (.store 2 (.t 4) (.t 28))] (kp 32 [4]))
  (sr 32 [4]))
  (sk 32 [3,4])))
  (.seq (.region [oa 29 (.fieldAddr 1 (.t 3)), oa 30 (.load none (.t 29)), oa 31 (.build [(.int .i64 (0)), (.int .i64 (0))] [(0, 1, (ai (-1))), (1, 1, (.t 30))]), ob (.store 2 (.t 4) (.t 31))] (kp 32 [4]))
  (sr 32 [4]))))))⟩
theorem F94 : shutF Try.prog 94 = some c94 := by kernel_rfl

-- (*virgate/collect.collection).turn
def l92_0 : IC := (.seq (.seq (.region [oa 28 (.bin .lss (.t 27) (.t 26))] (kp 77 [0,1,6,25,26,27,28]))
  (.seq (.cond (.t 28)
  (sk 77 [0,1,6,25,26,27])
  (sx 77 [0,1,6] 0))
  (.seq (.block 1
  (.seq (.region [oa 29 (.indexAddr 2 (.t 25) (.t 27)), oa 30 (.load (some 2) (.t 29)), oa 8 (.alloc [(.int .i64 (0)), (.int .i64 (0))]), ob (.store 2 (.t 8) (.t 30))] (kp 77 [0,1,6,8,25,26,27]))
  (.seq (.region [oa 31 (.mov (.t 0)), oa 32 (.nilCheck (.t 31)), oa 33 (.fieldAddr 0 (.t 32)), oa 34 (.load none (.t 33)), oa 35 (.nilCheck (.t 34)), oa 36 (.fieldAddr 2 (.t 35)), oa 37 (.load none (.t 36)), oa 38 (.load (some 2) (.t 8)), oa 39 (.lookup (.agg [.i, .i]) (.bool false) false (.t 37) (.t 38))] (kp 77 [0,1,6,8,25,26,27,39]))
  (.cond (.t 39)
  (.region [oa 40 (.mov (.t 6)), oa 41 (.load (some 2) (.t 8)), oa 42 (.buildSlice 1 [(.int .i64 (0)), (.int .i64 (0))] [(0, 2, (.t 41))]), oa 43 (.append 2 16 (.t 40) (.t 42)), oa 6 (.mov (.t 43))] (kp 77 [0,1,6,25,26,27]))
  (sk 77 [0,1,6,25,26,27])))))
  (.region [oa 44 (.bin .add (.t 27) (ai 1)), oa 27 (.mov (.t 44))] (kp 77 [0,1,6,25,26,27])))))
  (sk 77 [0,1,6,25,26,27]))
def l92_1 : IC := (.seq (.seq (.region [oa 63 (.bin .lss (.t 62) (.t 61))] (kp 77 [0,9,60,61,62,63]))
  (.seq (.cond (.t 63)
  (sk 77 [0,9,60,61,62])
  (sx 77 [] 2))
  (.seq (.block 3
  (.seq (.region [oa 64 (.mov (.t 62)), oa 65 (.indexAddr 2 (.t 60) (.t 62)), oa 66 (.load (some 2) (.t 65)), oa 12 (.alloc [(.int .i64 (0)), (.int .i64 (0))]), oa 11 (.mov (.t 64)), ob (.store 2 (.t 12) (.t 66))] (kp 77 [0,9,11,12,60,61,62]))
  (.region [oa 67 (.mov (.t 0)), oa 68 (.nilCheck (.t 67)), oa 69 (.fieldAddr 1 (.t 68)), oa 70 (.load none (.t 69)), oa 71 (.load (some 2) (.t 12)), oa 72 (.mov (.t 9)), oa 73 (.mov (.t 11)), oa 74 (.indexAddr 2 (.t 72) (.t 73)), oa 75 (.load (some 2) (.t 74)), ob (.mapSet (.agg [.i, .i]) (.t 70) (.t 71) (.t 75))] (kp 77 [0,9,60,61,62]))))
  (.region [oa 76 (.bin .add (.t 62) (ai 1)), oa 62 (.mov (.t 76))] (kp 77 [0,9,60,61,62])))))
  (sk 77 [0,9,60,61,62]))
def j92_bbbbb : IC := (.seq (.region [oa 60 (.mov (.t 6)), oa 61 (.lenSlice (.t 60)), oa 62 (.mov (ai 0))] (kp 77 [0,9,60,61,62]))
  (.block 2
  (.seq (sk 77 [0,9,60,61,62])
  (.loop l92_1))))
def j92_bbb : IC := (.seq (.region [oa 46 (.mov (.t 0)), oa 47 (.nilCheck (.t 46)), oa 48 (.fieldAddr 0 (.t 47)), oa 49 (.load none (.t 48)), oa 50 (.nilCheck (.t 49)), oa 51 (.fieldAddr 0 (.t 50)), oa 52 (.load none (.t 51)), oa 53 (.mov (.t 1)), oa 54 (.mov (.t 6)), oa 55 (.call 109 [(.t 52), (.t 53), (.t 54)]), oa 45 (.mov (.t 55)), oa 56 (.extract (.t 45) 0), oa 57 (.extract (.t 45) 1), oa 9 (.mov (.t 56)), oa 10 (.mov (.t 57))] (kp 77 [0,6,9,10]))
  (.seq (.seq (.region [oa 58 (.mov (.t 10)), oa 59 (.bin .neq (.t 58) (ai 0))] (kp 77 [0,6,9,59]))
  (.cond (.t 59)
  (sr 77 [])
  (sk 77 [0,6,9])))
  j92_bbbbb))
def c92 : IFn := ⟨77, [],
  (.seq (.region [oa 14 (.mov (.t 0)), oa 15 (.nilCheck (.t 14)), oa 16 (.fieldAddr 0 (.t 15)), oa 17 (.load none (.t 16)), oa 18 (.nilCheck (.t 17)), oa 19 (.fieldAddr 0 (.t 18)), oa 20 (.load none (.t 19)), oa 21 (.mov (.t 1)), oa 22 (.call 28 [(.t 20), (.t 21)]), oa 13 (.mov (.t 22)), oa 23 (.extract (.t 13) 0), oa 24 (.extract (.t 13) 1), oa 4 (.mov (.t 23)), oa 5 (.mov (.t 24))] (kp 77 [0,1,4]))
  (.seq (.region [oa 6 (.mov (.c (.slice none 0 (some 0))))] (kp 77 [0,1,4,6]))
  (.seq (.seq (.region [oa 25 (.mov (.t 4)), oa 26 (.lenSlice (.t 25)), oa 27 (.mov (ai 0))] (kp 77 [0,1,6,25,26,27]))
  (.block 0
  (.seq (sk 77 [0,1,6,25,26,27])
  (.loop l92_0))))
  j92_bbb)))⟩
theorem F92 : shutF Try.prog 92 = some c92 := by kernel_rfl


section
variable {o : Nat → Option O} {s : St} {C F : Ch} {Q : V → St → Prop} {p r : Nat} {u : List Bool}
set_option maxRecDepth 10000
set_option maxHeartbeats 4000000

theorem s89 (hC : Holds o s C) {hp : PHeap} {p : Nat} (hin : In C p hp) (h0 : hp.regs ≠ []) (hl : hp.regs.length ≤ 100000) : call PF 89 [ptrN hp.id] s = some (.bool false, s) := by
  have e := s27 hC hin
  have h1 := List.length_pos_iff.2 h0
  have h2 : ((hp.regs.length : Int) == 0) = false := by simp; omega
  rw [call_run F89]; simp -implicitDefEqProofs only [↓GP, GB, GL, Nat.reduceAdd, Nat.reduceSub, Nat.reduceEqDiff, Nat.reduceMul, Nat.reduceLeDiff, Int.reduceBNe, Int.reduceBEq, Nat.reduceLT, reduceCtorEq, c89, e, h2]

theorem s91 (hC : Holds o s C) {hp : PHeap} {p i : Nat} (hin : In C p hp) (hlen : hp.regs.length ≤ 100000) {g : PReg} (hr : hp.regs[i]? = some g) (hpl : g.pages.length ≤ 400)
    (q : ∀ s', Holds o s' C → Q (.bool (decide (0 < g.pages.length))) s') : WP (call PF 91 [ptrN hp.id, I i] s) Q := by
  rw [call_run F91]; simp -implicitDefEqProofs only [↓GP, GB, GL, Nat.reduceAdd, Nat.reduceSub, Nat.reduceEqDiff, Nat.reduceMul, Nat.reduceLeDiff, Int.reduceBNe, Int.reduceBEq, Nat.reduceLT, reduceCtorEq, c91]
  refine wp_in (s29 hC hin hlen hr hpl fun s1 k h1 => ?_)
  by_cases h0 : 0 < g.pages.length
  · have h0' : ((g.pages.length : Int) > 0) := by omega
    simp -implicitDefEqProofs only [↓GP, GB, GL, Nat.reduceAdd, Nat.reduceSub, Nat.reduceEqDiff, Nat.reduceMul, Nat.reduceLeDiff, Int.reduceBNe, Int.reduceBEq, Nat.reduceLT, reduceCtorEq, h0']
    have := q s1 h1.tl
    rwa [decide_eq_true h0] at this
  · have h0' : ¬ ((g.pages.length : Int) > 0) := by omega
    simp -implicitDefEqProofs only [↓GP, GB, GL, Nat.reduceAdd, Nat.reduceSub, Nat.reduceEqDiff, Nat.reduceMul, Nat.reduceLeDiff, Int.reduceBNe, Int.reduceBEq, Nat.reduceLT, reduceCtorEq, h0']
    have := q s1 h1.tl
    rwa [decide_eq_false h0] at this

/-- What a word is behind a collection. -/
def nowW (to : Int × Int → Option (Int × Int)) (fx : List (Int × Int)) (w : Int × Int) : Int × Int := if w.2 = 0 then w else match to w with | some n => n | none => if w ∈ fx then w else (-1, w.2)
def colC (c t tk fk : Nat) (mt mf : O) : Ch := (c, some (.cells [ptrN t, .map (some (.new tk)), .map (some (.new fk))] none)) :: (tk, some mt) :: (fk, some mf) :: []

theorem s94 {c t tk fk : Nat} {mt mf : O} {to : Int × Int → Option (Int × Int)} {fx : List (Int × Int)} {w : Int × Int} (H : Holds o s C) (hs : ∀ x ∈ colC c t tk fk mt mf, x ∈ C)
    (hmt : MapIs encA (fun w => (to w).map encA) mt) (hmf : MapIs encA (seenF fx) mf) (q : ∀ s', Holds o s' C → Q (.agg (encW (nowW to fx w))) s') : WP (call PF 94 [ptrN c, .agg (encW w)] s) Q := by
  have mc := hs (c, some (.cells [ptrN t, .map (some (.new tk)), .map (some (.new fk))] none)) (List.mem_cons_self ..)
  have h1 := (H.alloc (.cells (encW w) none)).alloc (.cells [I 0, I 0] none)
  have f := H.mem mc
  have f0 := h1.tl.g0
  unfold nowW at q
  by_cases h0 : w.2 = 0
  · rw [if_pos h0] at q
    have h0' : (w.2 == 0) = true := by simpa using h0
    rw [call_run F94]; simp -implicitDefEqProofs only [↓GP, GB, GL, Nat.reduceAdd, Nat.reduceSub, Nat.reduceEqDiff, Nat.reduceMul, Nat.reduceLeDiff, Int.reduceBNe, Int.reduceBEq, Nat.reduceLT, reduceCtorEq, c94, encW, h0']
    exact q _ (h1.set0 (.cells (encW w) none)).tl.tl
  · rw [if_neg h0] at q
    have h0' : (w.2 == 0) = false := by simpa using h0
    have mt' := hs (tk, some mt) (List.mem_cons_of_mem _ (List.mem_cons_self ..))
    have mf' := hs (fk, some mf) (List.mem_cons_of_mem _ (List.mem_cons_of_mem _ (List.mem_cons_self ..)))
    have el := lookup_map keyA hmt (h1.mem (List.mem_cons_of_mem _ (List.mem_cons_of_mem _ mt'))).1 (.agg [I 0, I 0]) true w
    simp only [encA, encW, Bool.false_eq_true, if_true, Option.isSome_map] at el
    cases ht : to w with
    | some n =>
      rw [ht] at q el
      simp only [Option.map_some, Option.getD_some, Option.isSome_some, encA, encW] at el
      rw [call_run F94]; simp -implicitDefEqProofs only [↓GP, GB, GL, Nat.reduceAdd, Nat.reduceSub, Nat.reduceEqDiff, Nat.reduceMul, Nat.reduceLeDiff, Int.reduceBNe, Int.reduceBEq, Nat.reduceLT, reduceCtorEq, c94, encW, h0', f, el]
      exact q _ (((h1.alloc (.cells [I 0, I 0] none)).set0 (.cells (encW n) none)).set1 (.cells (encW n) none)).tl.tl.tl
    | none =>
      rw [ht] at q el
      simp only [Option.map_none, Option.getD_none, Option.isSome_none] at el
      have h2 := (h1.alloc (.cells [I 0, I 0] none)).set0 (.cells [I 0, I 0] none)
      have el2 := lookup_map keyA hmf (h2.mem (List.mem_cons_of_mem _ (List.mem_cons_of_mem _ (List.mem_cons_of_mem _ mf')))).1 (.bool false) false w
      simp only [encA, encW, Bool.false_eq_true, if_false, alloc_next, set_next, Nat.add_assoc, Nat.reduceAdd] at el2
      by_cases hw : w ∈ fx
      · rw [show seenF fx w = some (.bool true) from if_pos hw, Option.getD_some] at el2
        simp only [if_pos hw] at q
        rw [call_run F94]; simp -implicitDefEqProofs only [↓GP, GB, GL, Nat.reduceAdd, Nat.reduceSub, Nat.reduceEqDiff, Nat.reduceMul, Nat.reduceLeDiff, Int.reduceBNe, Int.reduceBEq, Nat.reduceLT, reduceCtorEq, c94, encW, h0', f, el, el2]
        exact q _ (h2.set1 (.cells (encW w) none)).tl.tl.tl
      · rw [show seenF fx w = none from if_neg hw, Option.getD_none] at el2
        simp only [if_neg hw] at q
        rw [call_run F94]; simp -implicitDefEqProofs only [↓GP, GB, GL, Nat.reduceAdd, Nat.reduceSub, Nat.reduceEqDiff, Nat.reduceMul, Nat.reduceLeDiff, Int.reduceBNe, Int.reduceBEq, Nat.reduceLT, reduceCtorEq, c94, encW, h0', f, el, el2]
        exact q _ (h2.set1 (.cells (encW (-1, w.2)) none)).tl.tl.tl

/-- The words of a region's objects. -/
def wordsP (life : Nat) (xs : List PObj) : List (Int × Int) := xs.map fun x => ((x.b.at_ : Int), (life : Int))
theorem words_enc (life : Nat) (xs : List PObj) : xs.flatMap (encP life) = (wordsP life xs).flatMap encW := by
  unfold wordsP
  rw [List.flatMap_map]
  rfl
theorem pick_filter {life : Nat} (f : PObj → Bool) : ∀ {os : List PObj}, (os.map (·.b.at_)).Nodup → pickM life os (wordsP life (os.filter f)) = some (os.filter f)
  | [], _ => rfl
  | x :: os, h => by
    rw [List.map_cons, List.nodup_cons] at h
    have ih := pick_filter (life := life) f (os := os) h.2
    cases hf : f x with
    | true =>
      rw [List.filter_cons_of_pos hf]
      show pickM life (x :: os) (((x.b.at_ : Int), (life : Int)) :: wordsP life (os.filter f)) = _
      rw [pickM]
      have e : (x :: os).findIdx (fun y => decide ((y.b.at_ : Int) = (x.b.at_ : Int))) = 0 := by simp [List.findIdx_cons]
      rw [e, List.drop_zero]
      simp only [if_true, ih, Option.map_some]
    | false =>
      rw [List.filter_cons_of_neg (by rw [hf]; simp)]
      cases hos : os.filter f with
      | nil => rfl
      | cons y ys =>
        rw [hos] at ih
        have hy : y ∈ os := (List.mem_filter.1 (hos ▸ List.mem_cons_self ..)).1
        have hne : ¬ ((x.b.at_ : Int) = (y.b.at_ : Int)) := fun e => h.1 (List.mem_map.2 ⟨y, hy, by omega⟩)
        show pickM life (x :: os) (((y.b.at_ : Int), (life : Int)) :: wordsP life ys) = _
        rw [pickM]
        have e : (x :: os).findIdx (fun z => decide ((z.b.at_ : Int) = (y.b.at_ : Int))) = os.findIdx (fun z => decide ((z.b.at_ : Int) = (y.b.at_ : Int))) + 1 := by
          rw [List.findIdx_cons]; simp [hne]
        rw [e, List.drop_succ_cons]
        have ih' : pickM life os (((y.b.at_ : Int), (life : Int)) :: wordsP life ys) = some (y :: ys) := ih
        rw [pickM] at ih'
        exact ih'

/-- What is seen is kept. -/
theorem keep92 {c t lk mk ko : Nat} {hv i0 : V} {c1 c2 : V} {L W : List (Int × Int)} {m : O} {K : Kt} (mc : (c, some (.cells [ptrN t, c1, c2] none)) ∈ C) (mh : ∀ x ∈ huntC t lk mk hv L m, x ∈ C) (hm : MapIs encA (seenF L) m)
    (mo : (ko, rowO 2 W.length (W.flatMap encW)) ∈ C) (hl : W.length ≤ 100000) :
    ∀ (n i k : Nat) (acc : List (Int × Int)) (s : St), i + n = W.length → acc.length ≤ i → Holds o s ((k, rowO 2 acc.length (acc.flatMap encW)) :: C) →
    (∀ s' k', Holds o s' ((k', rowO 2 (acc ++ (W.drop i).filter (decide <| · ∈ L)).length ((acc ++ (W.drop i).filter (decide <| · ∈ L)).flatMap encW)) :: C) → WP (K (.exit 0) (sp 77 [(0, ptrN c), (1, i0), (6, rowV k' (acc ++ (W.drop i).filter (decide <| · ∈ L)).length)]) s') Q) →
    WP (loop PF (.loop l92_0) (sp 77 [(0, ptrN c), (1, i0), (6, rowV k acc.length), (25, rowV ko W.length), (26, I W.length), (27, I i)]) s K) Q
  | 0, i, k, acc, s, hi, ha, H, q => by
    have hlt : ¬ ((i : Int) < (W.length : Int)) := by omega
    rw [List.drop_eq_nil_of_le (by omega), List.filter_nil, List.append_nil] at q
    refine wp_round fun LL hLL => ?_
    simp -implicitDefEqProofs only [↓GP, GB, GL, Nat.reduceAdd, Nat.reduceSub, Nat.reduceEqDiff, Nat.reduceMul, Nat.reduceLeDiff, Int.reduceBNe, Int.reduceBEq, Nat.reduceLT, reduceCtorEq, l92_0, hlt]
    exact q s k H
  | n + 1, i, k, acc, s, hi, ha, H, q => by
    have hlt : ((i : Int) < (W.length : Int)) := by omega
    have hi' : i < W.length := by omega
    have hw1 := wrap_add1 (a := i) (by omega)
    have hix := ix_row (sz := 2) (k := ko) (n := W.length) (i := i) (kk := .i64) hi'
    have er : rowO 2 W.length (W.flatMap encW) = some (.cells (W.flatMap encW) (some 2)) := by unfold rowO; rw [if_neg (by omega)]
    have fr := H.mem (List.mem_cons_of_mem _ (er ▸ mo))
    have fc := H.mem (List.mem_cons_of_mem _ mc)
    have ft := H.mem (List.mem_cons_of_mem _ (mh (t, some (.cells [hv, rowV lk L.length, .map (some (.new mk))] none)) (List.mem_cons_self ..)))
    have mm := mh (mk, some m) (List.mem_cons_of_mem _ (List.mem_cons_of_mem _ (List.mem_cons_self ..)))
    have hld := ldN_tab (enc := encW) encW_len W (some 2) (List.getElem?_eq_getElem hi')
    rw [List.drop_eq_getElem_cons hi', List.filter_cons] at q
    generalize W[i] = w at q hld
    have h1 := (H.alloc (.cells [I 0, I 0] none)).set0 (.cells (encW w) none)
    have el := lookup_map keyA hm (h1.mem (List.mem_cons_of_mem _ (List.mem_cons_of_mem _ mm))).1 (.bool false) false w
    simp only [encA, encW, Bool.false_eq_true, if_false] at el
    by_cases hw : w ∈ L
    · rw [show seenF L w = some (.bool true) from if_pos hw, Option.getD_some] at el
      rw [if_pos (by simpa using hw)] at q
      refine wp_round fun LL hLL => ?_
      simp -implicitDefEqProofs only [↓GP, GB, GL, Nat.reduceAdd, Nat.reduceSub, Nat.reduceEqDiff, Nat.reduceMul, Nat.reduceLeDiff, Int.reduceBNe, Int.reduceBEq, Nat.reduceLT, reduceCtorEq, l92_0, hlt, hix, fr, fc, ft, hld, encW, el]
      refine wp_append (sz := 2) (bytes := 16) (m := 1) (cs := acc.flatMap encW) ((h1.alloc _).r2) (by rw [tab_len encW_len]) (new_cells' (alloc_new_same _ _) rfl) rfl rfl (by omega) (by unfold maxRow; omega) (by unfold maxRow; omega) fun k' s1 h2 => ?_
      simp -implicitDefEqProofs only [↓GP, GB, GL, Nat.reduceAdd, Nat.reduceSub, Nat.reduceEqDiff, Nat.reduceMul, Nat.reduceLeDiff, Int.reduceBNe, Int.reduceBEq, Nat.reduceLT, reduceCtorEq, hw1]
      rw [hLL]
      have hl1 : (acc ++ [w]).length = acc.length + 1 := by simp
      have := keep92 (K := K) (i0 := i0) mc mh hm mo hl n (i + 1) k' (acc ++ [w]) s1 (by omega) (by simp; omega) (by
        have h3 := h2.r1.tl.r1.tl
        rw [List.flatMap_append]; simpa [encW] using h3) (by simpa using q)
      rw [hl1] at this
      exact this
    · rw [show seenF L w = none from if_neg hw, Option.getD_none] at el
      rw [if_neg (by simpa using hw)] at q
      refine wp_round fun LL hLL => ?_
      simp -implicitDefEqProofs only [↓GP, GB, GL, Nat.reduceAdd, Nat.reduceSub, Nat.reduceEqDiff, Nat.reduceMul, Nat.reduceLeDiff, Int.reduceBNe, Int.reduceBEq, Nat.reduceLT, reduceCtorEq, l92_0, hlt, hix, fr, fc, ft, hld, encW, el, hw1]
      rw [hLL]
      exact keep92 mc mh hm mo hl n (i + 1) k acc _ (by omega) (by omega) (Holds.of (h1) (fun k => by simp +arith only [encW, HA, HB]) (fun k x => by simp only [encW, HA, HC]; grind only)) q

/-- Where objects have gone. -/
abbrev ToF := Int × Int → Option (Int × Int)
def updF (to : ToF) (x : (Int × Int) × (Int × Int)) : ToF := fun w => if w = x.1 then some x.2 else to w
theorem updF_map (to : ToF) (a n : Int × Int) : (fun b => if b = a then some (encA n) else (to b).map encA) = fun b => ((updF to (a, n)) b).map encA := by
  funext b
  unfold updF
  by_cases h : b = a
  · simp [h]
  · simp [h]

theorem set92 {c t tk fk kk kn : Nat} {Ks Ns : List (Int × Int)} {K : Kt} (mc : (c, some (.cells [ptrN t, .map (some (.new tk)), .map (some (.new fk))] none)) ∈ C) (mk : (kk, rowO 2 Ks.length (Ks.flatMap encW)) ∈ C) (mn : (kn, rowO 2 Ks.length (Ns.flatMap encW)) ∈ C)
    (hn : Ns.length = Ks.length) (hl : Ks.length ≤ 100000) :
    ∀ (n i : Nat) (to : ToF) (mt : O) (s : St), i + n = Ks.length → MapIs encA (fun w => (to w).map encA) mt → Holds o s ((tk, some mt) :: C) →
    (∀ s' mt', MapIs encA (fun w => ((((Ks.zip Ns).drop i).foldl updF to) w).map encA) mt' → Holds o s' ((tk, some mt') :: C) → WP (K (.exit 2) (sp 77 []) s') Q) →
    WP (loop PF (.loop l92_1) (sp 77 [(0, ptrN c), (9, rowV kn Ks.length), (60, rowV kk Ks.length), (61, I Ks.length), (62, I i)]) s K) Q
  | 0, i, to, mt, s, hi, hm, H, q => by
    have hlt : ¬ ((i : Int) < (Ks.length : Int)) := by omega
    rw [List.drop_eq_nil_of_le (by simp; omega), List.foldl_nil] at q
    refine wp_round fun LL hLL => ?_
    simp -implicitDefEqProofs only [↓GP, GB, GL, Nat.reduceAdd, Nat.reduceSub, Nat.reduceEqDiff, Nat.reduceMul, Nat.reduceLeDiff, Int.reduceBNe, Int.reduceBEq, Nat.reduceLT, reduceCtorEq, l92_1, hlt]
    exact q s mt hm H
  | n + 1, i, to, mt, s, hi, hm, H, q => by
    have hlt : ((i : Int) < (Ks.length : Int)) := by omega
    have hi' : i < Ks.length := by omega
    have hi2 : i < Ns.length := by omega
    have hw1 := wrap_add1 (a := i) (by omega)
    have hix := ix_row (sz := 2) (k := kk) (n := Ks.length) (i := i) (kk := .i64) hi'
    have hix2 := ix_row (sz := 2) (k := kn) (n := Ks.length) (i := i) (kk := .i64) hi'
    have er : rowO 2 Ks.length (Ks.flatMap encW) = some (.cells (Ks.flatMap encW) (some 2)) := by unfold rowO; rw [if_neg (by omega)]
    have er2 : rowO 2 Ks.length (Ns.flatMap encW) = some (.cells (Ns.flatMap encW) (some 2)) := by unfold rowO; rw [if_neg (by omega)]
    have fk' := H.mem (List.mem_cons_of_mem _ (er ▸ mk))
    have fn' := H.mem (List.mem_cons_of_mem _ (er2 ▸ mn))
    have fc := H.mem (List.mem_cons_of_mem _ mc)
    have hld := ldN_tab (enc := encW) encW_len Ks (some 2) (List.getElem?_eq_getElem hi')
    have hld2 := ldN_tab (enc := encW) encW_len Ns (some 2) (List.getElem?_eq_getElem hi2)
    rw [List.drop_eq_getElem_cons (by simp; omega), List.foldl_cons, List.getElem_zip] at q
    generalize Ks[i] = a at q hld
    generalize Ns[i] = b at q hld2
    have h1 := (H.alloc (.cells [I 0, I 0] none)).set0 (.cells (encW a) none)
    refine wp_round fun LL hLL => ?_
    simp -implicitDefEqProofs only [↓GP, GB, GL, Nat.reduceAdd, Nat.reduceSub, Nat.reduceEqDiff, Nat.reduceMul, Nat.reduceLeDiff, Int.reduceBNe, Int.reduceBEq, Nat.reduceLT, reduceCtorEq, l92_1, hlt, hix, hix2, fk', fn', fc, hld, hld2, encW]
    refine wp_mapSet (enc := encA) (a := a) (v := encA b) keyA hm (h1.tl.g0) fun mt' hm' => ?_
    rw [updF_map] at hm'
    simp -implicitDefEqProofs only [↓GP, GB, GL, Nat.reduceAdd, Nat.reduceSub, Nat.reduceEqDiff, Nat.reduceMul, Nat.reduceLeDiff, Int.reduceBNe, Int.reduceBEq, Nat.reduceLT, reduceCtorEq, hw1]
    rw [hLL]
    exact set92 mc mk mn hn hl n (i + 1) _ mt' _ (by omega) hm' (h1.set1 mt').tl q

/-- A region is turned: what is reached in it is laid anew. -/
theorem s92 {hp : PHeap} {c t tk fk lk mk : Nat} {mt mf m : O} {to : ToF} {L : List (Int × Int)} {A B : List PReg} {g : PReg}
    (H : Holds o s (poolC p r u ++ (hp.ch p ++ (colC c t tk fk mt mf ++ (huntC t lk mk (ptrN hp.id) L m ++ F))))) (hr : hp.regs = A ++ g :: B) (hs : g.size = 0) (hok : ∀ g ∈ hp.regs, g.ok) (hR : RsOk hp.lives u (hp.regs.map PReg.m))
    (hm : MapIs encA (seenF L) m) (hmt : MapIs encA (fun w => (to w).map encA) mt)
    (q : ∀ s' u' fill' pages' ats pgk obk plk pl mt',
      layM 0 g.life ((g.objs.filter fun x => decide (((x.b.at_ : Int), (g.life : Int)) ∈ L)).map fun x => x.b.ws.length + 1) (freeP u g.pages) 0 [] = some (ats, u', fill', pages') → u'.length = u.length →
      PReg.ok { g with pgk := pgk, obk := obk, plk := plk, pl := pl, fill := fill', pages := pages', objs := relay (g.objs.filter fun x => decide (((x.b.at_ : Int), (g.life : Int)) ∈ L)) ats } →
      RsOk hp.lives u' ((A ++ { g with pgk := pgk, obk := obk, plk := plk, pl := pl, fill := fill', pages := pages', objs := relay (g.objs.filter fun x => decide (((x.b.at_ : Int), (g.life : Int)) ∈ L)) ats } :: B).map PReg.m) →
      MapIs encA (fun w => ((((wordsP g.life (g.objs.filter fun x => decide (((x.b.at_ : Int), (g.life : Int)) ∈ L))).zip (ats.map fun a : Nat => ((a : Int), (g.life : Int)))).foldl updF to) w).map encA) mt' →
      Holds o s' (poolC p r u' ++ (({ hp with regs := A ++ { g with pgk := pgk, obk := obk, plk := plk, pl := pl, fill := fill', pages := pages', objs := relay (g.objs.filter fun x => decide (((x.b.at_ : Int), (g.life : Int)) ∈ L)) ats } :: B } : PHeap).ch p ++ (colC c t tk fk mt' mf ++ (huntC t lk mk (ptrN hp.id) L m ++ F)))) →
      Q (.tuple []) s') : WP (call PF 92 [ptrN c, I A.length] s) Q := by
  have hin : In (poolC p r u ++ (hp.ch p ++ (colC c t tk fk mt mf ++ (huntC t lk mk (ptrN hp.id) L m ++ F)))) p hp := ⟨fun x hx => List.mem_append_right _ (List.mem_append_left _ hx)⟩
  have hg : hp.regs[A.length]? = some g := by rw [hr]; simp
  have mg := List.mem_of_getElem? hg
  have hlen : hp.regs.length ≤ 100000 := by have h1 := hR.inv.len; have h2 := hR.inv.lives; rw [List.length_map] at h1; omega
  have hri := hR.inv.reg g.m (List.mem_map.2 ⟨g, mg, rfl⟩)
  have hu := hR.ulen
  have hpgs : (∀ x ∈ g.pages, x < u.length) ∧ g.pages.length ≤ 30 := by
    have hrm : g.m ∈ hp.regs.map PReg.m := List.mem_map.2 ⟨g, mg, rfl⟩
    have hsb := sub_flatMap (fun r : Reg => r.pages) hrm
    have := hR.pool.sub_len hsb
    exact ⟨fun x hx => hR.pool.lt (hsb.subset hx), by simp only [PReg.m] at *; omega⟩
  have hrok : RegOk u.length g.m := hri.ok (by have := (hR.inv.life g.m (List.mem_map.2 ⟨g, mg, rfl⟩)).2; have := hR.inv.lives; omega) hpgs.1 (by omega) (by have := hpgs.2; simp only [PReg.m]; omega)
  have hno : g.objs.length ≤ 961 := by have := hri.nobjs; simp only [PReg.m, List.length_map] at this; have := hpgs.2; omega
  have hat : (g.objs.map (·.b.at_)).Nodup := by have := hri.nodup; simpa [PReg.m, List.map_map, Function.comp_def] using this
  have hpick := pick_filter (life := g.life) (fun x => decide (((x.b.at_ : Int), (g.life : Int)) ∈ L)) hat
  have hsub : (g.objs.filter fun x => decide (((x.b.at_ : Int), (g.life : Int)) ∈ L)).Sublist g.objs := List.filter_sublist ..
  have hW : (wordsP g.life g.objs).filter (decide <| · ∈ L) = wordsP g.life (g.objs.filter fun x => decide (((x.b.at_ : Int), (g.life : Int)) ∈ L)) := by
    unfold wordsP; rw [List.filter_map]; rfl
  generalize hxs : (g.objs.filter fun x => decide (((x.b.at_ : Int), (g.life : Int)) ∈ L)) = xs at hpick hsub hW q
  have hm2 : hp.regs.map PReg.m = A.map PReg.m ++ g.m :: B.map PReg.m := by rw [hr]; simp
  have hR2 := hR
  rw [hm2] at hR2
  obtain ⟨ats, u', fill', pages', hlay, hnd, hpl', hal, hul, hR'⟩ := hR2.turn hs (ys := xs.map (·.b)) (hsub.map _)
  have hlay' : layM 0 g.life (xs.map fun x => x.b.ws.length + 1) (freeP u g.pages) 0 [] = some (ats, u', fill', pages') := by
    rw [List.map_map] at hlay; exact hlay
  have hal' : ats.length = xs.length := by simpa using hal
  have fc := H.mem (List.mem_append_right _ (List.mem_append_right _ (List.mem_append_left _ (List.mem_cons_self ..))) : (c, some (O.cells [ptrN t, V.map (some (.new tk)), V.map (some (.new fk))] none)) ∈ poolC p r u ++ (hp.ch p ++ (colC c t tk fk mt mf ++ (huntC t lk mk (ptrN hp.id) L m ++ F))))
  have ft := H.mem (List.mem_append_right _ (List.mem_append_right _ (List.mem_append_right _ (List.mem_append_left _ (List.mem_cons_self ..)))) : (t, some (O.cells [ptrN hp.id, rowV lk L.length, V.map (some (.new mk))] none)) ∈ poolC p r u ++ (hp.ch p ++ (colC c t tk fk mt mf ++ (huntC t lk mk (ptrN hp.id) L m ++ F))))
  rw [call_run F92]; simp -implicitDefEqProofs only [↓GP, GB, GL, Nat.reduceAdd, Nat.reduceSub, Nat.reduceEqDiff, Nat.reduceMul, Nat.reduceLeDiff, Int.reduceBNe, Int.reduceBEq, Nat.reduceLT, reduceCtorEq, c92, fc, ft]
  refine wp_in (s28 H hin hlen hg (by omega) fun s1 ko h1 => ?_)
  rw [words_enc, show g.objs.length = (wordsP g.life g.objs).length by simp [wordsP]] at h1
  rw [show g.objs.length = (wordsP g.life g.objs).length by simp [wordsP]]
  simp -implicitDefEqProofs only [↓GP, GB, GL, Nat.reduceAdd, Nat.reduceSub, Nat.reduceEqDiff, Nat.reduceMul, Nat.reduceLeDiff, Int.reduceBNe, Int.reduceBEq, Nat.reduceLT, reduceCtorEq]
  have hwl : (wordsP g.life xs).length = xs.length := by simp [wordsP]
  have hxl : xs.length ≤ 961 := Nat.le_trans hsub.length_le hno
  have mc1 : (c, some (O.cells [ptrN t, V.map (some (.new tk)), V.map (some (.new fk))] none)) ∈ (ko, rowO 2 (wordsP g.life g.objs).length ((wordsP g.life g.objs).flatMap encW)) :: (poolC p r u ++ (hp.ch p ++ (colC c t tk fk mt mf ++ (huntC t lk mk (ptrN hp.id) L m ++ F)))) :=
    List.mem_cons_of_mem _ (List.mem_append_right _ (List.mem_append_right _ (List.mem_append_left _ (List.mem_cons_self ..))))
  have := keep92 (K := blockK 0 (seqK (loop PF) (call PF) j92_bbb (finR []))) (Q := Q) (i0 := I A.length) (lk := lk) (mk := mk) (hv := ptrN hp.id) mc1 (fun x hx => List.mem_cons_of_mem _ (List.mem_append_right _ (List.mem_append_right _ (List.mem_append_right _ (List.mem_append_left _ hx))))) hm (List.mem_cons_self ..) (by simp [wordsP]; omega) (wordsP g.life g.objs).length 0 0 [] s1 (by omega) (by simp) (h1.nilEntry 0)
  simp only [List.drop_zero, List.nil_append, List.length_nil, Int.natCast_zero, hW] at this
  refine this fun s2 kk h3 => ?_
  have fc2 := h3.mem (List.mem_cons_of_mem _ mc1)
  have ft2 := h3.mem (List.mem_cons_of_mem _ (List.mem_cons_of_mem _ (List.mem_append_right _ (List.mem_append_right _ (List.mem_append_right _ (List.mem_append_left _ (List.mem_cons_self ..)))))) : (t, some (O.cells [ptrN hp.id, rowV lk L.length, V.map (some (.new mk))] none)) ∈ _)
  simp -implicitDefEqProofs only [↓GP, GB, GL, Nat.reduceAdd, Nat.reduceSub, Nat.reduceEqDiff, Nat.reduceMul, Nat.reduceLeDiff, Int.reduceBNe, Int.reduceBEq, Nat.reduceLT, reduceCtorEq, j92_bbb, fc2, ft2]
  refine wp_in (s109 (o := o) (hp := hp) (p := p) (r := r) (wk := kk) (u := u) (A := A) (B := B) (g := g) (ws := wordsP g.life xs) (xs := xs) (ats := ats) (u' := u') (fill' := fill') (pages' := pages') (F := (kk, rowO 2 (wordsP g.life xs).length ((wordsP g.life xs).flatMap encW)) :: (colC c t tk fk mt mf ++ (huntC t lk mk (ptrN hp.id) L m ++ F)))
    (Holds.of (h3) (fun k => by simp +arith only [HA, HB]) (fun k x => by simp only [HA, HC]; grind only)) hr hlen (by omega) hrok (by omega) (by omega) (List.mem_cons_self ..) hs hpick hlay' hnd (by omega) fun s3 pgk obk plk pl kn okp h4 => ?_)
  rw [relay_enc _ _ _ hal'] at h4
  simp -implicitDefEqProofs only [↓GP, GB, GL, Nat.reduceAdd, Nat.reduceSub, Nat.reduceEqDiff, Nat.reduceMul, Nat.reduceLeDiff, Int.reduceBNe, Int.reduceBEq, Nat.reduceLT, reduceCtorEq, j92_bbbbb]
  have h5 : Holds o s3 ((tk, some mt) :: (c, some (.cells [ptrN t, .map (some (.new tk)), .map (some (.new fk))] none)) :: (kk, rowO 2 (wordsP g.life xs).length ((wordsP g.life xs).flatMap encW)) :: (kn, rowO 2 (wordsP g.life xs).length ((ats.map fun a : Nat => ((a : Int), (g.life : Int))).flatMap encW)) :: (fk, some mf) ::
      (poolC p r u' ++ (({ hp with regs := A ++ { g with pgk := pgk, obk := obk, plk := plk, pl := pl, fill := fill', pages := pages', objs := relay xs ats } :: B } : PHeap).ch p ++ (huntC t lk mk (ptrN hp.id) L m ++ F)))) := (Holds.of (h4) (fun k => by simp +arith only [colC, HA, HB]) (fun k x => by simp only [colC, HA, HC]; grind only))
  have := set92 (K := blockK 2 (finR [])) (Q := Q) (t := t) (fk := fk) (List.mem_cons_self ..) (List.mem_cons_of_mem _ (List.mem_cons_self ..)) (List.mem_cons_of_mem _ (List.mem_cons_of_mem _ (List.mem_cons_self ..))) (by simp; omega) (by omega) (wordsP g.life xs).length 0 to mt s3 (by omega) hmt h5
  simp only [List.drop_zero, Int.natCast_zero] at this
  refine this fun s4 mt' hm' h6 => ?_
  simp -implicitDefEqProofs only [↓GP, GB, GL, Nat.reduceAdd, Nat.reduceSub, Nat.reduceEqDiff, Nat.reduceMul, Nat.reduceLeDiff, Int.reduceBNe, Int.reduceBEq, Nat.reduceLT, reduceCtorEq]
  refine q s4 u' fill' pages' ats pgk obk plk pl mt' hlay' hul okp ?_ hm' (Holds.of (h6) (fun k => by simp +arith only [colC, HA, HB]) (fun k x => by simp only [colC, HA, HC]; grind only))
  rw [List.map_append, List.map_cons]
  simp only [PReg.m, relay_b]
  exact hR'
end
end Go.Proofs.Ytoldkemimhebaaa

/- Layer 16: Collect: the regions. -/
set_option linter.unusedSimpArgs false
set_option linter.unusedVariables false
namespace Go.Proofs.Ytoldkemimhebaaa
open Go Go.IM

-- virgate/collect.Collect
def l46_0 : IC := (.seq (.seq (.region [oa 52 (.bin .lss (.t 51) (.t 50))] (kp 132 [1,2,4,5,6,7,9,33,34,49,50,51,52]))
  (.seq (.cond (.t 52)
  (sk 132 [1,2,4,5,6,7,9,33,34,49,50,51])
  (sx 132 [1,2,4,5,6,7,9,33,34] 2))
  (.seq (.block 3
  (.seq (.region [oa 53 (.indexAddr 2 (.t 49) (.t 51)), oa 54 (.load (some 2) (.t 53)), oa 12 (.alloc [(.int .i64 (0)), (.int .i64 (0))]), ob (.store 2 (.t 12) (.t 54))] (kp 132 [1,2,4,5,6,7,9,12,33,34,49,50,51]))
  (.region [oa 55 (.load none (.t 6)), oa 56 (.nilCheck (.t 55)), oa 57 (.fieldAddr 2 (.t 56)), oa 58 (.load none (.t 57)), oa 59 (.load (some 2) (.t 12)), ob (.mapSet (.agg [.i, .i]) (.t 58) (.t 59) (.c (.bool true)))] (kp 132 [1,2,4,5,6,7,9,33,34,49,50,51]))))
  (.region [oa 60 (.bin .add (.t 51) (ai 1)), oa 51 (.mov (.t 60))] (kp 132 [1,2,4,5,6,7,9,33,34,49,50,51])))))
  (sk 132 [1,2,4,5,6,7,9,33,34,49,50,51]))
def l46_1 : IC := (.seq (.seq (.region [oa 35 (.bin .lss (.t 34) (.t 33))] (kp 132 [1,2,4,5,6,7,33,34,35]))
  (.seq (.cond (.t 35)
  (sk 132 [1,2,4,5,6,7,33,34])
  (sx 132 [1,2,4,5,6,7] 0))
  (.seq (.block 1
  (.seq (.region [oa 36 (.mov (.t 34)), oa 8 (.mov (.t 36))] (kp 132 [1,2,4,5,6,7,8,33,34]))
  (.seq (.region [oa 37 (.load none (.t 2)), oa 38 (.mov (.t 8)), oa 39 (.call 91 [(.t 37), (.t 38)])] (kp 132 [1,2,4,5,6,7,8,33,34,39]))
  (.cond (.t 39)
  (.region [oa 40 (.load none (.t 6)), oa 41 (.mov (.t 8)), oa 42 (.call 92 [(.t 40), (.t 41)])] (kp 132 [1,2,4,5,6,7,33,34]))
  (.seq (.region [oa 44 (.load none (.t 2)), oa 45 (.mov (.t 8)), oa 46 (.call 28 [(.t 44), (.t 45)]), oa 43 (.mov (.t 46)), oa 47 (.extract (.t 43) 0), oa 48 (.extract (.t 43) 1), oa 9 (.mov (.t 47)), oa 10 (.mov (.t 48))] (kp 132 [1,2,4,5,6,7,9,33,34]))
  (.seq (.seq (.region [oa 49 (.mov (.t 9)), oa 50 (.lenSlice (.t 49)), oa 51 (.mov (ai 0))] (kp 132 [1,2,4,5,6,7,9,33,34,49,50,51]))
  (.block 2
  (.seq (sk 132 [1,2,4,5,6,7,9,33,34,49,50,51])
  (.loop l46_0))))
  (.region [oa 61 (.mov (.t 7)), oa 62 (.mov (.t 9)), oa 63 (.append 2 16 (.t 61) (.t 62)), oa 7 (.mov (.t 63))] (kp 132 [1,2,4,5,6,7,33,34]))))))))
  (.region [oa 64 (.bin .add (.t 34) (ai 1)), oa 34 (.mov (.t 64))] (kp 132 [1,2,4,5,6,7,33,34])))))
  (sk 132 [1,2,4,5,6,7,33,34]))
def l46_2 : IC := (.seq (.seq (.region [oa 74 (.bin .lss (.t 73) (.t 72))] (kp 132 [1,2,4,5,6,7,71,72,73,74]))
  (.seq (.cond (.t 74)
  (sk 132 [1,2,4,5,6,7,71,72,73])
  (sx 132 [1,2,4,5,6,7] 4))
  (.seq (.block 5
  (.seq (.region [oa 75 (.indexAddr 2 (.t 71) (.t 73)), oa 76 (.load (some 2) (.t 75)), oa 14 (.alloc [(.int .i64 (0)), (.int .i64 (0))]), ob (.store 2 (.t 14) (.t 76))] (kp 132 [1,2,4,5,6,7,14,71,72,73]))
  (.seq (.region [oa 77 (.load none (.t 6)), oa 78 (.nilCheck (.t 77)), oa 79 (.fieldAddr 2 (.t 78)), oa 80 (.load none (.t 79)), oa 81 (.load (some 2) (.t 14)), oa 82 (.lookup (.agg [.i, .i]) (.bool false) false (.t 80) (.t 81)), oa 83 (.un .not (.t 82))] (kp 132 [1,2,4,5,6,7,14,71,72,73,83]))
  (.cond (.t 83)
  (.region [oa 84 (.mov (.t 7)), oa 85 (.load none (.t 6)), oa 86 (.nilCheck (.t 85)), oa 87 (.fieldAddr 1 (.t 86)), oa 88 (.load none (.t 87)), oa 89 (.load (some 2) (.t 14)), oa 90 (.lookup (.agg [.i, .i]) (.agg [(.int .i64 (0)), (.int .i64 (0))]) false (.t 88) (.t 89)), oa 91 (.buildSlice 1 [(.int .i64 (0)), (.int .i64 (0))] [(0, 2, (.t 90))]), oa 92 (.append 2 16 (.t 84) (.t 91)), oa 7 (.mov (.t 92))] (kp 132 [1,2,4,5,6,7,71,72,73]))
  (sk 132 [1,2,4,5,6,7,71,72,73])))))
  (.region [oa 93 (.bin .add (.t 73) (ai 1)), oa 73 (.mov (.t 93))] (kp 132 [1,2,4,5,6,7,71,72,73])))))
  (sk 132 [1,2,4,5,6,7,71,72,73]))
def a46_3 : IC := (.region [oa 18 (.alloc [(.int .i64 (0)), (.int .i64 (0))]), ob (.store 2 (.t 18) (.t 103))] (kp 132 [2,6,16,17,18]))
def b46_3 : IC := (.block 9
  (.seq (.seq (.region [oa 104 (.load none (.t 6)), oa 105 (.load (some 2) (.t 18)), oa 106 (.call 94 [(.t 104), (.t 105)]), oa 19 (.alloc [(.int .i64 (0)), (.int .i64 (0))]), ob (.store 2 (.t 19) (.t 106))] (kp 132 [2,16,17,18,19]))
  (.seq (.region [oa 107 (.load (some 2) (.t 19)), oa 108 (.load (some 2) (.t 18)), oa 109 (.eql true (.key (.agg [.i, .i])) (.t 107) (.t 108))] (kp 132 [2,16,17,19,109]))
  (.cond (.t 109)
  (.region [oa 110 (.load none (.t 2)), oa 111 (.load (some 2) (.t 16)), oa 112 (.load none (.t 17)), oa 113 (.load (some 2) (.t 19)), oa 114 (.call 65 [(.t 110), (.t 111), (.t 112), (.t 113)])] (kp 132 [17]))
  (sk 132 [17]))))
  (.region [oa 115 (.load none (.t 17)), oa 116 (.bin .add (.t 115) (ai 1)), ob (.store 1 (.t 17) (.t 116))] (kp 132 []))))
def l46_4 : IC := (.seq (.seq (.region [oa 97 (.bin .lss (.t 96) (.t 95))] (kp 132 [1,2,4,5,6,94,95,96,97]))
  (.seq (.cond (.t 97)
  (sk 132 [1,2,4,5,6,94,95,96])
  (sx 132 [1,6] 6))
  (.seq (.block 7
  (.seq (.region [oa 98 (.indexAddr 2 (.t 94) (.t 96)), oa 99 (.load (some 2) (.t 98)), oa 16 (.alloc [(.int .i64 (0)), (.int .i64 (0))]), ob (.store 2 (.t 16) (.t 99))] (kp 132 [1,2,4,5,6,16,94,95,96]))
  (.seq (.region [oa 17 (.alloc [(.int .i64 (0))]), ob (.store 1 (.t 17) (ai 0))] (kp 132 [1,2,4,5,6,16,17,94,95,96]))
  (.seq (.region [oa 100 (.load none (.t 2)), oa 101 (.load (some 2) (.t 16)), oa 102 (.call 93 [(.t 100), (.t 101)])] (kp 132 [1,2,4,5,6,16,17,94,95,96,102]))
  (.block 8
  (.seq (sk 132 [1,2,4,5,6,16,17,94,95,96,102])
  (.seq (.range (.t 102) [103] a46_3 b46_3)
  (sk 132 [1,2,4,5,6,94,95,96]))))))))
  (.region [oa 117 (.bin .add (.t 96) (ai 1)), oa 96 (.mov (.t 117))] (kp 132 [1,2,4,5,6,94,95,96])))))
  (sk 132 [1,2,4,5,6,94,95,96]))
def l46_5 : IC := (.seq (.seq (.region [oa 121 (.bin .lss (.t 120) (.t 119))] (kp 132 [6,20,118,119,120,121]))
  (.seq (.cond (.t 121)
  (sk 132 [6,20,118,119,120])
  (sx 132 [20] 10))
  (.seq (.block 11
  (.seq (.region [oa 122 (.indexAddr 2 (.t 118) (.t 120)), oa 123 (.load (some 2) (.t 122)), oa 22 (.alloc [(.int .i64 (0)), (.int .i64 (0))]), ob (.store 2 (.t 22) (.t 123))] (kp 132 [6,20,22,118,119,120]))
  (.region [oa 124 (.mov (.t 20)), oa 125 (.load none (.t 6)), oa 126 (.load (some 2) (.t 22)), oa 127 (.call 94 [(.t 125), (.t 126)]), oa 128 (.buildSlice 1 [(.int .i64 (0)), (.int .i64 (0))] [(0, 2, (.t 127))]), oa 129 (.append 2 16 (.t 124) (.t 128)), oa 20 (.mov (.t 129))] (kp 132 [6,20,118,119,120]))))
  (.region [oa 130 (.bin .add (.t 120) (ai 1)), oa 120 (.mov (.t 130))] (kp 132 [6,20,118,119,120])))))
  (sk 132 [6,20,118,119,120]))
def j46_bbbbbbbbb : IC := (.seq (.region [oa 131 (.mov (.t 20)), oa 4 (.mov (.t 131)), oa 5 (.mov (ai 0))] (kp 132 [4,5]))
  (sr 132 [4,5]))
def j46_bbbbbbb : IC := (.seq (.region [oa 20 (.mov (.c (.slice none 0 (some 0))))] (kp 132 [1,6,20]))
  (.seq (.seq (.region [oa 118 (.mov (.t 1)), oa 119 (.lenSlice (.t 118)), oa 120 (.mov (ai 0))] (kp 132 [6,20,118,119,120]))
  (.block 10
  (.seq (sk 132 [6,20,118,119,120])
  (.loop l46_5))))
  j46_bbbbbbbbb))
def j46_bbbbbb : IC := (.seq (.seq (.region [oa 94 (.mov (.t 7)), oa 95 (.lenSlice (.t 94)), oa 96 (.mov (ai 0))] (kp 132 [1,2,4,5,6,94,95,96]))
  (.block 6
  (.seq (sk 132 [1,2,4,5,6,94,95,96])
  (.loop l46_4))))
  j46_bbbbbbb)
def j46_bbbbb : IC := (.seq (.seq (.region [oa 65 (.load none (.t 6)), oa 66 (.nilCheck (.t 65)), oa 67 (.fieldAddr 0 (.t 66)), oa 68 (.load none (.t 67)), oa 69 (.nilCheck (.t 68)), oa 70 (.fieldAddr 1 (.t 69)), oa 71 (.load none (.t 70)), oa 72 (.lenSlice (.t 71)), oa 73 (.mov (ai 0))] (kp 132 [1,2,4,5,6,7,71,72,73]))
  (.block 4
  (.seq (sk 132 [1,2,4,5,6,7,71,72,73])
  (.loop l46_2))))
  j46_bbbbbb)
def c46 : IFn := ⟨132, [(4, none), (5, none)],
  (.seq (.region [oa 2 (.box (.t 0)), oa 4 (.mov (.c (.slice none 0 (some 0)))), oa 5 (.mov (ai 0))] (kp 132 [1,2,4,5]))
  (.seq (.seq (.region [oa 23 (.load none (.t 2)), oa 24 (.call 89 [(.t 23)])] (kp 132 [1,2,4,5,24]))
  (.cond (.t 24)
  (.seq (.region [oa 4 (.mov (.c (.slice none 0 (some 0)))), oa 5 (.mov (ai 6))] (kp 132 [4,5]))
  (sr 132 [4,5]))
  (sk 132 [1,2,4,5])))
  (.seq (.region [oa 25 (.load none (.t 2)), oa 26 (.mov (.t 1)), oa 27 (.call 90 [(.t 25), (.t 26)]), oa 28 .mkMap, oa 29 .mkMap, oa 30 (.build [(.ptr none), (.map none), (.map none)] [(0, 1, (.t 27)), (1, 1, (.t 28)), (2, 1, (.t 29))]), oa 31 (.box (.t 30)), oa 6 (.alloc [(.ptr none)]), ob (.store 1 (.t 6) (.t 31))] (kp 132 [1,2,4,5,6]))
  (.seq (.region [oa 7 (.mov (.c (.slice none 0 (some 0))))] (kp 132 [1,2,4,5,6,7]))
  (.seq (.seq (.region [oa 32 (.load none (.t 2)), oa 33 (.call 27 [(.t 32)]), oa 34 (.mov (ai 0))] (kp 132 [1,2,4,5,6,7,33,34]))
  (.block 0
  (.seq (sk 132 [1,2,4,5,6,7,33,34])
  (.loop l46_1))))
  j46_bbbbb)))))⟩
theorem F46 : shutF Try.prog 46 = some c46 := by kernel_rfl


/-- The words of a region's objects. -/
def wordsR (g : Reg) : List (Int × Int) := g.objs.map fun x => ((x.at_ : Int), (g.life : Int))
/-- What has been collected. -/
structure ColS where
  regs : List Reg
  u : List Bool
  mv : ToF
  fx : List (Int × Int)
  objs : List (Int × Int)
/-- A region is collected. -/
def keptM (L : List (Int × Int)) (g : Reg) : List Obj := g.objs.filter fun x => decide (((x.at_ : Int), (g.life : Int)) ∈ L)
def colStep (L : List (Int × Int)) (S : ColS) (g : Reg) : ColS :=
  if 0 < g.pages.length then
    match layM 0 g.life ((keptM L g).map fun x => x.ws.length + 1) (freeP S.u g.pages) 0 [] with
    | some (ats, u', fill', pages') => ⟨S.regs ++ [{ g with fill := fill', pages := pages', objs := layObj (keptM L g) ats }], u',
        (((keptM L g).map fun x => ((x.at_ : Int), (g.life : Int))).zip (ats.map fun a : Nat => ((a : Int), (g.life : Int)))).foldl updF S.mv, S.fx, S.objs⟩
    | none => ⟨S.regs ++ [g], S.u, S.mv, S.fx, S.objs⟩
  else ⟨S.regs ++ [g], S.u, S.mv, S.fx ++ wordsR g, S.objs ++ wordsR g⟩
section
variable {o : Nat → Option O} {s : St} {C F : Ch} {Q : V → St → Prop} {p r : Nat} {u : List Bool}
set_option maxRecDepth 10000
set_option maxHeartbeats 4000000

theorem seenF_add (l : List (Int × Int)) (w : Int × Int) : (fun b => if b = w then some (V.bool true) else seenF l b) = seenF (l ++ [w]) := by
  funext b
  unfold seenF
  by_cases hb : b = w
  · subst hb; simp
  · simp [hb]

theorem fix_loop {c t tk fk cb kl : Nat} {v1 v2 v4 v5 v7 v33 v34 : V} {W : List (Int × Int)} {K : Kt} (mc : (c, some (.cells [ptrN t, .map (some (.new tk)), .map (some (.new fk))] none)) ∈ C) (mb : (cb, some (.cells [ptrN c] none)) ∈ C)
    (mo : (kl, rowO 2 W.length (W.flatMap encW)) ∈ C) (hl : W.length ≤ 100000) :
    ∀ (n i : Nat) (fx : List (Int × Int)) (mf : O) (s : St), i + n = W.length → MapIs encA (seenF fx) mf → Holds o s ((fk, some mf) :: C) →
    (∀ s' mf', MapIs encA (seenF (fx ++ W.drop i)) mf' → Holds o s' ((fk, some mf') :: C) → WP (K (.exit 2) (sp 132 [(1, v1), (2, v2), (4, v4), (5, v5), (6, ptrN cb), (7, v7), (9, rowV kl W.length), (33, v33), (34, v34)]) s') Q) →
    WP (loop PF (.loop l46_0) (sp 132 [(1, v1), (2, v2), (4, v4), (5, v5), (6, ptrN cb), (7, v7), (9, rowV kl W.length), (33, v33), (34, v34), (49, rowV kl W.length), (50, I W.length), (51, I i)]) s K) Q
  | 0, i, fx, mf, s, hi, hm, H, q => by
    have hlt : ¬ ((i : Int) < (W.length : Int)) := by omega
    rw [List.drop_eq_nil_of_le (by omega), List.append_nil] at q
    refine wp_round fun LL hLL => ?_
    simp -implicitDefEqProofs only [↓GP, GB, GL, Nat.reduceAdd, Nat.reduceSub, Nat.reduceEqDiff, Nat.reduceMul, Nat.reduceLeDiff, Int.reduceBNe, Int.reduceBEq, Nat.reduceLT, reduceCtorEq, l46_0, hlt]
    exact q s mf hm H
  | n + 1, i, fx, mf, s, hi, hm, H, q => by
    have hlt : ((i : Int) < (W.length : Int)) := by omega
    have hi' : i < W.length := by omega
    have hw1 := wrap_add1 (a := i) (by omega)
    have hix := ix_row (sz := 2) (k := kl) (n := W.length) (i := i) (kk := .i64) hi'
    have er : rowO 2 W.length (W.flatMap encW) = some (.cells (W.flatMap encW) (some 2)) := by unfold rowO; rw [if_neg (by omega)]
    have fr := H.mem (List.mem_cons_of_mem _ (er ▸ mo))
    have fc := H.mem (List.mem_cons_of_mem _ mc)
    have fb := H.mem (List.mem_cons_of_mem _ mb)
    have hld := ldN_tab (enc := encW) encW_len W (some 2) (List.getElem?_eq_getElem hi')
    rw [List.drop_eq_getElem_cons hi'] at q
    generalize W[i] = w at q hld
    have h1 := (H.alloc (.cells [I 0, I 0] none)).set0 (.cells (encW w) none)
    refine wp_round fun LL hLL => ?_
    simp -implicitDefEqProofs only [↓GP, GB, GL, Nat.reduceAdd, Nat.reduceSub, Nat.reduceEqDiff, Nat.reduceMul, Nat.reduceLeDiff, Int.reduceBNe, Int.reduceBEq, Nat.reduceLT, reduceCtorEq, l46_0, hlt, hix, fr, fc, fb, hld, encW]
    refine wp_mapSet (enc := encA) (a := w) (v := .bool true) keyA hm (h1.tl.g0) fun mf' hm' => ?_
    rw [seenF_add] at hm'
    simp -implicitDefEqProofs only [↓GP, GB, GL, Nat.reduceAdd, Nat.reduceSub, Nat.reduceEqDiff, Nat.reduceMul, Nat.reduceLeDiff, Int.reduceBNe, Int.reduceBEq, Nat.reduceLT, reduceCtorEq, hw1]
    rw [hLL]
    exact fix_loop mc mb mo hl n (i + 1) _ mf' _ (by omega) hm' (h1.set1 mf').tl (by simpa using q)

theorem kept_m (L : List (Int × Int)) (g : PReg) : keptM L g.m = (g.objs.filter fun x => decide (((x.b.at_ : Int), (g.life : Int)) ∈ L)).map (·.b) := by
  unfold keptM PReg.m
  rw [List.filter_map]
  rfl
theorem words_m (g : PReg) : wordsR g.m = wordsP g.life g.objs := by
  unfold wordsR wordsP PReg.m
  rw [List.map_map]
  rfl

theorem col_loop {c t tk fk lk mk hb cb id lv : Nat} {v1 v4 v5 : V} {L : List (Int × Int)} {m : O} {K : Kt} (mhb : (hb, some (.cells [ptrN id] none)) ∈ F) (mcb : (cb, some (.cells [ptrN c] none)) ∈ F) (hm : MapIs encA (seenF L) m) :
    ∀ (B A : List PReg) (hp : PHeap) (S : ColS) (ko : Nat) (mt mf : O) (s : St), hp.id = id → hp.lives = lv → hp.regs = A ++ B → A.map PReg.m = S.regs → RsOk hp.lives S.u (hp.regs.map PReg.m) → (∀ g ∈ hp.regs, g.ok) → S.objs.length ≤ A.length →
    MapIs encA (fun w => (S.mv w).map encA) mt → MapIs encA (seenF S.fx) mf →
    Holds o s ((ko, rowO 2 S.objs.length (S.objs.flatMap encW)) :: (poolC p r S.u ++ (hp.ch p ++ (colC c t tk fk mt mf ++ (huntC t lk mk (ptrN id) L m ++ F))))) →
    (∀ s' (hp' : PHeap) ko' mt' mf', hp'.id = id → hp'.lives = lv → hp'.regs.length = hp.regs.length → hp'.regs.map PReg.m = ((B.map PReg.m).foldl (colStep L) S).regs → RsOk lv ((B.map PReg.m).foldl (colStep L) S).u (hp'.regs.map PReg.m) → (∀ g ∈ hp'.regs, g.ok) → ((B.map PReg.m).foldl (colStep L) S).objs.length ≤ hp.regs.length →
      MapIs encA (fun w => (((B.map PReg.m).foldl (colStep L) S).mv w).map encA) mt' → MapIs encA (seenF ((B.map PReg.m).foldl (colStep L) S).fx) mf' →
      Holds o s' ((ko', rowO 2 ((B.map PReg.m).foldl (colStep L) S).objs.length (((B.map PReg.m).foldl (colStep L) S).objs.flatMap encW)) :: (poolC p r ((B.map PReg.m).foldl (colStep L) S).u ++ (hp'.ch p ++ (colC c t tk fk mt' mf' ++ (huntC t lk mk (ptrN id) L m ++ F))))) →
      WP (K (.exit 0) (sp 132 [(1, v1), (2, ptrN hb), (4, v4), (5, v5), (6, ptrN cb), (7, rowV ko' ((B.map PReg.m).foldl (colStep L) S).objs.length)]) s') Q) →
    WP (loop PF (.loop l46_1) (sp 132 [(1, v1), (2, ptrN hb), (4, v4), (5, v5), (6, ptrN cb), (7, rowV ko S.objs.length), (33, I hp.regs.length), (34, I A.length)]) s K) Q
  | [], A, hp, S, ko, mt, mf, s, hid, hlv, hr, hA, hR, hok, hob, hmt, hmf, H, q => by
    have hlt : ¬ ((A.length : Int) < (hp.regs.length : Int)) := by rw [hr]; simp
    refine wp_round fun LL hLL => ?_
    simp -implicitDefEqProofs only [↓GP, GB, GL, Nat.reduceAdd, Nat.reduceSub, Nat.reduceEqDiff, Nat.reduceMul, Nat.reduceLeDiff, Int.reduceBNe, Int.reduceBEq, Nat.reduceLT, reduceCtorEq, l46_1, hlt]
    rw [List.append_nil] at hr
    exact q s hp ko mt mf hid hlv rfl (by rw [hr]; exact hA) (hlv ▸ hR) hok (by rw [hr]; exact hob) hmt hmf H
  | g :: B, A, hp, S, ko, mt, mf, s, hid, hlv, hr, hA, hR, hok, hob, hmt, hmf, H, q => by
    have hlen : hp.regs.length ≤ 100000 := by have h1 := hR.inv.len; have h2 := hR.inv.lives; rw [List.length_map] at h1; omega
    have hlt : ((A.length : Int) < (hp.regs.length : Int)) := by rw [hr]; simp; omega
    have hAl : A.length < hp.regs.length := by rw [hr]; simp
    have hg : hp.regs[A.length]? = some g := by rw [hr]; simp
    have mg := List.mem_of_getElem? hg
    have hri := hR.inv.reg g.m (List.mem_map.2 ⟨g, mg, rfl⟩)
    have hw1 := wrap_add1 (a := A.length) (by omega)
    have hu := hR.ulen
    have hpl : g.pages.length ≤ 30 := by
      have hrm : g.m ∈ hp.regs.map PReg.m := List.mem_map.2 ⟨g, mg, rfl⟩
      have hsb := sub_flatMap (fun r : Reg => r.pages) hrm
      have := hR.pool.sub_len hsb
      simp only [PReg.m] at *; omega
    subst hid
    have hin : In ((ko, rowO 2 S.objs.length (S.objs.flatMap encW)) :: (poolC p r S.u ++ (hp.ch p ++ (colC c t tk fk mt mf ++ (huntC t lk mk (ptrN hp.id) L m ++ F))))) p hp := ⟨fun x hx => List.mem_cons_of_mem _ (List.mem_append_right _ (List.mem_append_left _ hx))⟩
    have inF : ∀ x ∈ F, x ∈ (ko, rowO 2 S.objs.length (S.objs.flatMap encW)) :: (poolC p r S.u ++ (hp.ch p ++ (colC c t tk fk mt mf ++ (huntC t lk mk (ptrN hp.id) L m ++ F)))) :=
      fun x hx => List.mem_cons_of_mem _ (List.mem_append_right _ (List.mem_append_right _ (List.mem_append_right _ (List.mem_append_right _ hx))))
    have fh := H.mem (inF _ mhb)
    have fc := H.mem (inF _ mcb)
    refine wp_round fun LL hLL => ?_
    simp -implicitDefEqProofs only [↓GP, GB, GL, Nat.reduceAdd, Nat.reduceSub, Nat.reduceEqDiff, Nat.reduceMul, Nat.reduceLeDiff, Int.reduceBNe, Int.reduceBEq, Nat.reduceLT, reduceCtorEq, l46_1, hlt, fh, fc]
    refine wp_in (s91 H hin hlen hg (by omega) fun s1 h1 => ?_)
    have fh1 := h1.mem (inF _ mhb)
    have fc1 := h1.mem (inF _ mcb)
    by_cases hpg : 0 < g.pages.length
    · rw [decide_eq_true hpg]
      have hs0 : g.size = 0 := by
        rcases Nat.eq_zero_or_pos g.size with h | h
        · exact h
        · have := (hri.fin h).1; simp only [PReg.m] at this; rw [this] at hpg; simp at hpg
      simp -implicitDefEqProofs only [↓GP, GB, GL, Nat.reduceAdd, Nat.reduceSub, Nat.reduceEqDiff, Nat.reduceMul, Nat.reduceLeDiff, Int.reduceBNe, Int.reduceBEq, Nat.reduceLT, reduceCtorEq, fh1, fc1]
      refine wp_in (s92 (p := p) (r := r) (u := S.u) (F := (ko, rowO 2 S.objs.length (S.objs.flatMap encW)) :: F) (lk := lk) (mk := mk) (L := L) (m := m) (t := t) (tk := tk) (fk := fk) (mt := mt) (mf := mf) (Holds.of (h1) (fun k => by simp +arith only [HA, HB]) (fun k x => by simp only [HA, HC]; grind only)) hr hs0 hok hR hm hmt fun s2 u' fill' pages' ats pgk obk plk pl mt' hlay hul okp hR' hm' h2 => ?_)
      generalize hg1 : ({ g with pgk := pgk, obk := obk, plk := plk, pl := pl, fill := fill', pages := pages', objs := relay (g.objs.filter fun x => decide (((x.b.at_ : Int), (g.life : Int)) ∈ L)) ats } : PReg) = g1 at okp hR' h2
      have e : colStep L S g.m = ⟨S.regs ++ [PReg.m g1], u', ((wordsP g.life (g.objs.filter fun x => decide (((x.b.at_ : Int), (g.life : Int)) ∈ L))).zip (ats.map fun a : Nat => ((a : Int), (g.life : Int)))).foldl updF S.mv, S.fx, S.objs⟩ := by
        have hl : layM 0 g.m.life ((keptM L g.m).map fun x => x.ws.length + 1) (freeP S.u g.m.pages) 0 [] = some (ats, u', fill', pages') := by
          rw [kept_m, List.map_map]; exact hlay
        unfold colStep
        rw [if_pos (show 0 < g.m.pages.length from hpg), hl]
        simp only [kept_m, List.map_map, wordsP, ← hg1]
        simp only [PReg.m, relay_b]
        rfl
      obtain ⟨S1, hS1⟩ : ∃ S1 : ColS, S1 = ⟨S.regs ++ [PReg.m g1], u', ((wordsP g.life (g.objs.filter fun x => decide (((x.b.at_ : Int), (g.life : Int)) ∈ L))).zip (ats.map fun a : Nat => ((a : Int), (g.life : Int)))).foldl updF S.mv, S.fx, S.objs⟩ := ⟨_, rfl⟩
      rw [← hS1] at e
      rw [List.map_cons, List.foldl_cons, e] at q
      have eo : S1.objs = S.objs := by rw [hS1]
      simp -implicitDefEqProofs only [↓GP, GB, GL, Nat.reduceAdd, Nat.reduceSub, Nat.reduceEqDiff, Nat.reduceMul, Nat.reduceLeDiff, Int.reduceBNe, Int.reduceBEq, Nat.reduceLT, reduceCtorEq, hw1]
      rw [hLL]
      have hl1 : (A ++ [g1]).length = A.length + 1 := by simp
      have hl2 : (A ++ g1 :: B).length = hp.regs.length := by rw [hr]; simp
      have := col_loop (K := K) (v1 := v1) (v4 := v4) (v5 := v5) mhb mcb hm B (A ++ [g1]) { hp with regs := A ++ g1 :: B } S1 ko mt' mf s2 rfl hlv (by simp) (by rw [List.map_append, hA, hS1]; rfl) (by rw [hS1]; exact hR') (fun x hx => by
        rcases List.mem_append.1 hx with hx | hx
        · exact hok x (by rw [hr]; exact List.mem_append_left _ hx)
        · rcases List.mem_cons.1 hx with rfl | hx
          · exact okp
          · exact hok x (by rw [hr]; simp [hx])) (by rw [hl1, eo]; exact Nat.le_succ_of_le hob) (by rw [hS1]; exact hm') (by rw [hS1]; exact hmf) (by subst hS1; exact (Holds.of (h2) (fun k => by simp +arith only [HA, HB]) (fun k x => by simp only [HA, HC]; grind only))) (by
          intro s' hp' ko' mt' mf' e1 e2 e3
          simp only [hl2] at e3 ⊢
          exact q s' hp' ko' mt' mf' e1 e2 e3)
      rw [hl1, eo] at this
      simp only [hl2] at this
      exact this
    · rw [decide_eq_false hpg]
      simp -implicitDefEqProofs only [↓GP, GB, GL, Nat.reduceAdd, Nat.reduceSub, Nat.reduceEqDiff, Nat.reduceMul, Nat.reduceLeDiff, Int.reduceBNe, Int.reduceBEq, Nat.reduceLT, reduceCtorEq, fh1, fc1]
      have hno : g.objs.length ≤ 1 := by have := hri.nobjs; simp only [PReg.m, List.length_map] at this; omega
      refine wp_in (s28 h1 hin hlen hg (by omega) fun s2 kl h2 => ?_)
      rw [words_enc, show g.objs.length = (wordsP g.life g.objs).length by simp [wordsP]] at h2
      rw [show g.objs.length = (wordsP g.life g.objs).length by simp [wordsP]]
      have hwl : (wordsP g.life g.objs).length ≤ 1 := by simpa [wordsP] using hno
      have e : colStep L S g.m = ⟨S.regs ++ [g.m], S.u, S.mv, S.fx ++ wordsP g.life g.objs, S.objs ++ wordsP g.life g.objs⟩ := by
        unfold colStep
        rw [if_neg (show ¬ 0 < g.m.pages.length from hpg), words_m]
      generalize wordsP g.life g.objs = W at h2 hwl e
      simp -implicitDefEqProofs only [↓GP, GB, GL, Nat.reduceAdd, Nat.reduceSub, Nat.reduceEqDiff, Nat.reduceMul, Nat.reduceLeDiff, Int.reduceBNe, Int.reduceBEq, Nat.reduceLT, reduceCtorEq]
      have h3 : Holds o s2 ((fk, some mf) :: (ko, rowO 2 S.objs.length (S.objs.flatMap encW)) :: (kl, rowO 2 W.length (W.flatMap encW)) :: (c, some (.cells [ptrN t, .map (some (.new tk)), .map (some (.new fk))] none)) :: (tk, some mt) ::
        (poolC p r S.u ++ (hp.ch p ++ (huntC t lk mk (ptrN hp.id) L m ++ F)))) := (Holds.of (h2) (fun k => by simp +arith only [colC, HA, HB]) (fun k x => by simp only [colC, HA, HC]; grind only))
      refine fix_loop (t := t) (tk := tk) (List.mem_cons_of_mem _ (List.mem_cons_of_mem _ (List.mem_cons_self ..))) (List.mem_cons_of_mem _ (List.mem_cons_of_mem _ (List.mem_cons_of_mem _ (List.mem_cons_of_mem _ (List.mem_append_right _ (List.mem_append_right _ (List.mem_append_right _ mcb))))))) (List.mem_cons_of_mem _ (List.mem_cons_self ..)) (by omega) W.length 0 S.fx mf s2 (by omega) hmf h3 fun s3 mf' hm' h4 => ?_
      rw [List.drop_zero] at hm'
      simp -implicitDefEqProofs only [↓GP, GB, GL, Nat.reduceAdd, Nat.reduceSub, Nat.reduceEqDiff, Nat.reduceMul, Nat.reduceLeDiff, Int.reduceBNe, Int.reduceBEq, Nat.reduceLT, reduceCtorEq]
      have fl : W.length = 0 ∨ s3.new kl = some (.cells (W.flatMap encW) (some 2)) := by
        by_cases h0 : W.length = 0
        · exact .inl h0
        · have er : rowO 2 W.length (W.flatMap encW) = some (.cells (W.flatMap encW) (some 2)) := by unfold rowO; rw [if_neg h0]
          rw [er] at h4
          exact .inr (h4.mem (List.mem_cons_of_mem _ (List.mem_cons_of_mem _ (List.mem_cons_self ..)))).1
      refine wp_append (sz := 2) (bytes := 16) (m := W.length) (cs := S.objs.flatMap encW) h4.r1 (by rw [tab_len encW_len]) (new_row fl (by rw [tab_len encW_len])) (by rw [tab_len encW_len]) (by rw [List.all_flatMap]; simp [encW, V.one]) (by omega) (by unfold maxRow; omega) (by unfold maxRow; omega) fun ko' s4 h5 => ?_
      obtain ⟨S1, hS1⟩ : ∃ S1 : ColS, S1 = ⟨S.regs ++ [g.m], S.u, S.mv, S.fx ++ W, S.objs ++ W⟩ := ⟨_, rfl⟩
      rw [← hS1] at e
      rw [List.map_cons, List.foldl_cons, e] at q
      have eo : S1.objs.length = S.objs.length + W.length := by rw [hS1]; simp
      simp -implicitDefEqProofs only [↓GP, GB, GL, Nat.reduceAdd, Nat.reduceSub, Nat.reduceEqDiff, Nat.reduceMul, Nat.reduceLeDiff, Int.reduceBNe, Int.reduceBEq, Nat.reduceLT, reduceCtorEq, hw1]
      rw [hLL]
      have hl1 : (A ++ [g]).length = A.length + 1 := by simp
      have := col_loop (K := K) (v1 := v1) (v4 := v4) (v5 := v5) mhb mcb hm B (A ++ [g]) hp S1 ko' mt mf' s4 rfl hlv (by simp [hr]) (by rw [List.map_append, hA, hS1]; rfl) (by rw [hS1]; exact hR) hok (by omega) (by rw [hS1]; exact hmt) (by rw [hS1]; exact hm')
        (by subst hS1; exact (Holds.of (h5) (fun k => by simp +arith only [colC, List.length_append, List.flatMap_append, HA, HB]) (fun k x => by simp only [colC, List.length_append, List.flatMap_append, HA, HC]; grind only))) q
      rw [hl1, eo] at this
      exact this
end
end Go.Proofs.Ytoldkemimhebaaa

/- Layer 16: Collect: the objects, the words, the roots. -/
set_option linter.unusedSimpArgs false
set_option linter.unusedVariables false
namespace Go.Proofs.Ytoldkemimhebaaa
open Go Go.IM

section
variable {o : Nat → Option O} {s : St} {C F : Ch} {Q : V → St → Prop} {p r : Nat} {u : List Bool}
set_option maxRecDepth 10000
set_option maxHeartbeats 4000000

def toD (mv : ToF) (w : Int × Int) : Int × Int := (mv w).getD (0, 0)

theorem obj_loop {c t tk fk lk cb : Nat} {v1 v2 v4 v5 : V} {L fx : List (Int × Int)} {mv : ToF} {mt mf : O} {K : Kt} (hs : ∀ x ∈ colC c t tk fk mt mf, x ∈ C) (mb : (cb, some (.cells [ptrN c] none)) ∈ C) (mo : (lk, rowO 2 L.length (L.flatMap encW)) ∈ C)
    (hmt : MapIs encA (fun w => (mv w).map encA) mt) (hmf : MapIs encA (seenF fx) mf) (hl : L.length ≤ 100000) :
    ∀ (n i k : Nat) (acc : List (Int × Int)) (s : St), i + n = L.length → acc.length ≤ 100000 + i → Holds o s ((k, rowO 2 acc.length (acc.flatMap encW)) :: C) →
    (∀ s' k', Holds o s' ((k', rowO 2 (acc ++ ((L.drop i).filter fun w => !decide (w ∈ fx)).map (toD mv)).length ((acc ++ ((L.drop i).filter fun w => !decide (w ∈ fx)).map (toD mv)).flatMap encW)) :: C) →
      WP (K (.exit 4) (sp 132 [(1, v1), (2, v2), (4, v4), (5, v5), (6, ptrN cb), (7, rowV k' (acc ++ ((L.drop i).filter fun w => !decide (w ∈ fx)).map (toD mv)).length)]) s') Q) →
    WP (loop PF (.loop l46_2) (sp 132 [(1, v1), (2, v2), (4, v4), (5, v5), (6, ptrN cb), (7, rowV k acc.length), (71, rowV lk L.length), (72, I L.length), (73, I i)]) s K) Q
  | 0, i, k, acc, s, hi, ha, H, q => by
    have hlt : ¬ ((i : Int) < (L.length : Int)) := by omega
    rw [List.drop_eq_nil_of_le (by omega), List.filter_nil, List.map_nil, List.append_nil] at q
    refine wp_round fun LL hLL => ?_
    simp -implicitDefEqProofs only [↓GP, GB, GL, Nat.reduceAdd, Nat.reduceSub, Nat.reduceEqDiff, Nat.reduceMul, Nat.reduceLeDiff, Int.reduceBNe, Int.reduceBEq, Nat.reduceLT, reduceCtorEq, l46_2, hlt]
    exact q s k H
  | n + 1, i, k, acc, s, hi, ha, H, q => by
    have hlt : ((i : Int) < (L.length : Int)) := by omega
    have hi' : i < L.length := by omega
    have hw1 := wrap_add1 (a := i) (by omega)
    have hix := ix_row (sz := 2) (k := lk) (n := L.length) (i := i) (kk := .i64) hi'
    have er : rowO 2 L.length (L.flatMap encW) = some (.cells (L.flatMap encW) (some 2)) := by unfold rowO; rw [if_neg (by omega)]
    have fr := H.mem (List.mem_cons_of_mem _ (er ▸ mo))
    have fc := H.mem (List.mem_cons_of_mem _ (hs (c, some (.cells [ptrN t, .map (some (.new tk)), .map (some (.new fk))] none)) (List.mem_cons_self ..)))
    have mt' := hs (tk, some mt) (List.mem_cons_of_mem _ (List.mem_cons_self ..))
    have mf' := hs (fk, some mf) (List.mem_cons_of_mem _ (List.mem_cons_of_mem _ (List.mem_cons_self ..)))
    have fb := H.mem (List.mem_cons_of_mem _ mb)
    have hld := ldN_tab (enc := encW) encW_len L (some 2) (List.getElem?_eq_getElem hi')
    rw [List.drop_eq_getElem_cons hi', List.filter_cons] at q
    generalize L[i] = w at q hld
    have h1 := (H.alloc (.cells [I 0, I 0] none)).set0 (.cells (encW w) none)
    have el := lookup_map keyA hmf (h1.mem (List.mem_cons_of_mem _ (List.mem_cons_of_mem _ mf'))).1 (.bool false) false w
    simp only [encA, encW, Bool.false_eq_true, if_false] at el
    by_cases hw : w ∈ fx
    · rw [show seenF fx w = some (.bool true) from if_pos hw, Option.getD_some] at el
      rw [if_neg (by simpa using hw)] at q
      refine wp_round fun LL hLL => ?_
      simp -implicitDefEqProofs only [↓GP, GB, GL, Nat.reduceAdd, Nat.reduceSub, Nat.reduceEqDiff, Nat.reduceMul, Nat.reduceLeDiff, Int.reduceBNe, Int.reduceBEq, Nat.reduceLT, reduceCtorEq, l46_2, hlt, hix, fr, fc, fb, hld, encW, el, hw1]
      rw [hLL]
      exact obj_loop hs mb mo hmt hmf hl n (i + 1) k acc _ (by omega) (by omega) (Holds.of (h1) (fun k => by simp +arith only [encW, HA, HB]) (fun k x => by simp only [encW, HA, HC]; grind only)) q
    · rw [show seenF fx w = none from if_neg hw, Option.getD_none] at el
      rw [if_pos (by simpa using hw)] at q
      have el2 := lookup_map keyA hmt (h1.mem (List.mem_cons_of_mem _ (List.mem_cons_of_mem _ mt'))).1 (.agg [I 0, I 0]) false w
      rw [show ((mv w).map encA).getD (.agg [I 0, I 0]) = encA (toD mv w) by unfold toD; cases mv w <;> rfl] at el2
      simp only [encA, encW, Bool.false_eq_true, if_false] at el2
      refine wp_round fun LL hLL => ?_
      simp -implicitDefEqProofs only [↓GP, GB, GL, Nat.reduceAdd, Nat.reduceSub, Nat.reduceEqDiff, Nat.reduceMul, Nat.reduceLeDiff, Int.reduceBNe, Int.reduceBEq, Nat.reduceLT, reduceCtorEq, l46_2, hlt, hix, fr, fc, fb, hld, encW, el, el2]
      refine wp_append (sz := 2) (bytes := 16) (m := 1) (cs := acc.flatMap encW) ((h1.alloc _).r2) (by rw [tab_len encW_len]) (new_cells' (alloc_new_same _ _) rfl) rfl rfl (by omega) (by unfold maxRow; omega) (by unfold maxRow; omega) fun k' s1 h2 => ?_
      simp -implicitDefEqProofs only [↓GP, GB, GL, Nat.reduceAdd, Nat.reduceSub, Nat.reduceEqDiff, Nat.reduceMul, Nat.reduceLeDiff, Int.reduceBNe, Int.reduceBEq, Nat.reduceLT, reduceCtorEq, hw1]
      rw [hLL]
      have hl1 : (acc ++ [toD mv w]).length = acc.length + 1 := by simp
      have := obj_loop (K := K) (v1 := v1) (v2 := v2) (v4 := v4) (v5 := v5) hs mb mo hmt hmf hl n (i + 1) k' (acc ++ [toD mv w]) s1 (by omega) (by simp; omega) (by
        have h3 := h2.r1.tl.r1.tl
        rw [List.flatMap_append]; simpa [encW] using h3) (by simpa using q)
      rw [hl1] at this
      exact this

theorem out_loop {c t tk fk cb kr : Nat} {roots fx : List (Int × Int)} {mv : ToF} {mt mf : O} {K : Kt} (hs : ∀ x ∈ colC c t tk fk mt mf, x ∈ C) (mb : (cb, some (.cells [ptrN c] none)) ∈ C) (mo : (kr, rowO 2 roots.length (roots.flatMap encW)) ∈ C)
    (hmt : MapIs encA (fun w => (mv w).map encA) mt) (hmf : MapIs encA (seenF fx) mf) (hl : roots.length ≤ 100000) :
    ∀ (n i k : Nat) (acc : List (Int × Int)) (s : St), i + n = roots.length → acc.length ≤ i → Holds o s ((k, rowO 2 acc.length (acc.flatMap encW)) :: C) →
    (∀ s' k', Holds o s' ((k', rowO 2 (acc ++ (roots.drop i).map (nowW mv fx)).length ((acc ++ (roots.drop i).map (nowW mv fx)).flatMap encW)) :: C) →
      WP (K (.exit 10) (sp 132 [(20, rowV k' (acc ++ (roots.drop i).map (nowW mv fx)).length)]) s') Q) →
    WP (loop PF (.loop l46_5) (sp 132 [(6, ptrN cb), (20, rowV k acc.length), (118, rowV kr roots.length), (119, I roots.length), (120, I i)]) s K) Q
  | 0, i, k, acc, s, hi, ha, H, q => by
    have hlt : ¬ ((i : Int) < (roots.length : Int)) := by omega
    rw [List.drop_eq_nil_of_le (by omega), List.map_nil, List.append_nil] at q
    refine wp_round fun LL hLL => ?_
    simp -implicitDefEqProofs only [↓GP, GB, GL, Nat.reduceAdd, Nat.reduceSub, Nat.reduceEqDiff, Nat.reduceMul, Nat.reduceLeDiff, Int.reduceBNe, Int.reduceBEq, Nat.reduceLT, reduceCtorEq, l46_5, hlt]
    exact q s k H
  | n + 1, i, k, acc, s, hi, ha, H, q => by
    have hlt : ((i : Int) < (roots.length : Int)) := by omega
    have hi' : i < roots.length := by omega
    have hw1 := wrap_add1 (a := i) (by omega)
    have hix := ix_row (sz := 2) (k := kr) (n := roots.length) (i := i) (kk := .i64) hi'
    have er : rowO 2 roots.length (roots.flatMap encW) = some (.cells (roots.flatMap encW) (some 2)) := by unfold rowO; rw [if_neg (by omega)]
    have fr := H.mem (List.mem_cons_of_mem _ (er ▸ mo))
    have fb := H.mem (List.mem_cons_of_mem _ mb)
    have hld := ldN_tab (enc := encW) encW_len roots (some 2) (List.getElem?_eq_getElem hi')
    rw [List.drop_eq_getElem_cons hi', List.map_cons] at q
    generalize roots[i] = w at q hld
    have h1 := ((H.alloc (.cells [I 0, I 0] none)).set0 (.cells (encW w) none)).tl
    refine wp_round fun LL hLL => ?_
    simp -implicitDefEqProofs only [↓GP, GB, GL, Nat.reduceAdd, Nat.reduceSub, Nat.reduceEqDiff, Nat.reduceMul, Nat.reduceLeDiff, Int.reduceBNe, Int.reduceBEq, Nat.reduceLT, reduceCtorEq, l46_5, hlt, hix, fr, fb, hld, encW]
    refine wp_in (s94 (w := w) h1 (fun x hx => List.mem_cons_of_mem _ (hs x hx)) hmt hmf fun s1 h2 => ?_)
    simp -implicitDefEqProofs only [↓GP, GB, GL, Nat.reduceAdd, Nat.reduceSub, Nat.reduceEqDiff, Nat.reduceMul, Nat.reduceLeDiff, Int.reduceBNe, Int.reduceBEq, Nat.reduceLT, reduceCtorEq, encW]
    refine wp_append (sz := 2) (bytes := 16) (m := 1) (cs := acc.flatMap encW) ((h2.alloc _).r1) (by rw [tab_len encW_len]) (new_cells' (alloc_new_same _ _) rfl) rfl rfl (by omega) (by unfold maxRow; omega) (by unfold maxRow; omega) fun k' s2 h3 => ?_
    simp -implicitDefEqProofs only [↓GP, GB, GL, Nat.reduceAdd, Nat.reduceSub, Nat.reduceEqDiff, Nat.reduceMul, Nat.reduceLeDiff, Int.reduceBNe, Int.reduceBEq, Nat.reduceLT, reduceCtorEq, hw1]
    rw [hLL]
    have hl1 : (acc ++ [nowW mv fx w]).length = acc.length + 1 := by simp
    have := out_loop (K := K) hs mb mo hmt hmf hl n (i + 1) k' (acc ++ [nowW mv fx w]) s2 (by omega) (by simp; omega) (by
      have h4 := h3.r1.tl
      rw [List.flatMap_append]; simpa [encW] using h4) (by simpa using q)
    rw [hl1] at this
    exact this
end
end Go.Proofs.Ytoldkemimhebaaa
