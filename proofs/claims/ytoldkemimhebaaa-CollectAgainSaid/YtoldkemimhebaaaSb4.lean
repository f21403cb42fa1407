/- Texts PgK, PgN, PgO, PgU, PgW, Im13, PgB, Pg2, Pc2, Pc3, Pc4, Pg3, Pc5. -/
import Derived.ProofKit
import Derived.SizedLaws
import Derived.Test.YtoldkemimhebaaaSb3

set_option linter.unusedSimpArgs false
set_option linter.unusedVariables false
namespace Go.Proofs.Ytoldkemimhebaaa
open Go Go.IM
def l48_0 : IC := (.seq (.seq (.seq (.region [oa 11 (.mov (.t 5)), oa 12 (.mov (.t 0)), oa 13 (.lenSlice (.t 12)), oa 14 (.bin .lss (.t 11) (.t 13))] (kp 26 [0,1,5,14]))
  (.cond (.t 14)
  (sk 26 [0,1,5])
  (sx 26 [] 0)))
  (.seq (.block 1
  (.seq (.region [oa 17 (.mov (.t 0)), oa 18 (.mov (.t 5)), oa 19 (.indexAddr 2 (.t 17) (.t 18)), oa 20 (.load (some 2) (.t 19)), oa 21 (.mov (.t 1)), oa 22 (.mov (.t 5)), oa 23 (.indexAddr 2 (.t 21) (.t 22)), oa 24 (.load (some 2) (.t 23)), oa 25 (.eql true (.key (.agg [.i, .i])) (.t 20) (.t 24))] (kp 26 [0,1,5,25]))
  (.cond (.t 25)
  (.seq (.region [oa 4 (.mov (.c (.bool false)))] (kp 26 [4]))
  (sr 26 [4]))
  (sk 26 [0,1,5]))))
  (.region [oa 15 (.mov (.t 5)), oa 16 (.bin .add (.t 15) (ai 1)), oa 5 (.mov (.t 16))] (kp 26 [0,1,5]))))
  (sk 26 [0,1,5]))
def c48 : IFn := ⟨26, [(4, none)],
  (.seq (.region [oa 4 (.mov (.c (.bool false)))] (kp 26 [0,1]))
  (.seq (.seq (.region [oa 6 (.mov (.t 0)), oa 7 (.lenSlice (.t 6)), oa 8 (.mov (.t 1)), oa 9 (.lenSlice (.t 8)), oa 10 (.bin .neq (.t 7) (.t 9))] (kp 26 [0,1,10]))
  (.cond (.t 10)
  (.seq (.region [oa 4 (.mov (.c (.bool false)))] (kp 26 [4]))
  (sr 26 [4]))
  (sk 26 [0,1])))
  (.seq (.seq (.region [oa 5 (.mov (ai 0))] (kp 26 [0,1,5]))
  (.block 0
  (.seq (sk 26 [0,1,5])
  (.loop l48_0))))
  (.seq (.region [oa 4 (.mov (.c (.bool true)))] (kp 26 [4]))
  (sr 26 [4])))))⟩
theorem F48 : shutF Try.prog 48 = some c48 := by kernel_rfl
def c64 : IFn := ⟨32, [(4, (some (some 2)))],
  (.seq (.region [oa 3 (.box (.t 1)), oa 4 (.alloc [(.int .i64 (0)), (.int .i64 (0))])] (kp 32 [0,3,4]))
  (.seq (.seq (.region [oa 5 (.fieldAddr 5 (.t 3)), oa 6 (.load none (.t 5)), oa 7 (.bin .lss (.t 6) (ai 0)), oa 8 (.mov (.t 7)), oc 9 (.mov (.t 0)) 8 ff, oc 10 (.nilCheck (.t 9)) 8 ff, oc 11 (.fieldAddr 2 (.t 10)) 8 ff, oc 12 (.load none (.t 11)) 8 ff, oc 13 (.lenSlice (.t 12)) 8 ff, oc 14 (.bin .eql (.t 13) (ai 0)) 8 ff, oa 15 (.pick (.t 8) (.c (.bool true)) (.t 14))] (kp 32 [0,3,4,15]))
  (.cond (.t 15)
  (.seq (.region [oa 16 (.fieldAddr 6 (.t 3)), oa 17 (.load (some 2) (.t 16)), ob (.store 2 (.t 4) (.t 17))] (kp 32 [4]))
  (sr 32 [4]))
  (sk 32 [0,3,4])))
  (.seq (.region [oa 18 (.mov (.t 0)), oa 19 (.nilCheck (.t 18)), oa 20 (.fieldAddr 2 (.t 19)), oa 21 (.load none (.t 20)), oa 22 (.fieldAddr 5 (.t 3)), oa 23 (.load none (.t 22)), oa 24 (.mov (.t 0)), oa 25 (.nilCheck (.t 24)), oa 26 (.fieldAddr 2 (.t 25)), oa 27 (.load none (.t 26)), oa 28 (.lenSlice (.t 27)), oa 29 (.bin .rem (.t 23) (.t 28)), oa 30 (.indexAddr 2 (.t 21) (.t 29)), oa 31 (.load (some 2) (.t 30)), ob (.store 2 (.t 4) (.t 31))] (kp 32 [4]))
  (sr 32 [4]))))⟩
theorem F64 : shutF Try.prog 64 = some c64 := by kernel_rfl
def j63_bb : IC := (.seq (.region [oa 24 (.mov (.t 0)), oa 25 (.nilCheck (.t 24)), oa 26 (.fieldAddr 1 (.t 25)), oa 27 (.load none (.t 26)), oa 28 (.fieldAddr 2 (.t 3)), oa 29 (.load none (.t 28)), oa 30 (.fieldAddr 3 (.t 3)), oa 31 (.load none (.t 30)), oa 32 (.fieldAddr 4 (.t 3)), oa 33 (.load none (.t 32)), oa 7 (.alloc [(.int .i64 (0)), (.int .i64 (0))]), oa 34 (.call 107 [(.t 27), (.t 29), (.t 31), (.t 33)]), oa 23 (.mov (.t 34)), oa 35 (.extract (.t 23) 0), oa 36 (.extract (.t 23) 1), ob (.store 2 (.t 7) (.t 35)), oa 8 (.mov (.t 36))] (kp 57 [0,5,6,7,8]))
  (.seq (.seq (.region [oa 37 (.mov (.t 8)), oa 38 (.bin .eql (.t 37) (ai 0))] (kp 57 [0,5,6,7,8,38]))
  (.cond (.t 38)
  (.region [oa 39 (.mov (.t 0)), oa 40 (.mov (.t 0)), oa 41 (.nilCheck (.t 40)), oa 42 (.fieldAddr 2 (.t 41)), oa 43 (.load none (.t 42)), oa 44 (.load (some 2) (.t 7)), oa 45 (.buildSlice 1 [(.int .i64 (0)), (.int .i64 (0))] [(0, 2, (.t 44))]), oa 46 (.append 2 16 (.t 43) (.t 45)), oa 47 (.nilCheck (.t 39)), oa 48 (.fieldAddr 2 (.t 47)), ob (.store 1 (.t 48) (.t 46))] (kp 57 [5,6,7,8]))
  (sk 57 [5,6,7,8])))
  (.seq (.region [oa 49 (.load (some 2) (.t 5)), oa 50 (.load (some 2) (.t 7)), oa 51 (.eql false (.key (.agg [.i, .i])) (.t 49) (.t 50)), oa 52 (.mov (.t 51)), oc 53 (.mov (.t 6)) 52 tt, oc 54 (.mov (.t 8)) 52 tt, oc 55 (.bin .eql (.t 53) (.t 54)) 52 tt, oa 56 (.pick (.t 52) (.t 55) (.c (.bool false))), oa 4 (.mov (.t 56))] (kp 57 [4]))
  (sr 57 [4]))))
def c63 : IFn := ⟨57, [(4, none)],
  (.seq (.region [oa 3 (.box (.t 1)), oa 4 (.mov (.c (.bool false)))] (kp 57 [0,3]))
  (.seq (.region [oa 10 (.mov (.t 0)), oa 11 (.nilCheck (.t 10)), oa 12 (.fieldAddr 0 (.t 11)), oa 13 (.load none (.t 12)), oa 14 (.fieldAddr 2 (.t 3)), oa 15 (.load none (.t 14)), oa 16 (.fieldAddr 3 (.t 3)), oa 17 (.load none (.t 16)), oa 18 (.fieldAddr 4 (.t 3)), oa 19 (.load none (.t 18)), oa 5 (.alloc [(.int .i64 (0)), (.int .i64 (0))]), oa 20 (.call 34 [(.t 13), (.t 15), (.t 17), (.t 19)]), oa 9 (.mov (.t 20)), oa 21 (.extract (.t 9) 0), oa 22 (.extract (.t 9) 1), ob (.store 2 (.t 5) (.t 21)), oa 6 (.mov (.t 22))] (kp 57 [0,3,5,6]))
  j63_bb))⟩
theorem F63 : shutF Try.prog 63 = some c63 := by kernel_rfl
structure ActG where
  d : Int
  hn : Int
  a : Int
  b : Int
  c : Int
  which : Int
  w : Int × Int
  v : Int × Int
  sa : Option Ad
  sn : Nat
  sc : Option Nat
abbrev ActG.cells (x : ActG) : List V := [.int .u8 x.d, .int .u8 x.hn, I x.a, I x.b, I x.c, I x.which, I x.w.1, I x.w.2, I x.v.1, I x.v.2, .slice x.sa x.sn x.sc]
section
variable {o : Nat → Option O} {s : St} {C F : Ch} {Q : V → St → Prop}
set_option maxRecDepth 10000
theorem words_eq (a b : Int) : eqI (.key (.agg [.i, .i])) (.agg [I a, I b]) (.agg [I a, I b]) = some true := by simp [eqI, keyEq, cellsEq, cellEq]
theorem sameW_loop {l : List (Int × Int)} {v v' : V} {K : Kt} (hC : Holds o s C) (h : SlAt C v l.length (l.flatMap encW)) (h' : SlAt C v' l.length (l.flatMap encW)) (hl : l.length ≤ 100000) :
    ∀ (m i : Nat), i + m = l.length → loop PF (.loop l48_0) (sp 26 [(0, v), (1, v'), (5, I i)]) s K = K (.exit 0) (sp 26 []) s
  | 0, i, hi => by
    have hlt : ¬ ((i : Int) < (l.length : Int)) := by omega
    refine round fun LL hLL => ?_
    simp -implicitDefEqProofs only [↓GP, GB, GL, Nat.reduceAdd, Nat.reduceSub, Nat.reduceEqDiff, Nat.reduceMul, Nat.reduceLeDiff, Int.reduceBNe, Int.reduceBEq, Nat.reduceLT, reduceCtorEq, l48_0, h.len, hlt]
  | m + 1, i, hi => by
    have hlt : ((i : Int) < (l.length : Int)) := by omega
    have hi' : i < l.length := by omega
    obtain ⟨k, g, e1, e2⟩ := h.get hC hi' 2
    obtain ⟨k', g', e1', e2'⟩ := h'.get hC hi' 2
    have hld := fun g => ldN_tab encW_len l g (show l[i]? = some l[i] by simp [hi'])
    have w := wrap_add1 (a := i) (by omega)
    refine round fun LL hLL => ?_
    simp -implicitDefEqProofs only [↓GP, GB, GL, Nat.reduceAdd, Nat.reduceSub, Nat.reduceEqDiff, Nat.reduceMul, Nat.reduceLeDiff, Int.reduceBNe, Int.reduceBEq, Nat.reduceLT, reduceCtorEq, l48_0, h.len, hlt, e1, e2, e1', e2', hld, encW, words_eq, w]
    rw [hLL]
    exact sameW_loop hC h h' hl m (i + 1) (by omega)
theorem s48 (hC : Holds o s C) {l : List (Int × Int)} {v v' : V} (h : SlAt C v l.length (l.flatMap encW)) (h' : SlAt C v' l.length (l.flatMap encW)) (hl : l.length ≤ 100000) : call PF 48 [v, v'] s = some (.bool true, s) := by
  have e := fun K => sameW_loop (K := K) hC h h' hl l.length 0 (by omega)
  simp only [Int.natCast_zero] at e
  rw [call_run F48]; simp -implicitDefEqProofs only [↓GP, GB, GL, Nat.reduceAdd, Nat.reduceSub, Nat.reduceEqDiff, Nat.reduceMul, Nat.reduceLeDiff, Int.reduceBNe, Int.reduceBEq, Nat.reduceLT, reduceCtorEq, c48, h.len, h'.len, e]
def wordG (ws : List (Int × Int)) (x : ActG) : Int × Int := if x.which < 0 then x.w else (ws[x.which.toNat % ws.length]?).getD x.w
theorem rem_i64 {a : Int} {n : Nat} (h : 0 ≤ a) (hn : 0 < n) : intI .rem .i64 a (n : Int) = some (I ((a.toNat % n : Nat) : Int)) := by
  have e : a.tmod (n : Int) = ((a.toNat % n : Nat) : Int) := by
    rw [Int.tmod_eq_emod_of_nonneg h, Int.natCast_emod, Int.toNat_of_nonneg h]
  show (if (n : Int) = 0 then none else some (V.int .i64 (a.tmod n))) = _
  rw [if_neg (by omega), e]
theorem s64 (hC : Holds o s C) {id wk : Nat} {hv rv : V} {ws : List (Int × Int)} (mid : (id, some (.cells [hv, rv, rowV wk ws.length] none)) ∈ C) (mw : (wk, rowO 2 ws.length (ws.flatMap encW)) ∈ C) (x : ActG)
    (q : ∀ s', Holds o s' C → Q (.agg (encW (wordG ws x))) s') : WP (call PF 64 [ptrN id, .agg x.cells] s) Q := by
  have h1 := (hC.alloc (.cells x.cells none)).alloc (.cells [I 0, I 0] none)
  have f := hC.mem mid
  have fin : ∀ w, w = wordG ws x → Q (.agg [I w.1, I w.2]) (((s.alloc (.cells x.cells none)).alloc (.cells [I 0, I 0] none)).set (s.next + 1) (.cells [I w.1, I w.2] none)) := fun w e => by
    rw [e]
    exact q _ (h1.set0 _).tl.tl
  by_cases h0 : x.which < 0
  · rw [call_run F64]; simp -implicitDefEqProofs only [↓GP, GB, GL, Nat.reduceAdd, Nat.reduceSub, Nat.reduceEqDiff, Nat.reduceMul, Nat.reduceLeDiff, Int.reduceBNe, Int.reduceBEq, Nat.reduceLT, reduceCtorEq, c64, f, h0]
    exact fin x.w (by unfold wordG; rw [if_pos h0])
  · by_cases hn : ws.length = 0
    · have hz : ((ws.length : Int) == 0) = true := by rw [hn]; rfl
      rw [call_run F64]; simp -implicitDefEqProofs only [↓GP, GB, GL, Nat.reduceAdd, Nat.reduceSub, Nat.reduceEqDiff, Nat.reduceMul, Nat.reduceLeDiff, Int.reduceBNe, Int.reduceBEq, Nat.reduceLT, reduceCtorEq, c64, f, h0, hz]
      exact fin x.w (by unfold wordG; rw [if_neg h0, List.length_eq_zero_iff.1 hn]; rfl)
    · have hz : ((ws.length : Int) == 0) = false := by rw [beq_eq_false_iff_ne]; omega
      have hr := rem_i64 (a := x.which) (n := ws.length) (by omega) (by omega)
      have hlt : x.which.toNat % ws.length < ws.length := Nat.mod_lt _ (by omega)
      have hld := ldN_tab encW_len ws (some 2) (show ws[x.which.toNat % ws.length]? = some ws[x.which.toNat % ws.length] by simp [hlt])
      rw [rowO_pos (by omega)] at mw
      have fw := hC.mem mw
      rw [call_run F64]; simp -implicitDefEqProofs only [↓GP, GB, GL, Nat.reduceAdd, Nat.reduceSub, Nat.reduceEqDiff, Nat.reduceMul, Nat.reduceLeDiff, Int.reduceBNe, Int.reduceBEq, Nat.reduceLT, reduceCtorEq, c64, f, h0, hz, hr, ix_row hlt, fw, hld, encW]
      exact fin _ (by unfold wordG; rw [if_neg h0, List.getElem?_eq_getElem hlt]; rfl)
theorem sub_flatMap {α β : Type} (f : α → List β) : ∀ {l : List α} {x : α}, x ∈ l → (f x).Sublist (l.flatMap f)
  | y :: l, x, h => by
    rw [List.flatMap_cons]
    rcases List.mem_cons.1 h with rfl | h
    · exact List.sublist_append_left _ _
    · exact (sub_flatMap f h).trans (List.sublist_append_right _ _)
structure PairOk (u : List Bool) (others : List Nat) (G : PairG) : Prop where
  ulen : u.length ≤ 30
  lives : G.hp.lives = G.hr.lives
  same : G.hp.regs.map PReg.m = G.hr.regs.map RReg.m
  inv : HInv G.hp.lives (G.hp.regs.map PReg.m)
  pool : PoolInv u ((G.hp.regs.map PReg.m).flatMap (·.pages) ++ others)
  pok : ∀ g ∈ G.hp.regs, g.ok
  grown : RGrown G.hr
  pz : ∀ g ∈ G.hr.regs, g.pages.length = 0 → g.pgk = 0
  one : G.hr.grown = false → G.hr.regs.length = 1
namespace PairOk
variable {u : List Bool} {others : List Nat} {G : PairG} (h : PairOk u others G)
include h
theorem pne : G.hp.regs ≠ [] := fun e => h.inv.ne (by rw [e]; rfl)
theorem len : G.hp.regs.length = G.hr.regs.length := by have := congrArg List.length h.same; simpa using this
theorem rne : G.hr.regs ≠ [] := by intro e; have := h.len; rw [e] at this; exact h.pne (List.length_eq_zero_iff.1 this)
theorem plen : G.hp.regs.length ≤ 100000 := by have h1 := h.inv.len; have h2 := h.inv.lives; rw [List.length_map] at h1; omega
theorem rlen : G.hr.regs.length ≤ 100000 := by rw [← h.len]; exact h.plen
theorem plives : G.hp.regs.length ≤ G.hp.lives := by have h1 := h.inv.len; rw [List.length_map] at h1; exact h1
theorem okm {r : Reg} (hr : r ∈ G.hp.regs.map PReg.m) : RegOk u.length r ∧ r.pages.length ≤ 30 ∧ r.objs.length ≤ 961 := by
  have hs : r.pages.Sublist ((G.hp.regs.map PReg.m).flatMap (·.pages) ++ others) := (sub_flatMap (fun r : Reg => r.pages) hr).trans (List.sublist_append_left _ _)
  have hl := h.pool.sub_len hs
  have hu := h.ulen
  have hi := h.inv.reg r hr
  have hlf := h.inv.life r hr
  have h2 := h.inv.lives
  refine ⟨hi.ok (by omega) (fun p hp => h.pool.lt (hs.subset hp)) (by omega) (by omega), by omega, ?_⟩
  have := hi.nobjs; omega
theorem okp {g : PReg} (hg : g ∈ G.hp.regs) : RegOk u.length g.m ∧ g.m.pages.length ≤ 30 ∧ g.m.objs.length ≤ 961 := h.okm (List.mem_map.2 ⟨g, hg, rfl⟩)
theorem okr {g : RReg} (hg : g ∈ G.hr.regs) : RegOk u.length g.m ∧ g.m.pages.length ≤ 30 ∧ g.m.objs.length ≤ 961 := h.okm (by rw [h.same]; exact List.mem_map.2 ⟨g, hg, rfl⟩)
theorem pol {g : PReg} (hg : g ∈ G.hp.regs) : g.objs.length ≤ 961 := by have := (h.okp hg).2.2; simpa [PReg.m] using this
theorem rol {g : RReg} (hg : g ∈ G.hr.regs) : g.objs.length ≤ 961 := by have := (h.okr hg).2.2; simpa [RReg.m] using this
theorem rol' : ∀ g ∈ G.hr.regs, g.objs.length ≤ 100000 := fun g hg => by have := h.rol hg; omega
theorem at_ {i : Nat} (hi : i < G.hp.regs.length) : ∃ A g B A' g' B', G.hp.regs = A ++ g :: B ∧ G.hr.regs = A' ++ g' :: B' ∧ A.length = i ∧ A'.length = i ∧ g.m = g'.m ∧ A.map PReg.m = A'.map RReg.m ∧ B.map PReg.m = B'.map RReg.m := by
  have hi' : i < G.hr.regs.length := by rw [← h.len]; exact hi
  have e1 : G.hp.regs = G.hp.regs.take i ++ G.hp.regs[i] :: G.hp.regs.drop (i + 1) := by rw [← List.drop_eq_getElem_cons hi, List.take_append_drop]
  have e2 : G.hr.regs = G.hr.regs.take i ++ G.hr.regs[i] :: G.hr.regs.drop (i + 1) := by rw [← List.drop_eq_getElem_cons hi', List.take_append_drop]
  refine ⟨_, _, _, _, _, _, e1, e2, by simp; omega, by simp; omega, ?_, ?_, ?_⟩
  · have := congrArg (fun l => l[i]?) h.same
    simpa [hi, hi'] using this
  · rw [List.map_take, List.map_take, h.same]
  · rw [List.map_drop, List.map_drop, h.same]
end PairOk
theorem PairOk.upd {u u' : List Bool} {others : List Nat} {G : PairG} (h : PairOk u others G) {A B : List PReg} {A' B' : List RReg} {g g1 : PReg} {g' g1' : RReg} (e : G.hp.regs = A ++ g :: B) (e' : G.hr.regs = A' ++ g' :: B') (hA : A.map PReg.m = A'.map RReg.m) (hB : B.map PReg.m = B'.map RReg.m)
    (hm : g1.m = g1'.m) (hl : g1.life = g.life) (hr : RInv g1.m) (hok : g1.ok) (hz : g1'.pages.length = 0 → g1'.pgk = 0) (hu : u'.length = u.length) (hpool : PoolInv u' (g1.pages ++ ((A.map PReg.m).flatMap (·.pages) ++ ((B.map PReg.m).flatMap (·.pages) ++ others)))) :
    PairOk u' others { G with hp := { G.hp with regs := A ++ g1 :: B }, hr := { G.hr with regs := A' ++ g1' :: B' } } where
  ulen := by rw [hu]; exact h.ulen
  lives := h.lives
  same := by simp [hA, hB, hm]
  inv := by
    have hi := h.inv
    rw [e] at hi
    refine ⟨hi.lives, by simp, ?_, ?_, ?_, ?_⟩
    · have := hi.len; simpa using this
    · have := hi.nodup; simp only [List.map_append, List.map_cons] at this ⊢; rw [show g1.m.life = g.m.life from hl]; exact this
    · intro r hr'
      simp only [List.map_append, List.map_cons, List.mem_append, List.mem_cons] at hr'
      rcases hr' with hr' | rfl | hr'
      · exact hi.life r (by simp only [List.map_append, List.map_cons, List.mem_append, List.mem_cons]; exact .inl hr')
      · have := hi.life g.m (by simp); rw [show g1.m.life = g.m.life from hl]; exact this
      · exact hi.life r (by simp only [List.map_append, List.map_cons, List.mem_append, List.mem_cons]; exact .inr (.inr hr'))
    · intro r hr'
      simp only [List.map_append, List.map_cons, List.mem_append, List.mem_cons] at hr'
      rcases hr' with hr' | rfl | hr'
      · exact hi.reg r (by simp only [List.map_append, List.map_cons, List.mem_append, List.mem_cons]; exact .inl hr')
      · exact hr
      · exact hi.reg r (by simp only [List.map_append, List.map_cons, List.mem_append, List.mem_cons]; exact .inr (.inr hr'))
  pool := by
    refine hpool.perm ?_
    simp only [List.map_append, List.map_cons, List.flatMap_append, List.flatMap_cons, List.append_assoc]
    exact List.perm_append_comm_assoc _ _ _
  pok := by
    intro x hx
    simp only [List.mem_append, List.mem_cons] at hx
    rcases hx with hx | rfl | hx
    · exact h.pok x (by rw [e]; simp [hx])
    · exact hok
    · exact h.pok x (by rw [e]; simp [hx])
  grown := h.grown
  pz := by
    intro x hx
    simp only [List.mem_append, List.mem_cons] at hx
    rcases hx with hx | rfl | hx
    · exact h.pz x (by rw [e']; simp [hx])
    · exact hz
    · exact h.pz x (by rw [e']; simp [hx])
  one := fun hg => by have := h.one hg; rw [e'] at this; simpa using this
theorem PairOk.pool1 {u : List Bool} {others : List Nat} {G : PairG} (h : PairOk u others G) {A B : List PReg} {g : PReg} (e : G.hp.regs = A ++ g :: B) : PoolInv u (g.pages ++ ((A.map PReg.m).flatMap (·.pages) ++ ((B.map PReg.m).flatMap (·.pages) ++ others))) := by
  have := h.pool
  rw [e] at this
  refine this.perm ?_
  simp only [List.map_append, List.map_cons, List.flatMap_append, List.flatMap_cons, List.append_assoc]
  exact (List.perm_append_comm_assoc _ _ _).symm
end
end Go.Proofs.Ytoldkemimhebaaa

set_option linter.unusedSimpArgs false
set_option linter.unusedVariables false
namespace Go.Proofs.Ytoldkemimhebaaa
open Go Go.IM
def c26 : IFn := ⟨224, [(4, none)],
  (.seq (.region [oa 3 (.box (.t 1)), oa 4 (.mov (.c (.bool false)))] (kp 224 [0,3]))
  (.seq (.seq (.region [oa 29 (.fieldAddr 0 (.t 3)), oa 30 (.load none (.t 29)), oa 31 (.bin .rem (.t 30) (.c (.int .u8 (8))))] (kp 224 [0,3,31]))
  (.block 0
  (.seq (.region [oa 33 (.bin .eql (.t 31) (.c (.int .u8 (0)))), oa 32 (.mov (.t 33))] (kp 224 [0,3,31,32]))
  (.cond (.t 32)
  (.seq (.region [oa 35 (.mov (.t 0)), oa 36 (.nilCheck (.t 35)), oa 37 (.fieldAddr 0 (.t 36)), oa 38 (.load none (.t 37)), oa 39 (.fieldAddr 2 (.t 3)), oa 40 (.load none (.t 39)), oa 41 (.call 59 [(.t 38), (.t 40)]), oa 34 (.mov (.t 41)), oa 42 (.extract (.t 34) 0), oa 43 (.extract (.t 34) 1), oa 5 (.mov (.t 42)), oa 6 (.mov (.t 43))] (kp 224 [0,3,5,6]))
  (.seq (.region [oa 45 (.mov (.t 0)), oa 46 (.nilCheck (.t 45)), oa 47 (.fieldAddr 1 (.t 46)), oa 48 (.load none (.t 47)), oa 49 (.fieldAddr 2 (.t 3)), oa 50 (.load none (.t 49)), oa 51 (.call 60 [(.t 48), (.t 50)]), oa 44 (.mov (.t 51)), oa 52 (.extract (.t 44) 0), oa 53 (.extract (.t 44) 1), oa 7 (.mov (.t 52)), oa 8 (.mov (.t 53))] (kp 224 [5,6,7,8]))
  (.seq (.region [oa 54 (.mov (.t 5)), oa 55 (.mov (.t 7)), oa 56 (.bin .eql (.t 54) (.t 55)), oa 57 (.mov (.t 56)), oc 58 (.mov (.t 6)) 57 tt, oc 59 (.mov (.t 8)) 57 tt, oc 60 (.bin .eql (.t 58) (.t 59)) 57 tt, oa 61 (.pick (.t 57) (.t 60) (.c (.bool false))), oa 4 (.mov (.t 61))] (kp 224 [4]))
  (sr 224 [4]))))
  (.seq (.region [oa 63 (.bin .eql (.t 31) (.c (.int .u8 (1)))), oa 62 (.mov (.t 63))] (kp 224 [0,3,31,62]))
  (.cond (.t 62)
  (.seq (.region [oa 65 (.mov (.t 0)), oa 66 (.nilCheck (.t 65)), oa 67 (.fieldAddr 0 (.t 66)), oa 68 (.load none (.t 67)), oa 69 (.call 32 [(.t 68)]), oa 64 (.mov (.t 69)), oa 70 (.extract (.t 64) 0), oa 71 (.extract (.t 64) 1), oa 9 (.mov (.t 70)), oa 10 (.mov (.t 71))] (kp 224 [0,9,10]))
  (.seq (.region [oa 73 (.mov (.t 0)), oa 74 (.nilCheck (.t 73)), oa 75 (.fieldAddr 1 (.t 74)), oa 76 (.load none (.t 75)), oa 77 (.call 61 [(.t 76)]), oa 72 (.mov (.t 77)), oa 78 (.extract (.t 72) 0), oa 79 (.extract (.t 72) 1), oa 11 (.mov (.t 78)), oa 12 (.mov (.t 79))] (kp 224 [9,10,11,12]))
  (.seq (.region [oa 80 (.mov (.t 9)), oa 81 (.mov (.t 11)), oa 82 (.bin .eql (.t 80) (.t 81)), oa 83 (.mov (.t 82)), oc 84 (.mov (.t 10)) 83 tt, oc 85 (.mov (.t 12)) 83 tt, oc 86 (.bin .eql (.t 84) (.t 85)) 83 tt, oa 87 (.pick (.t 83) (.t 86) (.c (.bool false))), oa 4 (.mov (.t 87))] (kp 224 [4]))
  (sr 224 [4]))))
  (.seq (.region [oa 89 (.bin .eql (.t 31) (.c (.int .u8 (2)))), oa 88 (.mov (.t 89))] (kp 224 [0,3,31,88]))
  (.cond (.t 88)
  (.seq (.region [oa 91 (.mov (.t 0)), oa 92 (.nilCheck (.t 91)), oa 93 (.fieldAddr 0 (.t 92)), oa 94 (.load none (.t 93)), oa 95 (.fieldAddr 2 (.t 3)), oa 96 (.load none (.t 95)), oa 97 (.call 31 [(.t 94), (.t 96)]), oa 90 (.mov (.t 97)), oa 98 (.extract (.t 90) 0), oa 99 (.extract (.t 90) 1), oa 13 (.mov (.t 98)), oa 14 (.mov (.t 99))] (kp 224 [0,3,13,14]))
  (.seq (.region [oa 101 (.mov (.t 0)), oa 102 (.nilCheck (.t 101)), oa 103 (.fieldAddr 1 (.t 102)), oa 104 (.load none (.t 103)), oa 105 (.fieldAddr 2 (.t 3)), oa 106 (.load none (.t 105)), oa 107 (.call 62 [(.t 104), (.t 106)]), oa 100 (.mov (.t 107)), oa 108 (.extract (.t 100) 0), oa 109 (.extract (.t 100) 1), oa 15 (.mov (.t 108)), oa 16 (.mov (.t 109))] (kp 224 [13,14,15,16]))
  (.seq (.region [oa 110 (.mov (.t 13)), oa 111 (.mov (.t 15)), oa 112 (.bin .eql (.t 110) (.t 111)), oa 113 (.mov (.t 112)), oc 114 (.mov (.t 14)) 113 tt, oc 115 (.mov (.t 16)) 113 tt, oc 116 (.bin .eql (.t 114) (.t 115)) 113 tt, oa 117 (.pick (.t 113) (.t 116) (.c (.bool false))), oa 4 (.mov (.t 117))] (kp 224 [4]))
  (sr 224 [4]))))
  (.seq (.region [oa 119 (.bin .eql (.t 31) (.c (.int .u8 (3)))), oa 118 (.mov (.t 119))] (kp 224 [0,3,31,118]))
  (.cond (.t 118)
  (.seq (.region [oa 120 (.mov (.t 0)), oa 121 (.load (some 11) (.t 3)), oa 122 (.call 63 [(.t 120), (.t 121)]), oa 4 (.mov (.t 122))] (kp 224 [4]))
  (sr 224 [4]))
  (.seq (.region [oa 124 (.bin .eql (.t 31) (.c (.int .u8 (4)))), oa 123 (.mov (.t 124))] (kp 224 [0,3,31,123]))
  (.cond (.t 123)
  (.seq (.region [oa 125 (.mov (.t 0)), oa 126 (.load (some 11) (.t 3)), oa 127 (.call 64 [(.t 125), (.t 126)]), oa 17 (.alloc [(.int .i64 (0)), (.int .i64 (0))]), ob (.store 2 (.t 17) (.t 127))] (kp 224 [0,3,17]))
  (.seq (.region [oa 128 (.mov (.t 0)), oa 129 (.nilCheck (.t 128)), oa 130 (.fieldAddr 0 (.t 129)), oa 131 (.load none (.t 130)), oa 132 (.load (some 2) (.t 17)), oa 133 (.fieldAddr 2 (.t 3)), oa 134 (.load none (.t 133)), oa 135 (.fieldAddr 8 (.t 3)), oa 136 (.load (some 2) (.t 135)), oa 138 (.mov (.t 0)), oa 139 (.nilCheck (.t 138)), oa 140 (.fieldAddr 1 (.t 139)), oa 141 (.load none (.t 140)), oa 142 (.load (some 2) (.t 17)), oa 143 (.fieldAddr 2 (.t 3)), oa 144 (.load none (.t 143)), oa 145 (.fieldAddr 8 (.t 3)), oa 146 (.load (some 2) (.t 145)), oa 137 (.call 65 [(.t 131), (.t 132), (.t 134), (.t 136)]), ob (.again 141 (.load none (.t 140))), ob (.again 142 (.load (some 2) (.t 17))), ob (.again 144 (.load none (.t 143))), ob (.again 146 (.load (some 2) (.t 145))), oa 147 (.call 66 [(.t 141), (.t 142), (.t 144), (.t 146)]), oa 148 (.bin .eql (.t 137) (.t 147)), oa 4 (.mov (.t 148))] (kp 224 [4]))
  (sr 224 [4])))
  (.seq (.region [oa 150 (.bin .eql (.t 31) (.c (.int .u8 (5)))), oa 149 (.mov (.t 150))] (kp 224 [0,3,31,149]))
  (.cond (.t 149)
  (.seq (.region [oa 151 (.mov (.t 0)), oa 152 (.load (some 11) (.t 3)), oa 153 (.call 64 [(.t 151), (.t 152)]), oa 18 (.alloc [(.int .i64 (0)), (.int .i64 (0))]), ob (.store 2 (.t 18) (.t 153))] (kp 224 [0,3,18]))
  (.seq (.region [oa 155 (.mov (.t 0)), oa 156 (.nilCheck (.t 155)), oa 157 (.fieldAddr 0 (.t 156)), oa 158 (.load none (.t 157)), oa 159 (.load (some 2) (.t 18)), oa 160 (.fieldAddr 2 (.t 3)), oa 161 (.load none (.t 160)), oa 19 (.alloc [(.int .i64 (0)), (.int .i64 (0))]), oa 162 (.call 67 [(.t 158), (.t 159), (.t 161)]), oa 154 (.mov (.t 162)), oa 163 (.extract (.t 154) 0), oa 164 (.extract (.t 154) 1), ob (.store 2 (.t 19) (.t 163)), oa 20 (.mov (.t 164))] (kp 224 [0,3,18,19,20]))
  (.seq (.region [oa 166 (.mov (.t 0)), oa 167 (.nilCheck (.t 166)), oa 168 (.fieldAddr 1 (.t 167)), oa 169 (.load none (.t 168)), oa 170 (.load (some 2) (.t 18)), oa 171 (.fieldAddr 2 (.t 3)), oa 172 (.load none (.t 171)), oa 21 (.alloc [(.int .i64 (0)), (.int .i64 (0))]), oa 173 (.call 68 [(.t 169), (.t 170), (.t 172)]), oa 165 (.mov (.t 173)), oa 174 (.extract (.t 165) 0), oa 175 (.extract (.t 165) 1), ob (.store 2 (.t 21) (.t 174)), oa 22 (.mov (.t 175))] (kp 224 [0,18,19,20,21,22]))
  (.seq (.region [oa 177 (.mov (.t 0)), oa 178 (.nilCheck (.t 177)), oa 179 (.fieldAddr 0 (.t 178)), oa 180 (.load none (.t 179)), oa 181 (.load (some 2) (.t 18)), oa 182 (.call 30 [(.t 180), (.t 181)]), oa 176 (.mov (.t 182)), oa 183 (.extract (.t 176) 0), oa 184 (.extract (.t 176) 1), oa 185 (.extract (.t 176) 2), oa 23 (.mov (.t 183)), oa 24 (.mov (.t 184)), oa 25 (.mov (.t 185))] (kp 224 [0,18,19,20,21,22,23,24,25]))
  (.seq (.region [oa 187 (.mov (.t 0)), oa 188 (.nilCheck (.t 187)), oa 189 (.fieldAddr 1 (.t 188)), oa 190 (.load none (.t 189)), oa 191 (.load (some 2) (.t 18)), oa 192 (.call 69 [(.t 190), (.t 191)]), oa 186 (.mov (.t 192)), oa 193 (.extract (.t 186) 0), oa 194 (.extract (.t 186) 1), oa 195 (.extract (.t 186) 2), oa 26 (.mov (.t 193)), oa 27 (.mov (.t 194)), oa 28 (.mov (.t 195))] (kp 224 [19,20,21,22,23,24,25,26,27,28]))
  (.seq (.region [oa 196 (.load (some 2) (.t 19)), oa 197 (.load (some 2) (.t 21)), oa 198 (.eql false (.key (.agg [.i, .i])) (.t 196) (.t 197)), oa 199 (.mov (.t 198)), oc 200 (.mov (.t 20)) 199 tt, oc 201 (.mov (.t 22)) 199 tt, oc 202 (.bin .eql (.t 200) (.t 201)) 199 tt, oa 203 (.pick (.t 199) (.t 202) (.c (.bool false))), oa 204 (.mov (.t 203)), oc 205 (.mov (.t 23)) 204 tt, oc 206 (.mov (.t 26)) 204 tt, oc 207 (.bin .eql (.t 205) (.t 206)) 204 tt, oa 208 (.pick (.t 204) (.t 207) (.c (.bool false))), oa 209 (.mov (.t 208)), oc 210 (.mov (.t 24)) 209 tt, oc 211 (.mov (.t 27)) 209 tt, oc 212 (.bin .eql (.t 210) (.t 211)) 209 tt, oa 213 (.pick (.t 209) (.t 212) (.c (.bool false))), oa 214 (.mov (.t 213)), oc 215 (.mov (.t 25)) 214 tt, oc 216 (.mov (.t 28)) 214 tt, oc 217 (.bin .eql (.t 215) (.t 216)) 214 tt, oa 218 (.pick (.t 214) (.t 217) (.c (.bool false))), oa 4 (.mov (.t 218))] (kp 224 [4]))
  (sr 224 [4])))))))
  (.seq (.region [oa 220 (.bin .eql (.t 31) (.c (.int .u8 (6)))), oa 219 (.mov (.t 220))] (kp 224 [0,3,219]))
  (.cond (.t 219)
  (.seq (.region [oa 221 (.mov (.t 0)), oa 222 (.load (some 11) (.t 3)), oa 223 (.call 70 [(.t 221), (.t 222)]), oa 4 (.mov (.t 223))] (kp 224 [4]))
  (sr 224 [4]))
  (sk 224 [])))))))))))))))))
  (.seq (.region [oa 4 (.mov (.c (.bool true)))] (kp 224 [4]))
  (sr 224 [4]))))⟩
theorem F26 : shutF Try.prog 26 = some c26 := by kernel_rfl
section
variable {o : Nat → Option O} {s : St} {C F : Ch} {Q : V → St → Prop} {p r q t : Nat} {u : List Bool} {others : List Nat} {G : PairG}
set_option maxRecDepth 10000
set_option maxHeartbeats 4000000
theorem World.in_ : In (World p r q t u G F) p G.hp := ⟨fun x hx => by simp only [World, PairG.ch, List.mem_append]; exact .inr (.inr (.inl (.inr (.inl hx))))⟩
theorem World.rin : RIn (World p r q t u G F) q G.hr := ⟨fun x hx => by simp only [World, PairG.ch, List.mem_append]; exact .inr (.inr (.inl (.inr (.inr hx))))⟩
theorem World.id : (G.id, some G.hd) ∈ World p r q t u G F := by simp [World, PairG.ch, PairG.pc]
theorem World.wk : (G.wk, rowO 2 G.ws.length (G.ws.flatMap encW)) ∈ World p r q t u G F := by simp [World, PairG.ch, PairG.pc]
theorem World.fr {x : Nat × Option O} (h : x ∈ F) : x ∈ World p r q t u G F := by simp only [World, List.mem_append]; exact .inr (.inr (.inr h))
structure Next (others : List Nat) (u : List Bool) (G : PairG) (u' : List Bool) (G' : PairG) : Prop where
  id : G'.id = G.id
  pid : G'.hp.id = G.hp.id
  rid : G'.hr.id = G.hr.id
  ok : PairOk u' others G'
  ul : u'.length = u.length
  ws : G'.ws.length ≤ G.ws.length + 1000
  lv : G'.hp.lives ≤ G.hp.lives + 1
theorem PairOk.nx (h : PairOk u others G) : Next others u G u G := ⟨rfl, rfl, rfl, h, rfl, by omega, by omega⟩
theorem PairOk.pop (h : PairOk u others G) {A : List PReg} {A' : List RReg} {g : PReg} {g' : RReg} {sl1 sl2 : List V} (e : G.hp.regs = A ++ [g]) (e' : G.hr.regs = A' ++ [g']) (hA : A.map PReg.m = A'.map RReg.m) (h0 : A ≠ []) (hg : G.hr.grown = true) (hs : ∃ j, sl2.length = j * 5) :
    PairOk (freeP u g.pages) others { G with hp := { G.hp with regs := A, sl := sl1 }, hr := { G.hr with regs := A', sl := sl2 } } where
  ulen := by rw [freeP_len]; exact h.ulen
  lives := h.lives
  same := hA
  inv := by
    have hi := h.inv
    rw [e] at hi
    simp only [List.map_append, List.map_cons, List.map_nil] at hi
    refine ⟨hi.lives, by simpa using h0, by have := hi.len; simp at this ⊢; omega, ?_, fun r hr => hi.life r (List.mem_append_left _ hr), fun r hr => hi.reg r (List.mem_append_left _ hr)⟩
    have := hi.nodup
    rw [List.map_append, List.nodup_append] at this
    exact this.1
  pool := by
    have := (h.pool1 e).free
    simpa using this
  pok := fun x hx => h.pok x (by rw [e]; exact List.mem_append_left _ hx)
  grown := ⟨(fun hf => by rw [hg] at hf; cases hf), hs⟩
  pz := fun x hx => h.pz x (by rw [e']; exact List.mem_append_left _ hx)
  one := fun hf => by rw [hg] at hf; cases hf
theorem PairOk.push (h : PairOk u others G) {words rk rk' k m : Nat} {sl1 sl2 : List V} (hw : words ≤ 31) (hl : G.hp.lives < 100000) (hgr : RGrown { G.hr with rowk := rk', grown := true, lives := G.hr.lives + 1, regs := G.hr.regs ++ [⟨0, 0, words, G.hr.lives + 1, 0, [], []⟩], sl := sl2 }) :
    PairOk u others { G with hp := { G.hp with rowk := rk, lives := G.hp.lives + 1, regs := G.hp.regs ++ [⟨k, 0, 0, m, .map [] 0, words, G.hp.lives + 1, 0, [], []⟩], sl := sl1 }, hr := { G.hr with rowk := rk', grown := true, lives := G.hr.lives + 1, regs := G.hr.regs ++ [⟨0, 0, words, G.hr.lives + 1, 0, [], []⟩], sl := sl2 } } where
  ulen := h.ulen
  lives := by rw [show G.hp.lives = G.hr.lives from h.lives]
  same := by simp only [List.map_append, h.same, List.map_cons, List.map_nil, PReg.m, RReg.m, h.lives]
  inv := by
    have hi := h.inv
    refine ⟨by simp only; omega, by simp, ?_, ?_, ?_, ?_⟩
    · have := hi.len; simp at this ⊢; omega
    · simp only [List.map_append, List.map_cons, List.map_nil]
      rw [List.nodup_append]
      refine ⟨hi.nodup, by simp, fun x hx y hy => ?_⟩
      obtain ⟨r, hr, rfl⟩ := List.mem_map.1 hx
      have := (hi.life r hr).2
      simp [PReg.m] at hy
      omega
    · intro r hr
      simp only [List.map_append, List.mem_append, List.map_cons, List.map_nil, List.mem_cons, List.not_mem_nil, or_false] at hr
      rcases hr with hr | rfl
      · have := hi.life r hr; simp only; omega
      · simp only [PReg.m]; omega
    · intro r hr
      simp only [List.map_append, List.mem_append, List.map_cons, List.map_nil, List.mem_cons, List.not_mem_nil, or_false] at hr
      rcases hr with hr | rfl
      · exact hi.reg r hr
      · exact ⟨hw, by simp [PReg.m], fun _ => by simp [PReg.m], fun _ => Packed.nil, fun x hx => by simp [PReg.m] at hx⟩
  pool := by
    have := h.pool
    simpa [PReg.m] using this
  pok := by
    intro x hx
    rcases List.mem_append.1 hx with hx | hx
    · exact h.pok x hx
    · simp at hx; subst hx; exact mapIs_nil
  grown := hgr
  pz := fun x hx => by
    rcases List.mem_append.1 hx with hx | hx
    · exact h.pz x hx
    · simp at hx; subst hx; exact fun _ => rfl
  one := fun hf => by cases hf
theorem PairOk.reset (h : PairOk u others G) {A B : List PReg} {A' B' : List RReg} {g : PReg} {g' : RReg} {k : Nat} (e : G.hp.regs = A ++ g :: B) (e' : G.hr.regs = A' ++ g' :: B') (hA : A.map PReg.m = A'.map RReg.m) (hB : B.map PReg.m = B'.map RReg.m) (hm : g.m = g'.m) (hl : G.hp.lives < 100000) :
    PairOk (freeP u g.pages) others { G with hp := { G.hp with lives := G.hp.lives + 1, regs := A ++ { g with life := G.hp.lives + 1, fill := 0, pages := [], objs := [], plk := k, pl := .map [] 0 } :: B }, hr := { G.hr with lives := G.hr.lives + 1, regs := A' ++ { g' with life := G.hr.lives + 1, pgk := 0, fill := 0, pages := [], objs := [] } :: B' } } where
  ulen := by rw [freeP_len]; exact h.ulen
  lives := by rw [show G.hp.lives = G.hr.lives from h.lives]
  same := by
    have hsz : g.size = g'.size := congrArg Reg.size hm
    simp only [List.map_append, List.map_cons, hA, hB, PReg.m, RReg.m, hsz, h.lives, List.map_nil]
  inv := by
    have hi := h.inv
    rw [e] at hi
    simp only [List.map_append, List.map_cons] at hi
    refine ⟨by simp only; omega, by simp, ?_, ?_, ?_, ?_⟩
    · have := hi.len; simp at this ⊢; omega
    · have hn := hi.nodup
      simp only [List.map_append, List.map_cons, List.nodup_append, List.nodup_cons] at hn ⊢
      obtain ⟨n1, ⟨n2, n3⟩, n4⟩ := hn
      have lt1 : ∀ x ∈ (A.map PReg.m).map (·.life), x ≤ G.hp.lives := fun x hx => by
        obtain ⟨r, hr, rfl⟩ := List.mem_map.1 hx
        exact (hi.life r (List.mem_append_left _ hr)).2
      have lt2 : ∀ x ∈ (B.map PReg.m).map (·.life), x ≤ G.hp.lives := fun x hx => by
        obtain ⟨r, hr, rfl⟩ := List.mem_map.1 hx
        exact (hi.life r (List.mem_append_right _ (List.mem_cons_of_mem _ hr))).2
      refine ⟨n1, ⟨fun hx => by have := lt2 _ hx; simp [PReg.m] at this; omega, n3⟩, fun x hx y hy => ?_⟩
      rcases List.mem_cons.1 hy with rfl | hy
      · have := lt1 x hx; simp [PReg.m]; omega
      · exact n4 x hx y (List.mem_cons_of_mem _ hy)
    · intro r hr
      simp only [List.map_append, List.map_cons, List.mem_append, List.mem_cons] at hr
      rcases hr with hr | rfl | hr
      · have := hi.life r (List.mem_append_left _ hr); simp only; omega
      · simp only [PReg.m]; omega
      · have := hi.life r (List.mem_append_right _ (List.mem_cons_of_mem _ hr)); simp only; omega
    · intro r hr
      simp only [List.map_append, List.map_cons, List.mem_append, List.mem_cons] at hr
      rcases hr with hr | rfl | hr
      · exact hi.reg r (List.mem_append_left _ hr)
      · have := (hi.reg g.m (by simp)).size
        exact ⟨this, by simp [PReg.m], fun _ => by simp [PReg.m], fun _ => Packed.nil, fun x hx => by simp [PReg.m] at hx⟩
      · exact hi.reg r (List.mem_append_right _ (List.mem_cons_of_mem _ hr))
  pool := by
    have := (h.pool1 e).free
    simpa [PReg.m] using this
  pok := by
    intro x hx
    simp only [List.mem_append, List.mem_cons] at hx
    rcases hx with hx | rfl | hx
    · exact h.pok x (by rw [e]; simp [hx])
    · exact mapIs_nil
    · exact h.pok x (by rw [e]; simp [hx])
  grown := h.grown
  pz := by
    intro x hx
    simp only [List.mem_append, List.mem_cons] at hx
    rcases hx with hx | rfl | hx
    · exact h.pz x (by rw [e']; simp [hx])
    · exact fun _ => rfl
    · exact h.pz x (by rw [e']; simp [hx])
  one := fun hg => by have := h.one hg; rw [e'] at this; simpa using this
theorem do_open (x : ActG) (hd : intI .rem .u8 x.d 8 = some (.int .u8 0)) (h : PairOk u others G) (H : Holds o s (World p r q t u G F))
    (k : ∀ s' G', Next others u G u G' → Holds o s' (World p r q t u G' F) → Q (.bool true) s') : WP (call PF 26 [ptrN G.id, .agg x.cells] s) Q := by
  have f0 := H.mem World.id
  simp only [PairG.hd] at f0
  have h1 := H.alloc (.cells x.cells none)
  have hin := World.in_ (p := p) (r := r) (q := q) (t := t) (u := u) (G := G) (F := F)
  have rin := World.rin (p := p) (r := r) (q := q) (t := t) (u := u) (G := G) (F := F)
  rw [call_run F26]; simp -implicitDefEqProofs only [↓GP, GB, GL, Nat.reduceAdd, Nat.reduceSub, Nat.reduceEqDiff, Nat.reduceMul, Nat.reduceLeDiff, Int.reduceBNe, Int.reduceBEq, Nat.reduceLT, reduceCtorEq, c26, hd, f0, Int.reduceBEq]
  by_cases hb : 0 ≤ x.a ∧ x.a ≤ 31
  · by_cases hl : 100000 ≤ G.hp.lives
    · refine wp_in (s59_full h1 (hin.cons _).id hb hl fun s1 h2 => ?_)
      have f1 := h2.tl.mem World.id
      simp only [PairG.hd] at f1
      have e := s60_full h2 (rin.cons _) h.rne hb (by rw [← h.lives]; exact hl)
      simp -implicitDefEqProofs only [↓GP, GB, GL, Nat.reduceAdd, Nat.reduceSub, Nat.reduceEqDiff, Nat.reduceMul, Nat.reduceLeDiff, Int.reduceBNe, Int.reduceBEq, Nat.reduceLT, reduceCtorEq, f1, h2.f1, e]
      exact k _ G h.nx h2.tl
    · obtain ⟨n, hn⟩ : ∃ n : Nat, x.a = n := ⟨x.a.toNat, by omega⟩
      rw [hn]
      have hw : n ≤ 31 := by omega
      have hpl := h.plives
      refine wp_in (s59 (hp := G.hp) (p := p) (F := (s.next, some (.cells x.cells none)) :: (poolC p r u ++ (poolC q t u ++ (G.pc ++ (G.hr.ch q ++ F))))) (Holds.of (h1) (fun k => by simp +arith only [HA, HB]) (fun k x => by simp only [HA, HC]; grind only)) h.pne (by omega) hw (by omega) fun s1 rk kk m sl h2 => ?_)
      have h3 : Holds o s1 ((s.next, some (.cells x.cells none)) :: (G.id, some (.cells [ptrN G.hp.id, ptrN G.hr.id, rowV G.wk G.ws.length] none)) :: (G.hr.ch q ++ ((G.wk, rowO 2 G.ws.length (G.ws.flatMap encW)) :: (poolC p r u ++ (poolC q t u ++ (PHeap.ch p { G.hp with rowk := rk, lives := G.hp.lives + 1, regs := G.hp.regs ++ [⟨kk, 0, 0, m, .map [] 0, n, G.hp.lives + 1, 0, [], []⟩], sl := sl } ++ F)))))) := (Holds.of (h2) (fun k => by simp +arith only [HA, HB]) (fun k x => by simp only [HA, HC]; grind only))
      have f := h3.f2
      simp only [ActG.cells, hn] at f
      simp -implicitDefEqProofs only [↓GP, GB, GL, Nat.reduceAdd, Nat.reduceSub, Nat.reduceEqDiff, Nat.reduceMul, Nat.reduceLeDiff, Int.reduceBNe, Int.reduceBEq, Nat.reduceLT, reduceCtorEq, f]
      have hrl := h.len
      refine wp_in (s60 (hr := G.hr) (p := q) (F := (s.next, some (.cells x.cells none)) :: (G.id, some (.cells [ptrN G.hp.id, ptrN G.hr.id, rowV G.wk G.ws.length] none)) :: ((G.wk, rowO 2 G.ws.length (G.ws.flatMap encW)) :: (poolC p r u ++ (poolC q t u ++ (PHeap.ch p { G.hp with rowk := rk, lives := G.hp.lives + 1, regs := G.hp.regs ++ [⟨kk, 0, 0, m, .map [] 0, n, G.hp.lives + 1, 0, [], []⟩], sl := sl } ++ F))))) (Holds.of (h3) (fun k => by simp +arith only [HA, HB]) (fun k x => by simp only [HA, HC]; grind only)) h.rne h.grown (by omega) hw (by rw [← h.lives]; omega) fun s2 rk' sl' hgr h4 => ?_)
      have hbe : ((G.hp.regs.length : Int) == (G.hr.regs.length : Int)) = true := by rw [h.len]; simp
      simp -implicitDefEqProofs only [↓GP, GB, GL, Nat.reduceAdd, Nat.reduceSub, Nat.reduceEqDiff, Nat.reduceMul, Nat.reduceLeDiff, Int.reduceBNe, Int.reduceBEq, Nat.reduceLT, reduceCtorEq, hbe]
      refine k _ { G with hp := { G.hp with rowk := rk, lives := G.hp.lives + 1, regs := G.hp.regs ++ [⟨kk, 0, 0, m, .map [] 0, n, G.hp.lives + 1, 0, [], []⟩], sl := sl }, hr := { G.hr with rowk := rk', grown := true, lives := G.hr.lives + 1, regs := G.hr.regs ++ [⟨0, 0, n, G.hr.lives + 1, 0, [], []⟩], sl := sl' } }
        ⟨rfl, rfl, rfl, h.push hw (by omega) hgr, rfl, by simp, by simp⟩ (Holds.of (h4) (fun k => by simp +arith only [HA, HB]) (fun k x => by simp only [HA, HC]; grind only))
  · refine wp_in (s59_bad h1 (hin.cons _).id hb fun s1 h2 => ?_)
    have f1 := h2.tl.mem World.id
    simp only [PairG.hd] at f1
    have e := s60_bad h2 (rin.cons _) h.rne hb
    simp -implicitDefEqProofs only [↓GP, GB, GL, Nat.reduceAdd, Nat.reduceSub, Nat.reduceEqDiff, Nat.reduceMul, Nat.reduceLeDiff, Int.reduceBNe, Int.reduceBEq, Nat.reduceLT, reduceCtorEq, f1, h2.f1, e]
    exact k _ G h.nx h2.tl
theorem do_close (x : ActG) (hd : intI .rem .u8 x.d 8 = some (.int .u8 1)) (h : PairOk u others G) (H : Holds o s (World p r q t u G F))
    (k : ∀ s' u' G', Next others u G u' G' → Holds o s' (World p r q t u' G' F) → Q (.bool true) s') : WP (call PF 26 [ptrN G.id, .agg x.cells] s) Q := by
  have f0 := H.mem World.id
  simp only [PairG.hd] at f0
  have h1 := H.alloc (.cells x.cells none)
  have hin := World.in_ (p := p) (r := r) (q := q) (t := t) (u := u) (G := G) (F := F)
  have rin := World.rin (p := p) (r := r) (q := q) (t := t) (u := u) (G := G) (F := F)
  have hrl := h.len
  have hpos := List.length_pos_iff.2 h.pne
  by_cases h1l : G.hp.regs.length = 1
  · have e := s32_one h1 (hin.cons _).id h1l
    have e2 := s61_one h1 (rin.cons _) (by omega)
    rw [call_run F26]; simp -implicitDefEqProofs only [↓GP, GB, GL, Nat.reduceAdd, Nat.reduceSub, Nat.reduceEqDiff, Nat.reduceMul, Nat.reduceLeDiff, Int.reduceBNe, Int.reduceBEq, Nat.reduceLT, reduceCtorEq, c26, hd, f0, e, e2, Int.reduceBEq]
    exact k _ u G h.nx h1.tl
  · obtain ⟨A, g, B, A', g', B', e1, e2, l1, l2, hm, hA, hB⟩ := h.at_ (i := G.hp.regs.length - 1) (by omega)
    have hBn : B = [] := by have := congrArg List.length e1; simp at this; exact List.length_eq_zero_iff.1 (by omega)
    subst hBn
    have hBn' : B' = [] := by simpa using hB.symm
    subst hBn'
    have hA0 : A ≠ [] := by intro e; rw [e] at l1; simp at l1; omega
    have hA0' : A' ≠ [] := by intro e; rw [e] at l2; simp at l2; omega
    have mg : g ∈ G.hp.regs := by rw [e1]; simp
    have mg' : g' ∈ G.hr.regs := by rw [e2]; simp
    have ok := h.okp mg
    have ok' := h.okr mg'
    have hu := h.ulen
    have hpl := h.plen
    have hgr : G.hr.grown = true := by
      cases hg : G.hr.grown with
      | true => rfl
      | false => have := h.one hg; omega
    have hpg : g.pages = g'.pages := congrArg Reg.pages hm
    rw [call_run F26]; simp -implicitDefEqProofs only [↓GP, GB, GL, Nat.reduceAdd, Nat.reduceSub, Nat.reduceEqDiff, Nat.reduceMul, Nat.reduceLeDiff, Int.reduceBNe, Int.reduceBEq, Nat.reduceLT, reduceCtorEq, c26, hd, f0, Int.reduceBEq]
    refine wp_in (s32 (hp := G.hp) (p := p) (r := r) (u := u) (A := A) (g := g) (F := (s.next, some (.cells x.cells none)) :: (poolC q t u ++ (G.pc ++ (G.hr.ch q ++ F)))) (Holds.of (h1) (fun k => by simp +arith only [HA, HB]) (fun k x => by simp only [HA, HC]; grind only)) e1 hA0 hpl (by omega) ok.1.pages ok.1.npages fun s1 h2 => ?_)
    have h3 : Holds o s1 ((G.id, some (.cells [ptrN G.hp.id, ptrN G.hr.id, rowV G.wk G.ws.length] none)) :: (poolC q t u ++ (G.hr.ch q ++ ((G.wk, rowO 2 G.ws.length (G.ws.flatMap encW)) :: (poolC p r (freeP u g.pages) ++ (PHeap.ch p { G.hp with regs := A, sl := ptrN g.id :: G.hp.sl } ++ F)))))) := (Holds.of (h2) (fun k => by simp +arith only [HA, HB]) (fun k x => by simp only [HA, HC]; grind only))
    simp -implicitDefEqProofs only [↓GP, GB, GL, Nat.reduceAdd, Nat.reduceSub, Nat.reduceEqDiff, Nat.reduceMul, Nat.reduceLeDiff, Int.reduceBNe, Int.reduceBEq, Nat.reduceLT, reduceCtorEq, h3.f1]
    refine wp_in (s61 (hr := G.hr) (p := q) (r := t) (u := u) (A := A') (g := g') (F := (G.id, some (.cells [ptrN G.hp.id, ptrN G.hr.id, rowV G.wk G.ws.length] none)) :: ((G.wk, rowO 2 G.ws.length (G.ws.flatMap encW)) :: (poolC p r (freeP u g.pages) ++ (PHeap.ch p { G.hp with regs := A, sl := ptrN g.id :: G.hp.sl } ++ F)))) (Holds.of (h3) (fun k => by simp +arith only [HA, HB]) (fun k x => by simp only [HA, HC]; grind only)) e2 hA0' hgr (by omega) (by omega) ok'.1.pages ok'.1.npages fun s2 sl' hsl h4 => ?_)
    have hbe : ((g.pages.length : Int) == (g'.pages.length : Int)) = true := by rw [hpg]; simp
    simp -implicitDefEqProofs only [↓GP, GB, GL, Nat.reduceAdd, Nat.reduceSub, Nat.reduceEqDiff, Nat.reduceMul, Nat.reduceLeDiff, Int.reduceBNe, Int.reduceBEq, Nat.reduceLT, reduceCtorEq, hbe]
    obtain ⟨j1, hj1⟩ := h.grown.2
    obtain ⟨j2, hj2⟩ := hsl
    refine k _ (freeP u g.pages) { G with hp := { G.hp with regs := A, sl := ptrN g.id :: G.hp.sl }, hr := { G.hr with regs := A', sl := sl' } } ⟨rfl, rfl, rfl, h.pop e1 e2 hA hA0 hgr ⟨j1 + j2, by rw [hj2, hj1]; omega⟩, freeP_len _ _, by simp, by simp⟩ ?_
    rw [← hpg] at h4
    exact (Holds.of (h4) (fun k => by simp +arith only [HA, HB]) (fun k x => by simp only [HA, HC]; grind only))
theorem AtErr.of {hp : PHeap} {n : Int} (hin : In C p hp) (h0 : hp.regs ≠ []) (hl : hp.regs.length ≤ 100000) (hb : ¬ (0 ≤ n ∧ n < hp.regs.length)) : AtErr C (ptrN hp.id) n 2 := .inr ⟨rfl, hp, p, rfl, hin.id, h0, by omega, hb⟩
theorem RAtErr.of {hr : RHeap} {n : Int} (hin : RIn C q hr) (h0 : hr.regs ≠ []) (hb : ¬ (0 ≤ n ∧ n < hr.regs.length)) : RAtErr C (ptrN hr.id) n 2 := .inr ⟨rfl, hr, q, rfl, hin, h0, hb⟩
theorem do_reset (x : ActG) (hd : intI .rem .u8 x.d 8 = some (.int .u8 2)) (h : PairOk u others G) (H : Holds o s (World p r q t u G F))
    (k : ∀ s' u' G', Next others u G u' G' → Holds o s' (World p r q t u' G' F) → Q (.bool true) s') : WP (call PF 26 [ptrN G.id, .agg x.cells] s) Q := by
  have f0 := H.mem World.id
  simp only [PairG.hd] at f0
  have h1 := H.alloc (.cells x.cells none)
  have hin := World.in_ (p := p) (r := r) (q := q) (t := t) (u := u) (G := G) (F := F)
  have rin := World.rin (p := p) (r := r) (q := q) (t := t) (u := u) (G := G) (F := F)
  have hrl := h.len
  have hpl := h.plen
  rw [call_run F26]; simp -implicitDefEqProofs only [↓GP, GB, GL, Nat.reduceAdd, Nat.reduceSub, Nat.reduceEqDiff, Nat.reduceMul, Nat.reduceLeDiff, Int.reduceBNe, Int.reduceBEq, Nat.reduceLT, reduceCtorEq, c26, hd, f0, Int.reduceBEq]
  by_cases hb : 0 ≤ x.a ∧ x.a < G.hp.regs.length
  · obtain ⟨n, hn⟩ : ∃ n : Nat, x.a = n := ⟨x.a.toNat, by omega⟩
    rw [hn]
    obtain ⟨A, g, B, A', g', B', e1, e2, l1, l2, hm, hA, hB⟩ := h.at_ (i := n) (by omega)
    have hg : G.hp.regs[n]? = some g := by rw [e1, ← l1]; simp
    by_cases hl : 100000 ≤ G.hp.lives
    · refine wp_in (s31_full h1 (hin.cons _).id (hin.cons _).row (by omega) hg hl fun s1 h2 => ?_)
      have f1 := h2.tl.mem World.id
      have f2 := h2.f1
      simp only [PairG.hd] at f1
      simp only [ActG.cells, hn] at f2
      have e := s62_full (i := n) h2 (rin.cons _) (by omega) (by rw [← h.lives]; exact hl)
      simp -implicitDefEqProofs only [↓GP, GB, GL, Nat.reduceAdd, Nat.reduceSub, Nat.reduceEqDiff, Nat.reduceMul, Nat.reduceLeDiff, Int.reduceBNe, Int.reduceBEq, Nat.reduceLT, reduceCtorEq, f1, f2, e]
      exact k _ u G h.nx h2.tl
    · have mg : g ∈ G.hp.regs := by rw [e1]; simp
      have mg' : g' ∈ G.hr.regs := by rw [e2]; simp
      have ok := h.okp mg
      have ok' := h.okr mg'
      have hu := h.ulen
      have hpg : g.pages = g'.pages := congrArg Reg.pages hm
      have h31 := fun Q' => s31 (o := o) (s := s.alloc (.cells x.cells none)) (Q := Q') (hp := G.hp) (p := p) (r := r) (u := u) (A := A) (B := B) (g := g) (F := (s.next, some (.cells x.cells none)) :: (poolC q t u ++ (G.pc ++ (G.hr.ch q ++ F)))) (Holds.of (h1) (fun k => by simp +arith only [HA, HB]) (fun k x => by simp only [HA, HC]; grind only)) e1 hpl (by omega) ok.1.pages ok.1.npages (by omega)
      rw [l1] at h31
      refine wp_in (h31 _ fun s1 kk h2 => ?_)
      have h3 : Holds o s1 ((s.next, some (.cells x.cells none)) :: (G.id, some (.cells [ptrN G.hp.id, ptrN G.hr.id, rowV G.wk G.ws.length] none)) :: (poolC q t u ++ (G.hr.ch q ++ ((G.wk, rowO 2 G.ws.length (G.ws.flatMap encW)) :: (poolC p r (freeP u g.pages) ++ (PHeap.ch p { G.hp with lives := G.hp.lives + 1, regs := A ++ { g with life := G.hp.lives + 1, fill := 0, pages := [], objs := [], plk := kk, pl := .map [] 0 } :: B } ++ F)))))) := (Holds.of (h2) (fun k => by simp +arith only [HA, HB]) (fun k x => by simp only [HA, HC]; grind only))
      have f := h3.f2
      simp only [ActG.cells, hn] at f
      simp -implicitDefEqProofs only [↓GP, GB, GL, Nat.reduceAdd, Nat.reduceSub, Nat.reduceEqDiff, Nat.reduceMul, Nat.reduceLeDiff, Int.reduceBNe, Int.reduceBEq, Nat.reduceLT, reduceCtorEq, f]
      have h62 := fun Q' => s62 (o := o) (s := s1) (Q := Q') (hr := G.hr) (p := q) (r := t) (u := u) (A := A') (B := B') (g := g') (F := (G.id, some (.cells [ptrN G.hp.id, ptrN G.hr.id, rowV G.wk G.ws.length] none)) :: ((G.wk, rowO 2 G.ws.length (G.ws.flatMap encW)) :: (poolC p r (freeP u g.pages) ++ (PHeap.ch p { G.hp with lives := G.hp.lives + 1, regs := A ++ { g with life := G.hp.lives + 1, fill := 0, pages := [], objs := [], plk := kk, pl := .map [] 0 } :: B } ++ F)))) (Holds.of (h3) (fun k => by simp +arith only [HA, HB]) (fun k x => by simp only [HA, HC]; grind only)) e2 (by omega) (by rw [← h.lives]; omega) (by omega) ok'.1.pages ok'.1.npages
      rw [l2] at h62
      refine wp_in (h62 _ fun s2 h4 => ?_)
      have hbe : (((G.hp.lives + 1 : Nat) : Int) == ((G.hr.lives + 1 : Nat) : Int)) = true := by rw [h.lives]; simp
      simp -implicitDefEqProofs only [↓GP, GB, GL, Nat.reduceAdd, Nat.reduceSub, Nat.reduceEqDiff, Nat.reduceMul, Nat.reduceLeDiff, Int.reduceBNe, Int.reduceBEq, Nat.reduceLT, reduceCtorEq, hbe]
      refine k _ (freeP u g.pages) { G with hp := { G.hp with lives := G.hp.lives + 1, regs := A ++ { g with life := G.hp.lives + 1, fill := 0, pages := [], objs := [], plk := kk, pl := .map [] 0 } :: B }, hr := { G.hr with lives := G.hr.lives + 1, regs := A' ++ { g' with life := G.hr.lives + 1, pgk := 0, fill := 0, pages := [], objs := [] } :: B' } } ⟨rfl, rfl, rfl, h.reset e1 e2 hA hB hm (by omega), freeP_len _ _, by simp, by simp⟩ ?_
      rw [← hpg] at h4
      exact (Holds.of (h4) (fun k => by simp +arith only [HA, HB]) (fun k x => by simp only [HA, HC]; grind only))
  · refine wp_in (s31_err h1 (AtErr.of (hin.cons _) h.pne hpl hb) rfl rfl fun s1 h2 => ?_)
    have f1 := h2.tl.mem World.id
    simp only [PairG.hd] at f1
    have e := s62_err h2 (RAtErr.of (rin.cons _) h.rne (by rw [← hrl]; exact hb))
    simp -implicitDefEqProofs only [↓GP, GB, GL, Nat.reduceAdd, Nat.reduceSub, Nat.reduceEqDiff, Nat.reduceMul, Nat.reduceLeDiff, Int.reduceBNe, Int.reduceBEq, Nat.reduceLT, reduceCtorEq, f1, h2.f1, e]
    exact k _ u G h.nx h2.tl
end
end Go.Proofs.Ytoldkemimhebaaa

set_option linter.unusedSimpArgs false
set_option linter.unusedVariables false
namespace Go.Proofs.Ytoldkemimhebaaa
open Go Go.IM
section
variable {o : Nat → Option O} {s : St} {C F : Ch} {Q : V → St → Prop} {p r q t : Nat} {u : List Bool} {others : List Nat} {G : PairG}
set_option maxRecDepth 10000
set_option maxHeartbeats 4000000
theorem zeros_in {n : Nat} : ∀ w ∈ List.replicate n ((0 : Int), (0 : Int)), 0 ≤ w.2 ∧ w.2 ≤ 100000 := fun w hw => by rw [List.eq_of_mem_replicate hw]; simp
theorem RInv.put {rg : Reg} (hi : RInv rg) {rest : List Nat} (hp : PoolInv u (rg.pages ++ rest)) {kind n : Nat} (hk : kind < 256) (hn : 1 ≤ n ∧ n ≤ 31) (hfin : 0 < rg.size → rg.objs = []) {at_ fill : Nat} {u' : List Bool} {pages : List Nat}
    (e : putM u rg.size rg.life rg.fill rg.pages (n + 1) = some (at_, u', fill, pages)) (ws : List (Int × Int)) (hws : ws.length = n) (hwl : ∀ w ∈ ws, 0 ≤ w.2 ∧ w.2 ≤ 100000) :
    RInv ⟨rg.size, rg.life, fill, pages, rg.objs ++ [⟨at_, kind, ws⟩]⟩ ∧ PoolInv u' (pages ++ rest) ∧ (∀ y ∈ rg.objs, y.at_ ≠ at_) := by
  have hwsall : ∀ x ∈ rg.objs ++ [(⟨at_, kind, ws⟩ : Obj)], 1 ≤ x.ws.length ∧ x.ws.length ≤ 31 ∧ x.kind < 256 := by
    intro x hx
    rcases List.mem_append.1 hx with hx | hx
    · exact hi.ws x hx
    · simp at hx; subst hx; simp only; omega
  have hwlall : ∀ x ∈ rg.objs ++ [(⟨at_, kind, ws⟩ : Obj)], ∀ w ∈ x.ws, 0 ≤ w.2 ∧ w.2 ≤ 100000 := by
    intro x hx
    rcases List.mem_append.1 hx with hx | hx
    · exact hi.wl x hx
    · simp at hx; subst hx; exact hwl
  by_cases hs : 0 < rg.size
  · have ho := hfin hs
    obtain ⟨f1, f2, f3, f4⟩ := hi.fin hs
    unfold putM at e
    rw [if_pos hs] at e
    cases e
    refine ⟨⟨hi.size, hwsall, fun _ => ⟨f1, f2, by simp [ho], fun x hx => by rw [ho] at hx; simp at hx; subst hx; rfl⟩, fun h0 => (by simp only at h0; omega), hwlall⟩, hp, fun y hy => by rw [ho] at hy; cases hy⟩
  · have hs0 : rg.size = 0 := by omega
    rw [hs0] at e
    obtain ⟨k1, k2⟩ := put_packed (hi.inf hs0) hp e
    have hr' : RInv ⟨rg.size, rg.life, fill, pages, rg.objs ++ [⟨at_, kind, ws⟩]⟩ := ⟨hi.size, hwsall, fun h0 => absurd h0 hs, fun _ =>
      (by rw [List.map_append]; simpa [hws] using k1), hwlall⟩
    refine ⟨hr', k2, fun y hy e => ?_⟩
    have hnd := hr'.nodup
    rw [List.map_append, List.nodup_append] at hnd
    exact hnd.2.2 y.at_ (List.mem_map.2 ⟨y, hy, rfl⟩) at_ (by simp) e
theorem s63 (x : ActG) (h : PairOk u others G) (H : Holds o s (World p r q t u G F)) (hwl : G.ws.length ≤ 1000000)
    (k : ∀ s' u' G', Next others u G u' G' → Holds o s' (World p r q t u' G' F) → Q (.bool true) s') : WP (call PF 63 [ptrN G.id, .agg x.cells] s) Q := by
  have f0 := H.mem World.id
  simp only [PairG.hd] at f0
  have h1 := (H.alloc (.cells x.cells none)).alloc (.cells [I 0, I 0] none)
  have hin := World.in_ (p := p) (r := r) (q := q) (t := t) (u := u) (G := G) (F := F)
  have rin := World.rin (p := p) (r := r) (q := q) (t := t) (u := u) (G := G) (F := F)
  have hrl := h.len
  have hpl := h.plen
  have hu := h.ulen
  have bad : ∀ err : Int, err = 2 ∨ err = 81 → ∀ s1, Holds o s1 ((s.next + 1, some (.cells [I 0, I 0] none)) :: (s.next, some (.cells x.cells none)) :: World p r q t u G F) →
      (∀ s2, Holds o s2 ((s1.next, some (.cells [I 0, I 0] none)) :: (s.next + 1, some (.cells [I 0, I 0] none)) :: (s.next, some (.cells x.cells none)) :: World p r q t u G F) → ∀ Q', (∀ s', Holds o s' ((s1.next, some (.cells [I 0, I 0] none)) :: (s.next + 1, some (.cells [I 0, I 0] none)) :: (s.next, some (.cells x.cells none)) :: World p r q t u G F) → Q' (.tuple [.agg [I 0, I 0], I err]) s') → WP (call PF 107 [ptrN G.hr.id, I x.a, I x.b, I x.c] s2) Q') →
      WP (go (loop PF) (call PF) j63_bb (sp 57 [(0, ptrN G.id), (3, ptrN s.next), (5, ptrN (s.next + 1)), (6, I err)]) s1 (finR [(4, none)])) Q := by
    intro err herr s1 h2 hR
    have fG := h2.tl.tl.mem World.id
    have f := h2.f2
    simp only [PairG.hd] at fG
    simp -implicitDefEqProofs only [↓GP, GB, GL, Nat.reduceAdd, Nat.reduceSub, Nat.reduceEqDiff, Nat.reduceMul, Nat.reduceLeDiff, Int.reduceBNe, Int.reduceBEq, Nat.reduceLT, reduceCtorEq, j63_bb, f, fG]
    have h3 := h2.alloc (.cells [I 0, I 0] none)
    refine wp_in (hR _ h3 _ fun s2 h4 => ?_)
    have f4 := h4.f2
    have h5 := ((h4.set0 (.cells [I 0, I 0] none)).tl).tl.tl
    rcases herr with rfl | rfl
    · simp -implicitDefEqProofs only [↓GP, GB, GL, Nat.reduceAdd, Nat.reduceSub, Nat.reduceEqDiff, Nat.reduceMul, Nat.reduceLeDiff, Int.reduceBNe, Int.reduceBEq, Nat.reduceLT, reduceCtorEq, f4, words_eq, Int.reduceBEq]
      exact k _ u G h.nx h5
    · simp -implicitDefEqProofs only [↓GP, GB, GL, Nat.reduceAdd, Nat.reduceSub, Nat.reduceEqDiff, Nat.reduceMul, Nat.reduceLeDiff, Int.reduceBNe, Int.reduceBEq, Nat.reduceLT, reduceCtorEq, f4, words_eq, Int.reduceBEq]
      exact k _ u G h.nx h5
  by_cases hb : 0 ≤ x.a ∧ x.a < G.hp.regs.length
  · obtain ⟨n, hn⟩ : ∃ n : Nat, x.a = n := ⟨x.a.toNat, by omega⟩
    obtain ⟨A, g, B, A', g', B', e1, e2, l1, l2, hm, hA, hB⟩ := h.at_ (i := n) (by omega)
    have hg : G.hp.regs[n]? = some g := by rw [e1, ← l1]; simp
    have hg' : G.hr.regs[n]? = some g' := by rw [e2, ← l2]; simp
    have mg : g ∈ G.hp.regs := by rw [e1]; simp
    have mg' : g' ∈ G.hr.regs := by rw [e2]; simp
    have ok := h.okp mg
    have ok' := h.okr mg'
    have hsz : g.size = g'.size := congrArg Reg.size hm
    have hlf : g.life = g'.life := congrArg Reg.life hm
    have hfl : g.fill = g'.fill := congrArg Reg.fill hm
    have hpg : g.pages = g'.pages := congrArg Reg.pages hm
    have hob : g.objs.map (·.b) = g'.objs.map (·.b) := congrArg Reg.objs hm
    have hol : g.objs.length = g'.objs.length := by have := congrArg List.length hob; simpa using this
    have hop := h.pol mg
    have hlife := ok'.1.life
    by_cases hbs : BadStore g x.b x.c
    · have hbs' : RBadStore g' x.b x.c := by
        rcases hbs with h | h | ⟨h, h'⟩
        · exact .inl h
        · exact .inr (.inl h)
        · refine .inr (.inr ⟨by omega, h'.imp (fun h => by omega) fun h => ?_⟩)
          intro e; rw [e] at hol; exact h (List.length_eq_zero_iff.1 hol)
      rw [call_run F63]; simp -implicitDefEqProofs only [↓GP, GB, GL, Nat.reduceAdd, Nat.reduceSub, Nat.reduceEqDiff, Nat.reduceMul, Nat.reduceLeDiff, Int.reduceBNe, Int.reduceBEq, Nat.reduceLT, reduceCtorEq, c63, f0]
      rw [hn]
      refine wp_in (s34_bad h1 ((hin.cons _).cons _).id ((hin.cons _).cons _).row (by omega) hg (((hin.cons _).cons _).hd mg) hbs fun s1 h2 => ?_)
      have f2 := h2.f1
      simp only [alloc_next] at f2
      simp -implicitDefEqProofs only [↓GP, GB, GL, Nat.reduceAdd, Nat.reduceSub, Nat.reduceEqDiff, Nat.reduceMul, Nat.reduceLeDiff, Int.reduceBNe, Int.reduceBEq, Nat.reduceLT, reduceCtorEq, f2]
      refine bad 2 (.inl rfl) _ (h2.set0 _) fun s2 h3 Q' hq => ?_
      rw [hn]
      exact s107_bad h3 (((rin.cons _).cons _).cons _) hg' hlife hbs' fun s3 h4 => hq s3 h4
    · obtain ⟨kd, hkd⟩ : ∃ kd : Nat, x.b = kd := ⟨x.b.toNat, by unfold BadStore at hbs; omega⟩
      obtain ⟨wd, hwd⟩ : ∃ wd : Nat, x.c = wd := ⟨x.c.toNat, by unfold BadStore at hbs; omega⟩
      have hgs : GoodStore g kd wd := by
        unfold BadStore at hbs
        rw [hkd, hwd] at hbs
        refine ⟨by omega, by omega, by omega, by omega, fun hs => ?_⟩
        refine ⟨by omega, ?_⟩
        rcases Classical.em (g.objs = []) with h | h
        · exact h
        · exact absurd (.inr (.inr ⟨hs, .inr h⟩)) hbs
      have hgs' : RGoodStore g' kd wd := by
        obtain ⟨b1, b2, b3, b4, b5⟩ := hgs
        refine ⟨b1, b2, b3, b4, fun hs => ?_⟩
        obtain ⟨c1, c2⟩ := b5 (by omega)
        exact ⟨by omega, by rw [c2] at hol; exact List.length_eq_zero_iff.1 hol.symm⟩
      rw [call_run F63]; simp -implicitDefEqProofs only [↓GP, GB, GL, Nat.reduceAdd, Nat.reduceSub, Nat.reduceEqDiff, Nat.reduceMul, Nat.reduceLeDiff, Int.reduceBNe, Int.reduceBEq, Nat.reduceLT, reduceCtorEq, c63, f0]
      rw [hn, hkd, hwd]
      cases hput : putM u g.size g.life g.fill g.pages (wd + 1) with
      | none =>
        have h34 := fun Q' => s34_full (o := o) (s := (s.alloc (.cells x.cells none)).alloc (.cells [I 0, I 0] none)) (Q := Q') (hp := G.hp) (p := p) (r := r) (u := u) (A := A) (B := B) (g := g) (F := (s.next + 1, some (.cells [I 0, I 0] none)) :: (s.next, some (.cells x.cells none)) :: (poolC q t u ++ (G.pc ++ (G.hr.ch q ++ F)))) (Holds.of (h1) (fun k => by simp +arith only [alloc_next, HA, HB]) (fun k x => by simp only [alloc_next, HA, HC]; grind only)) e1 hpl (by omega) ok.1 hgs hput
        rw [l1] at h34
        refine wp_in (h34 _ fun s1 h2 => ?_)
        have h2' : Holds o s1 ((s.next + 1, some (.cells [I 0, I 0] none)) :: (s.next, some (.cells x.cells none)) :: World p r q t u G F) := (Holds.of (h2) (fun k => by simp +arith only [HA, HB]) (fun k x => by simp only [HA, HC]; grind only))
        simp -implicitDefEqProofs only [↓GP, GB, GL, Nat.reduceAdd, Nat.reduceSub, Nat.reduceEqDiff, Nat.reduceMul, Nat.reduceLeDiff, Int.reduceBNe, Int.reduceBEq, Nat.reduceLT, reduceCtorEq, h2'.f1]
        refine bad 81 (.inr rfl) _ (h2'.set0 _) fun s2 h3 Q' hq => ?_
        rw [hn, hkd, hwd]
        have h107 := fun Q' => s107_full (o := o) (s := s2) (Q := Q') (hr := G.hr) (p := q) (r := t) (u := u) (A := A') (B := B') (g := g') (F := (s1.next, some (.cells [I 0, I 0] none)) :: (s.next + 1, some (.cells [I 0, I 0] none)) :: (s.next, some (.cells x.cells none)) :: (poolC p r u ++ (G.pc ++ (G.hp.ch p ++ F)))) (Holds.of (h3) (fun k => by simp +arith only [HA, HB]) (fun k x => by simp only [HA, HC]; grind only)) e2 (by omega) ok'.1.b hgs' (by rw [← hput, hsz, hlf, hfl, hpg])
        rw [l2] at h107
        exact h107 _ fun s3 h4 => hq s3 (Holds.of (h4) (fun k => by simp +arith only [HA, HB]) (fun k x => by simp only [HA, HC]; grind only))
      | some res =>
        obtain ⟨at_, u', fill, pages⟩ := res
        have hput' : putM u g'.size g'.life g'.fill g'.pages (wd + 1) = some (at_, u', fill, pages) := by rw [← hput, hsz, hlf, hfl, hpg]
        obtain ⟨hri, hpool, hfresh⟩ := (h.inv.reg g.m (List.mem_map.2 ⟨g, mg, rfl⟩)).put (h.pool1 e1) (kind := kd) (n := wd) (by have := hgs.2.1; omega) ⟨hgs.2.2.1, hgs.2.2.2.1⟩ (fun hs => by have := (hgs.2.2.2.2 hs).2; simp [PReg.m, this]) hput (List.replicate wd (0, 0)) (by simp) zeros_in
        have hf : ∀ y ∈ g.objs, y.b.at_ ≠ at_ := fun y hy => hfresh y.b (List.mem_map.2 ⟨y, hy, rfl⟩)
        have h34 := fun Q' => s34 (o := o) (s := (s.alloc (.cells x.cells none)).alloc (.cells [I 0, I 0] none)) (Q := Q') (hp := G.hp) (p := p) (r := r) (u := u) (A := A) (B := B) (g := g) (F := (s.next + 1, some (.cells [I 0, I 0] none)) :: (s.next, some (.cells x.cells none)) :: (poolC q t u ++ (G.pc ++ (G.hr.ch q ++ F)))) (Holds.of (h1) (fun k => by simp +arith only [alloc_next, HA, HB]) (fun k x => by simp only [alloc_next, HA, HC]; grind only)) e1 hpl (by omega) ok.1 (h.pok g mg) (by omega) hgs hput hf
        rw [l1] at h34
        refine wp_in (h34 _ fun s1 pgk obk pl xid wid okp h2 => ?_)
        generalize hgd : (({ g with pgk := pgk, pages := pages, fill := fill } : PReg).lay obk pl ⟨xid, wid, ⟨at_, kd, List.replicate wd (0, 0)⟩⟩) = g1 at okp h2
        have h3 : Holds o s1 ((s.next + 1, some (.cells [I 0, I 0] none)) :: (s.next, some (.cells x.cells none)) :: (G.id, some (.cells [ptrN G.hp.id, ptrN G.hr.id, rowV G.wk G.ws.length] none)) :: (poolC q t u ++ (G.hr.ch q ++ ((G.wk, rowO 2 G.ws.length (G.ws.flatMap encW)) :: (poolC p r u' ++ (PHeap.ch p { G.hp with regs := A ++ g1 :: B } ++ F)))))) := (Holds.of (h2) (fun k => by simp +arith only [HA, HB]) (fun k x => by simp only [HA, HC]; grind only))
        have f3 := h3.f3
        simp only [ActG.cells, hn, hkd, hwd] at f3
        simp -implicitDefEqProofs only [↓GP, GB, GL, Nat.reduceAdd, Nat.reduceSub, Nat.reduceEqDiff, Nat.reduceMul, Nat.reduceLeDiff, Int.reduceBNe, Int.reduceBEq, Nat.reduceLT, reduceCtorEq, j63_bb, f3]
        have h4 := (h3.set0 (.cells [I at_, I g.life] none)).alloc (.cells [I 0, I 0] none)
        have h107 := fun Q' => s107 (o := o) (s := (s1.set (s.next + 1) (.cells [I at_, I g.life] none)).alloc (.cells [I 0, I 0] none)) (Q := Q') (hr := G.hr) (p := q) (r := t) (u := u) (A := A') (B := B') (g := g') (F := (s1.next, some (.cells [I 0, I 0] none)) :: (s.next + 1, some (.cells [I at_, I g.life] none)) :: (G.id, some (.cells [ptrN G.hp.id, ptrN G.hr.id, rowV G.wk G.ws.length] none)) :: ((G.wk, rowO 2 G.ws.length (G.ws.flatMap encW)) :: (poolC p r u' ++ (PHeap.ch p { G.hp with regs := A ++ g1 :: B } ++ F)))) (Holds.of (h4) (fun k => by simp +arith only [set_next, HA, HB]) (fun k x => by simp only [set_next, HA, HC]; grind only)) e2 (by omega) ok'.1.b hgs' (by omega) (h.pz g' (by rw [e2]; simp)) hput'
        rw [l2] at h107
        refine wp_in (h107 _ fun s2 pgk' obk' wid' hz' h5 => ?_)
        generalize hgd' : ({ g' with pgk := pgk', obk := obk', fill := fill, pages := pages, objs := g'.objs ++ [⟨wid', ⟨at_, kd, List.replicate wd (0, 0)⟩, false⟩] } : RReg) = g1' at h5
        have h6 : Holds o s2 ((s1.next, some (.cells [I 0, I 0] none)) :: (s.next + 1, some (.cells [I at_, I g.life] none)) :: (G.id, some (.cells [ptrN G.hp.id, ptrN G.hr.id, rowV G.wk G.ws.length] none)) :: (G.wk, rowO 2 G.ws.length (G.ws.flatMap encW)) :: (poolC p r u' ++ (PHeap.ch p { G.hp with regs := A ++ g1 :: B } ++ (poolC q t u' ++ (RHeap.ch q { G.hr with regs := A' ++ g1' :: B' } ++ F))))) := (Holds.of (h5) (fun k => by simp +arith only [HA, HB]) (fun k x => by simp only [HA, HC]; grind only))
        have f6 := h6.f3
        rw [← hlf] at *
        simp -implicitDefEqProofs only [↓GP, GB, GL, Nat.reduceAdd, Nat.reduceSub, Nat.reduceEqDiff, Nat.reduceMul, Nat.reduceLeDiff, Int.reduceBNe, Int.reduceBEq, Nat.reduceLT, reduceCtorEq, f6]
        have h7 := (h6.set0 (.cells [I at_, I g.life] none)).alloc (.cells [I at_, I g.life] none)
        refine wp_append (cs := G.ws.flatMap encW) (h7.r4) (by rw [tab_len encW_len]) (new_cells' (alloc_new_same _ _) rfl) rfl rfl (by omega) (by unfold maxRow; omega) (by unfold maxRow; omega) fun wk' s3 h8 => ?_
        have h9 := h8.r1.tl
        have f9 := h9.tl.f3
        simp -implicitDefEqProofs only [↓GP, GB, GL, Nat.reduceAdd, Nat.reduceSub, Nat.reduceEqDiff, Nat.reduceMul, Nat.reduceLeDiff, Int.reduceBNe, Int.reduceBEq, Nat.reduceLT, reduceCtorEq, f9, words_eq, Int.reduceBEq]
        have h10 := h9.set3 (.cells [ptrN G.hp.id, ptrN G.hr.id, rowV wk' (G.ws.length + 1)] none)
        refine k _ u' { G with wk := wk', hp := { G.hp with regs := A ++ g1 :: B }, hr := { G.hr with regs := A' ++ g1' :: B' }, ws := G.ws ++ [((at_ : Int), (g.life : Int))] } ?_ ?_
        · have hup := h.upd (u' := u') (g1 := g1) (g1' := g1') e1 e2 hA hB (by subst hgd hgd'; simp [PReg.m, PReg.lay, RReg.m, hsz, hlf, hob]) (by subst hgd; rfl) (by subst hgd; simpa [PReg.m, PReg.lay] using hri) okp (by subst hgd'; exact hz') (putM_len hput) (by subst hgd; exact hpool)
          exact ⟨rfl, rfl, rfl, ⟨hup.ulen, hup.lives, hup.same, hup.inv, hup.pool, hup.pok, hup.grown, hup.pz, hup.one⟩, putM_len hput, by simp, by simp⟩
        · have he : (G.ws ++ [((at_ : Int), (g.life : Int))]).flatMap encW = G.ws.flatMap encW ++ [I at_, I g.life] := by rw [List.flatMap_append]; rfl
          exact (Holds.of (h10) (fun k => by simp +arith only [he, List.length_append, List.length_cons, List.length_nil, Nat.zero_add, HA, HB]) (fun k x => by simp only [he, List.length_append, List.length_cons, List.length_nil, Nat.zero_add, HA, HC]; grind only))
  · rw [call_run F63]; simp -implicitDefEqProofs only [↓GP, GB, GL, Nat.reduceAdd, Nat.reduceSub, Nat.reduceEqDiff, Nat.reduceMul, Nat.reduceLeDiff, Int.reduceBNe, Int.reduceBEq, Nat.reduceLT, reduceCtorEq, c63, f0]
    refine wp_in (s34_err h1 (AtErr.of ((hin.cons _).cons _) h.pne hpl hb) rfl rfl fun s1 h2 => ?_)
    have f2 := h2.f1
    simp only [alloc_next] at f2
    simp -implicitDefEqProofs only [↓GP, GB, GL, Nat.reduceAdd, Nat.reduceSub, Nat.reduceEqDiff, Nat.reduceMul, Nat.reduceLeDiff, Int.reduceBNe, Int.reduceBEq, Nat.reduceLT, reduceCtorEq, f2]
    refine bad 2 (.inl rfl) _ (h2.set0 _) fun s2 h3 Q' hq => ?_
    exact s107_err h3 (RAtErr.of (((rin.cons _).cons _).cons _) h.rne (by rw [← hrl]; exact hb)) fun s3 h4 => hq s3 h4
end
end Go.Proofs.Ytoldkemimhebaaa

set_option linter.unusedSimpArgs false
set_option linter.unusedVariables false
namespace Go.Proofs.Ytoldkemimhebaaa
open Go Go.IM
section
variable {o : Nat → Option O} {s : St} {C F : Ch} {Q : V → St → Prop} {p r q t : Nat} {u : List Bool} {others : List Nat} {G : PairG}
set_option maxRecDepth 10000
set_option maxHeartbeats 4000000
theorem RInv.congr {rg rg' : Reg} (h : RInv rg) (h1 : rg'.size = rg.size) (h2 : rg'.life = rg.life) (h3 : rg'.fill = rg.fill) (h4 : rg'.pages = rg.pages) (h5 : rg'.objs.map (fun x => (x.at_, x.kind, x.ws.length)) = rg.objs.map (fun x => (x.at_, x.kind, x.ws.length))) (h6 : ∀ x ∈ rg'.objs, ∀ w ∈ x.ws, 0 ≤ w.2 ∧ w.2 ≤ 100000) : RInv rg' := by
  have len : rg'.objs.length = rg.objs.length := by have := congrArg List.length h5; simpa using this
  have tr : ∀ x ∈ rg'.objs, ∃ y ∈ rg.objs, y.at_ = x.at_ ∧ y.kind = x.kind ∧ y.ws.length = x.ws.length := by
    intro x hx
    have : (x.at_, x.kind, x.ws.length) ∈ rg.objs.map (fun x => (x.at_, x.kind, x.ws.length)) := by rw [← h5]; exact List.mem_map.2 ⟨x, hx, rfl⟩
    obtain ⟨y, hy, e⟩ := List.mem_map.1 this
    simp only [Prod.mk.injEq] at e
    exact ⟨y, hy, e⟩
  refine ⟨by rw [h1]; exact h.size, fun x hx => ?_, fun hs => ?_, fun hs => ?_, h6⟩
  · obtain ⟨y, hy, _, e2, e3⟩ := tr x hx
    have := h.ws y hy
    omega
  · rw [h1] at hs
    obtain ⟨k1, k2, k3, k4⟩ := h.fin hs
    refine ⟨by rw [h4]; exact k1, by rw [h3]; exact k2, by rw [len]; exact k3, fun x hx => ?_⟩
    obtain ⟨y, hy, e1, _⟩ := tr x hx
    rw [h2, ← k4 y hy, e1]
  · rw [h1] at hs
    have := h.inf hs
    have e : rg'.objs.map (fun x => (x.at_, x.ws.length + 1)) = rg.objs.map (fun x => (x.at_, x.ws.length + 1)) := by
      have := congrArg (List.map fun z : Nat × Nat × Nat => (z.1, z.2.2 + 1)) h5
      simpa [List.map_map, Function.comp_def] using this
    rw [e, h3, h4]; exact this
def PObj.write (x : PObj) (i : Nat) (w : Int × Int) : PObj := { x with b := { x.b with ws := x.b.ws.set i w } }
def RObj.write (x : RObj) (i : Nat) (w : Int × Int) : RObj := { x with b := { x.b with ws := x.b.ws.set i w } }
theorem ok_write {g : PReg} {X Y : List PObj} {x : PObj} (e : g.objs = X ++ x :: Y) (h : g.ok) (i : Nat) (w : Int × Int) : PReg.ok { g with objs := X ++ x.write i w :: Y } := by
  obtain ⟨l, c, e1, hl⟩ := h
  refine ⟨l, c, e1, fun a => (hl a).trans ?_⟩
  simp only [e, List.find?_append, List.find?_cons]
  have : (x.write i w).b.at_ = x.b.at_ := rfl
  rw [this]
  cases List.find? (fun x => decide ((x.b.at_ : Int) = a)) X with
  | some _ => rfl
  | none => simp only [Option.none_or]; cases decide ((x.b.at_ : Int) = a) <;> rfl
theorem PairOk.write (h : PairOk u others G) {A B : List PReg} {A' B' : List RReg} {g : PReg} {g' : RReg} {X Y : List PObj} {X' Y' : List RObj} {x : PObj} {x' : RObj} (e1 : G.hp.regs = A ++ g :: B) (e2 : G.hr.regs = A' ++ g' :: B') (hA : A.map PReg.m = A'.map RReg.m) (hB : B.map PReg.m = B'.map RReg.m) (hm : g.m = g'.m)
    (ex : g.objs = X ++ x :: Y) (ex' : g'.objs = X' ++ x' :: Y') (hX : X.length = X'.length) (i : Nat) (w : Int × Int) (hw : 0 ≤ w.2 ∧ w.2 ≤ 100000) :
    PairOk u others { G with hp := { G.hp with regs := A ++ { g with objs := X ++ x.write i w :: Y } :: B }, hr := { G.hr with regs := A' ++ { g' with objs := X' ++ x'.write i w :: Y' } :: B' } } := by
  have mg : g ∈ G.hp.regs := by rw [e1]; simp
  have hob : g.objs.map (·.b) = g'.objs.map (·.b) := congrArg Reg.objs hm
  have hsz : g.size = g'.size := congrArg Reg.size hm
  have hlf : g.life = g'.life := congrArg Reg.life hm
  have hfl : g.fill = g'.fill := congrArg Reg.fill hm
  have hpg : g.pages = g'.pages := congrArg Reg.pages hm
  rw [ex, ex'] at hob
  simp only [List.map_append, List.map_cons] at hob
  obtain ⟨k1, k2⟩ := List.append_inj hob (by simpa using hX)
  simp only [List.cons.injEq] at k2
  have hri := (h.inv.reg g.m (List.mem_map.2 ⟨g, mg, rfl⟩)).congr (rg' := PReg.m { g with objs := X ++ x.write i w :: Y }) rfl rfl rfl rfl (by simp [PReg.m, ex, PObj.write]) (fun z hz v hv => by
    have hwl := (h.inv.reg g.m (List.mem_map.2 ⟨g, mg, rfl⟩)).wl
    simp only [PReg.m, ex, List.map_append, List.map_cons, List.mem_append, List.mem_cons] at hz hwl
    rcases hz with hz | rfl | hz
    · exact hwl z (.inl hz) v hv
    · rcases List.mem_or_eq_of_mem_set hv with hv | rfl
      · exact hwl x.b (.inr (.inl rfl)) v hv
      · exact hw
    · exact hwl z (.inr (.inr hz)) v hv)
  exact h.upd (u' := u) e1 e2 hA hB (by simp [PReg.m, RReg.m, hsz, hlf, hfl, hpg, k1, k2.2, PObj.write, RObj.write, k2.1]) rfl hri (ok_write ex (h.pok g mg) i w) (h.pz g' (by rw [e2]; simp)) rfl (h.pool1 (g := g) e1)
theorem list_split {α : Type} {l : List α} {i : Nat} {x : α} (h : l[i]? = some x) : l = l.take i ++ x :: l.drop (i + 1) ∧ (l.take i).length = i := by
  obtain ⟨hi, e⟩ := List.getElem?_eq_some_iff.1 h
  refine ⟨?_, by simp; omega⟩
  rw [← e, ← List.drop_eq_getElem_cons hi, List.take_append_drop]
theorem PairOk.find (h : PairOk u others G) {N L : Int} (hL : 1 ≤ L) :
    (rfind N L G.hr.regs 0 = none ∧ pfind N L G.hp.regs = none) ∨
    ∃ a b A g B A' g' B' X x Y X' x' Y', rfind N L G.hr.regs 0 = some (a, b) ∧ pfind N L G.hp.regs = some x ∧ G.hr.regs[a]? = some g' ∧ g'.objs[b]? = some x' ∧ x.b = x'.b ∧ g ∈ G.hp.regs ∧ x ∈ g.objs ∧
      G.hp.regs = A ++ g :: B ∧ G.hr.regs = A' ++ g' :: B' ∧ A.map PReg.m = A'.map RReg.m ∧ B.map PReg.m = B'.map RReg.m ∧ g.m = g'.m ∧ g.objs = X ++ x :: Y ∧ g'.objs = X' ++ x' :: Y' ∧ X.length = X'.length := by
  have hf := find_same (N := N) hL G.hp.regs G.hr.regs 0 h.same
  cases hr : rfind N L G.hr.regs 0 with
  | none => rw [hr] at hf; exact .inl ⟨rfl, hf⟩
  | some ab =>
    obtain ⟨a, b⟩ := ab
    rw [hr] at hf
    obtain ⟨g, g', x, x', _, k1, k2, k3, k4, k5, k6, k7, _, _⟩ := hf
    rw [Nat.sub_zero] at k1 k2
    obtain ⟨e1, l1⟩ := list_split k1
    obtain ⟨e2, l2⟩ := list_split k2
    obtain ⟨e3, l3⟩ := list_split k3
    obtain ⟨e4, l4⟩ := list_split k4
    refine .inr ⟨a, b, _, g, _, _, g', _, _, x, _, _, x', _, rfl, k7, k2, k4, k5, List.mem_of_getElem? k1, List.mem_of_getElem? k3, e1, e2, ?_, ?_, k6, e3, e4, by omega⟩
    · rw [List.map_take, List.map_take, h.same]
    · rw [List.map_drop, List.map_drop, h.same]
theorem bb_true {VL : Int} (h : 0 ≤ VL ∧ VL ≤ 100000) : (decide (0 ≤ VL) && decide (VL ≤ 100000)) = true := by simpa using h
theorem bb_iff {VL : Int} : (decide (0 ≤ VL) && decide (VL ≤ 100000)) = true ↔ (0 ≤ VL ∧ VL ≤ 100000) := by simp
theorem PairOk.setCases (h : PairOk u others G) {D : Ch} (hin : In D p G.hp) (rin : RIn D q G.hr) (N L i VL : Int) :
    (∃ err : Int, WordErr D (ptrN G.hp.id) N L i (decide (0 ≤ VL) && decide (VL ≤ 100000)) err ∧ RSetErr D (ptrN G.hr.id) N L i VL err) ∨
    (1 ≤ L ∧ 0 ≤ VL ∧ VL ≤ 100000 ∧ ∃ n : Nat, i = n ∧ ∃ a b A g B A' g' B' X x Y X' x' Y', rfind N L G.hr.regs 0 = some (a, b) ∧ pfind N L G.hp.regs = some x ∧ G.hr.regs[a]? = some g' ∧ g'.objs[b]? = some x' ∧ x.b = x'.b ∧ g ∈ G.hp.regs ∧ x ∈ g.objs ∧
      G.hp.regs = A ++ g :: B ∧ G.hr.regs = A' ++ g' :: B' ∧ A.map PReg.m = A'.map RReg.m ∧ B.map PReg.m = B'.map RReg.m ∧ g.m = g'.m ∧ g.objs = X ++ x :: Y ∧ g'.objs = X' ++ x' :: Y' ∧ X.length = X'.length ∧ n < x.b.ws.length ∧ x.b.ws.length ≤ 31) := by
  by_cases hL : 1 ≤ L
  · by_cases hv : 0 ≤ VL ∧ VL ≤ 100000
    · rcases h.find (N := N) hL with ⟨h1, h2⟩ | ⟨a, b, A, g, B, A', g', B', X, x, Y, X', x', Y', k1, k2, k3, k4, k5, k6, k7, k8⟩
      · exact .inl ⟨80, .inl (.inr ⟨G.hp, p, rfl, hin, h.pne, h.plen, h.pok, .inr ⟨rfl, by omega, bb_true hv, h2⟩⟩), .inr ⟨G.hr, q, rfl, rin, h.rne, h.rlen, h.rol', .inr ⟨hL, hv.1, hv.2, .inl ⟨rfl, h1⟩⟩⟩⟩
      · have hws := (h.inv.reg g.m (List.mem_map.2 ⟨g, k6, rfl⟩)).ws x.b (List.mem_map.2 ⟨x, k7, rfl⟩)
        by_cases hi : 0 ≤ i ∧ i < x.b.ws.length
        · exact .inr ⟨hL, hv.1, hv.2, i.toNat, by omega, a, b, A, g, B, A', g', B', X, x, Y, X', x', Y', k1, k2, k3, k4, k5, k6, k7, k8.1, k8.2.1, k8.2.2.1, k8.2.2.2.1, k8.2.2.2.2.1, k8.2.2.2.2.2.1, k8.2.2.2.2.2.2.1, k8.2.2.2.2.2.2.2, by omega, hws.2.1⟩
        · refine .inl ⟨2, .inr ⟨rfl, bb_true hv, by omega, G.hp, p, x, rfl, hin, h.pne, h.plen, h.pok, k2, hws.2.1, List.length_pos_iff.1 (by omega), hi⟩, .inr ⟨G.hr, q, rfl, rin, h.rne, h.rlen, h.rol', .inr ⟨hL, hv.1, hv.2, .inr ⟨rfl, a, b, g', x', k1, k3, k4, by rw [← k5]; exact hi⟩⟩⟩⟩
    · exact .inl ⟨2, .inl (.inr ⟨G.hp, p, rfl, hin, h.pne, h.plen, h.pok, .inl ⟨rfl, fun k => hv (bb_iff.1 k.2)⟩⟩), .inr ⟨G.hr, q, rfl, rin, h.rne, h.rlen, h.rol', .inl ⟨rfl, fun k => hv k.2⟩⟩⟩
  · exact .inl ⟨2, .inl (.inr ⟨G.hp, p, rfl, hin, h.pne, h.plen, h.pok, .inl ⟨rfl, fun k => hL (by omega)⟩⟩), .inr ⟨G.hr, q, rfl, rin, h.rne, h.rlen, h.rol', .inl ⟨rfl, fun k => hL k.1⟩⟩⟩
theorem do_set (x : ActG) (hd : intI .rem .u8 x.d 8 = some (.int .u8 4)) (h : PairOk u others G) (H : Holds o s (World p r q t u G F))
    (k : ∀ s' u' G', Next others u G u' G' → Holds o s' (World p r q t u' G' F) → Q (.bool true) s') : WP (call PF 26 [ptrN G.id, .agg x.cells] s) Q := by
  have h1 := H.alloc (.cells x.cells none)
  have hin := World.in_ (p := p) (r := r) (q := q) (t := t) (u := u) (G := G) (F := F)
  have rin := World.rin (p := p) (r := r) (q := q) (t := t) (u := u) (G := G) (F := F)
  have hpl := h.plen
  have hrl := h.rlen
  rw [call_run F26]; simp -implicitDefEqProofs only [↓GP, GB, GL, Nat.reduceAdd, Nat.reduceSub, Nat.reduceEqDiff, Nat.reduceMul, Nat.reduceLeDiff, Int.reduceBNe, Int.reduceBEq, Nat.reduceLT, reduceCtorEq, c26, hd, Int.reduceBEq]
  refine wp_in (s64 h1 (List.mem_cons_of_mem _ World.id) (List.mem_cons_of_mem _ World.wk) x fun s1 h2 => ?_)
  generalize wordG G.ws x = w
  have f2 := h2.f1
  have fG := h2.tl.mem World.id
  simp only [PairG.hd] at fG
  have h3 := (h2.alloc (.cells [I 0, I 0] none)).set0 (.cells [I w.1, I w.2] none)
  simp -implicitDefEqProofs only [↓GP, GB, GL, Nat.reduceAdd, Nat.reduceSub, Nat.reduceEqDiff, Nat.reduceMul, Nat.reduceLeDiff, Int.reduceBNe, Int.reduceBEq, Nat.reduceLT, reduceCtorEq, f2, fG, encW]
  generalize (s1.alloc (.cells [I 0, I 0] none)).set s1.next (.cells [I w.1, I w.2] none) = S at h3 ⊢
  rcases h.setCases ((hin.cons (s.next, some (.cells x.cells none))).cons (s1.next, some (.cells [I w.1, I w.2] none))) ((rin.cons (s.next, some (.cells x.cells none))).cons (s1.next, some (.cells [I w.1, I w.2] none))) w.1 w.2 x.a x.v.2 with
    ⟨err, e1, e2⟩ | ⟨hL, hv1, hv2, n, hn, a, b, A, g, B, A', g', B', X, y, Y, X', y', Y', k1, k2, k3, k4, k5, k6, k7, k8, k9, k10, k11, k12, k13, k14, k15, k16, k17⟩
  · refine wp_in (s65_err (VN := x.v.1) h3 e1 fun s2 h4 => ?_)
    have f4 := h4.f2
    have fG4 := h4.tl.tl.mem World.id
    simp only [PairG.hd] at fG4
    simp -implicitDefEqProofs only [↓GP, GB, GL, Nat.reduceAdd, Nat.reduceSub, Nat.reduceEqDiff, Nat.reduceMul, Nat.reduceLeDiff, Int.reduceBNe, Int.reduceBEq, Nat.reduceLT, reduceCtorEq, f4, fG4]
    refine wp_in (s66_err h4 e2 fun s3 h5 => ?_)
    have hbe : (err == err) = true := by simp
    simp -implicitDefEqProofs only [↓GP, GB, GL, Nat.reduceAdd, Nat.reduceSub, Nat.reduceEqDiff, Nat.reduceMul, Nat.reduceLeDiff, Int.reduceBNe, Int.reduceBEq, Nat.reduceLT, reduceCtorEq, hbe]
    exact k _ u G h.nx h5.tl.tl
  · rw [hn]
    have hin2 := (hin.cons (s.next, some (.cells x.cells none))).cons (s1.next, some (.cells [I w.1, I w.2] none))
    refine wp_in (s65 (w := x.v) (F := (s1.next, some (.cells [I w.1, I w.2] none)) :: (s.next, some (.cells x.cells none)) :: (y.id, some y.O) :: (g.id, some g.hd) :: (g.pgk, pagesO g.pages) :: (g.obk, PReg.obO g.objs) :: (g.plk, some g.pl) :: (X.flatMap PObj.ch ++ (Y.flatMap PObj.ch ++ ((G.hp.id, some (G.hp.hd p)) :: (G.hp.rowk, G.hp.row) :: (A.flatMap PReg.ch ++ (B.flatMap PReg.ch ++ (poolC p r u ++ (poolC q t u ++ (G.pc ++ (G.hr.ch q ++ F)))))))))) h3 hin2 h.pne h.plen h.pok (by omega) ⟨hv1, hv2⟩ k2 k16 k17 (fun s1 h => (Holds.of (h) (fun k => by simp +arith only [k8, k13, HA, HB]) (fun k x => by simp only [k8, k13, HA, HC]; grind only))) fun s2 h4 => ?_)
    have h5 : Holds o s2 ((s1.next, some (.cells [I w.1, I w.2] none)) :: (s.next, some (.cells x.cells none)) :: (G.id, some (.cells [ptrN G.hp.id, ptrN G.hr.id, rowV G.wk G.ws.length] none)) :: (G.hr.ch q ++ ((G.wk, rowO 2 G.ws.length (G.ws.flatMap encW)) :: (poolC p r u ++ (poolC q t u ++ (PHeap.ch p { G.hp with regs := A ++ { g with objs := X ++ y.write n x.v :: Y } :: B } ++ F)))))) :=
      (Holds.of (h4) (fun k => by simp +arith only [PObj.write, PReg.hd, PReg.obO, PObj.O, PObj.W, PHeap.hd, PHeap.row, k8, k13, List.length_append, List.length_cons, List.map_append, List.map_cons, List.length_set, HA, HB]) (fun k x => by simp only [PObj.write, PReg.hd, PReg.obO, PObj.O, PObj.W, PHeap.hd, PHeap.row, k8, k13, List.length_append, List.length_cons, List.map_append, List.map_cons, List.length_set, HA, HC]; grind only))
    have f5 := h5.f3
    simp only [ActG.cells, hn] at f5
    simp -implicitDefEqProofs only [↓GP, GB, GL, Nat.reduceAdd, Nat.reduceSub, Nat.reduceEqDiff, Nat.reduceMul, Nat.reduceLeDiff, Int.reduceBNe, Int.reduceBEq, Nat.reduceLT, reduceCtorEq, f5]
    have rin5 : RIn ((s1.next, some (.cells [I w.1, I w.2] none)) :: (s.next, some (.cells x.cells none)) :: (G.id, some (.cells [ptrN G.hp.id, ptrN G.hr.id, rowV G.wk G.ws.length] none)) :: (G.hr.ch q ++ ((G.wk, rowO 2 G.ws.length (G.ws.flatMap encW)) :: (poolC p r u ++ (poolC q t u ++ (PHeap.ch p { G.hp with regs := A ++ { g with objs := X ++ y.write n x.v :: Y } :: B } ++ F)))))) q G.hr :=
      ⟨fun z hz => List.mem_cons_of_mem _ (List.mem_cons_of_mem _ (List.mem_cons_of_mem _ (List.mem_append_left _ hz)))⟩
    refine wp_in (s66 (w := x.v) (p := q) (F := (g'.pgk, pagesO g'.pages) :: (g'.obk, RReg.obO g'.objs) :: (X'.flatMap RObj.ch ++ (Y'.flatMap RObj.ch ++ ((G.hr.id, some (G.hr.hd q)) :: (G.hr.rowk, some G.hr.row) :: (A'.flatMap RReg.ch ++ (B'.flatMap RReg.ch ++ ((G.id, some (.cells [ptrN G.hp.id, ptrN G.hr.id, rowV G.wk G.ws.length] none)) :: (G.wk, rowO 2 G.ws.length (G.ws.flatMap encW)) :: (poolC p r u ++ (poolC q t u ++ (PHeap.ch p { G.hp with regs := A ++ { g with objs := X ++ y.write n x.v :: Y } :: B } ++ F)))))))))) h5 rin5 h.rne h.rlen h.rol' hL ⟨hv1, hv2⟩ k1 k3 k4 (by rw [← k5]; exact k16) (fun s1 h => (Holds.of (h) (fun k => by simp +arith only [k9, k14, HA, HB]) (fun k x => by simp only [k9, k14, HA, HC]; grind only))) fun s3 h6 => ?_)
    simp -implicitDefEqProofs only [↓GP, GB, GL, Nat.reduceAdd, Nat.reduceSub, Nat.reduceEqDiff, Nat.reduceMul, Nat.reduceLeDiff, Int.reduceBNe, Int.reduceBEq, Nat.reduceLT, reduceCtorEq, Int.reduceBEq]
    refine k _ u { G with hp := { G.hp with regs := A ++ { g with objs := X ++ y.write n x.v :: Y } :: B }, hr := { G.hr with regs := A' ++ { g' with objs := X' ++ y'.write n x.v :: Y' } :: B' } } ⟨rfl, rfl, rfl, h.write k8 k9 k10 k11 k12 k13 k14 k15 n x.v ⟨hv1, hv2⟩, rfl, by simp, by simp⟩ ?_
    exact (Holds.of (h6) (fun k => by simp +arith only [RObj.write, RReg.obO, RHeap.hd, RHeap.rv, RHeap.row, RReg.enc, RObj.enc, k9, k14, List.length_append, List.length_cons, List.flatMap_append, List.flatMap_cons, List.length_set, HA, HB]) (fun k x => by simp only [RObj.write, RReg.obO, RHeap.hd, RHeap.rv, RHeap.row, RReg.enc, RObj.enc, k9, k14, List.length_append, List.length_cons, List.flatMap_append, List.flatMap_cons, List.length_set, HA, HC]; grind only))
theorem PairOk.get (h : PairOk u others G) (p q : Nat) (o : Nat → Option O) (N L i : Int) :
    ∃ (w : Int × Int) (err : Int), ∀ D : Ch, In D p G.hp → RIn D q G.hr → (∀ s, Holds o s D → ∀ Q, (∀ s', Holds o s' D → Q (.tuple [.agg [I w.1, I w.2], I err]) s') → WP (call PF 67 [ptrN G.hp.id, .agg [I N, I L], I i] s) Q) ∧
      (∀ s, Holds o s D → ∀ Q, (∀ s', Holds o s' D → Q (.tuple [.agg [I w.1, I w.2], I err]) s') → WP (call PF 68 [ptrN G.hr.id, .agg [I N, I L], I i] s) Q) := by
  by_cases hL : 1 ≤ L
  · rcases h.find (N := N) hL with ⟨h1, h2⟩ | ⟨a, b, A, g, B, A', g', B', X, x, Y, X', x', Y', k1, k2, k3, k4, k5, k6, k7, k8⟩
    · exact ⟨(0, 0), 80, fun D hin rin => ⟨fun s hs Q q => s67_err hs (.inl (.inr ⟨G.hp, p, rfl, hin, h.pne, h.plen, h.pok, .inr ⟨rfl, by omega, rfl, h2⟩⟩)) q, fun s hs Q q' => s68_err hs (.inl (.inr ⟨G.hr, q, rfl, rin, h.rne, h.rlen, h.rol', .inr ⟨rfl, by omega, h1⟩⟩)) q'⟩⟩
    · have hws := (h.inv.reg g.m (List.mem_map.2 ⟨g, k6, rfl⟩)).ws x.b (List.mem_map.2 ⟨x, k7, rfl⟩)
      by_cases hi : 0 ≤ i ∧ i < x.b.ws.length
      · obtain ⟨n, hn⟩ : ∃ n : Nat, i = n := ⟨i.toNat, by omega⟩
        subst hn
        have hlt : n < x.b.ws.length := by omega
        refine ⟨x.b.ws[n], 0, fun D hin rin => ⟨fun s hs Q q => s67 (w := x.b.ws[n]) hs hin h.pne h.plen h.pok (by omega) k2 (by simp [hlt]) hws.2.1 q, fun s hs Q q' => s68 (w := x.b.ws[n]) hs rin h.rne h.rlen h.rol' (by omega) k1 k3 k4 (by rw [← k5]; simp [hlt]) q'⟩⟩
      · exact ⟨(0, 0), 2, fun D hin rin => ⟨fun s hs Q q => s67_err hs (.inr ⟨rfl, rfl, by omega, G.hp, p, x, rfl, hin, h.pne, h.plen, h.pok, k2, hws.2.1, List.length_pos_iff.1 (by omega), hi⟩) q,
          fun s hs Q q' => s68_err hs (.inr ⟨rfl, by omega, G.hr, q, a, b, g', x', rfl, rin, h.rne, h.rlen, h.rol', k1, k3, k4, by rw [← k5]; exact hi⟩) q'⟩⟩
  · exact ⟨(0, 0), 2, fun D hin rin => ⟨fun s hs Q q => s67_err hs (.inl (.inr ⟨G.hp, p, rfl, hin, h.pne, h.plen, h.pok, .inl ⟨rfl, fun k => hL (by omega)⟩⟩)) q, fun s hs Q q' => s68_err hs (.inl (.inr ⟨G.hr, q, rfl, rin, h.rne, h.rlen, h.rol', .inl ⟨rfl, by omega⟩⟩)) q'⟩⟩
theorem PairOk.head (h : PairOk u others G) (p q : Nat) (o : Nat → Option O) (N L : Int) :
    ∃ kd n err : Int, ∀ D : Ch, In D p G.hp → RIn D q G.hr → (∀ s, Holds o s D → ∀ Q, (∀ s', Holds o s' D → Q (.tuple [I kd, I n, I err]) s') → WP (call PF 30 [ptrN G.hp.id, .agg [I N, I L]] s) Q) ∧
      (∀ s, Holds o s D → ∀ Q, (∀ s', Holds o s' D → Q (.tuple [I kd, I n, I err]) s') → WP (call PF 69 [ptrN G.hr.id, .agg [I N, I L]] s) Q) := by
  by_cases hL : 1 ≤ L
  · rcases h.find (N := N) hL with ⟨h1, h2⟩ | ⟨a, b, A, g, B, A', g', B', X, x, Y, X', x', Y', k1, k2, k3, k4, k5, k6, k7, k8⟩
    · exact ⟨0, 0, 80, fun D hin rin => ⟨fun s hs Q q => s30_err hs (.inr ⟨G.hp, p, rfl, hin, h.pne, h.plen, h.pok, .inr ⟨rfl, by omega, rfl, h2⟩⟩) q, fun s hs Q q' => s69_err hs (.inr ⟨G.hr, q, rfl, rin, h.rne, h.rlen, h.rol', .inr ⟨rfl, by omega, h1⟩⟩) q'⟩⟩
    · refine ⟨x.b.kind, x.b.ws.length, 0, fun D hin rin => ⟨fun s hs Q q => s30 hs hin h.pne h.plen h.pok (by omega) k2 q, fun s hs Q q' => s69 hs rin h.rne h.rlen h.rol' (by omega) k1 k3 k4 ?_⟩⟩
      rw [← k5]; exact q'
  · exact ⟨0, 0, 2, fun D hin rin => ⟨fun s hs Q q => s30_err hs (.inr ⟨G.hp, p, rfl, hin, h.pne, h.plen, h.pok, .inl ⟨rfl, fun k => hL (by omega)⟩⟩) q, fun s hs Q q' => s69_err hs (.inr ⟨G.hr, q, rfl, rin, h.rne, h.rlen, h.rol', .inl ⟨rfl, by omega⟩⟩) q'⟩⟩
theorem beq_refl_int (a : Int) : (a == a) = true := by simp
theorem do_get (x : ActG) (hd : intI .rem .u8 x.d 8 = some (.int .u8 5)) (h : PairOk u others G) (H : Holds o s (World p r q t u G F))
    (k : ∀ s', Holds o s' (World p r q t u G F) → Q (.bool true) s') : WP (call PF 26 [ptrN G.id, .agg x.cells] s) Q := by
  have h1 := H.alloc (.cells x.cells none)
  have hin := World.in_ (p := p) (r := r) (q := q) (t := t) (u := u) (G := G) (F := F)
  have rin := World.rin (p := p) (r := r) (q := q) (t := t) (u := u) (G := G) (F := F)
  rw [call_run F26]; simp -implicitDefEqProofs only [↓GP, GB, GL, Nat.reduceAdd, Nat.reduceSub, Nat.reduceEqDiff, Nat.reduceMul, Nat.reduceLeDiff, Int.reduceBNe, Int.reduceBEq, Nat.reduceLT, reduceCtorEq, c26, hd, Int.reduceBEq]
  refine wp_in (s64 h1 (List.mem_cons_of_mem _ World.id) (List.mem_cons_of_mem _ World.wk) x fun s1 h2 => ?_)
  generalize wordG G.ws x = w
  have f2 := h2.f1
  have fG := h2.tl.mem World.id
  simp only [PairG.hd] at fG
  have h3 := ((h2.alloc (.cells [I 0, I 0] none)).set0 (.cells [I w.1, I w.2] none)).alloc (.cells [I 0, I 0] none)
  simp only [set_next, alloc_next] at h3
  simp -implicitDefEqProofs only [↓GP, GB, GL, Nat.reduceAdd, Nat.reduceSub, Nat.reduceEqDiff, Nat.reduceMul, Nat.reduceLeDiff, Int.reduceBNe, Int.reduceBEq, Nat.reduceLT, reduceCtorEq, f2, fG, encW]
  generalize ((s1.alloc (.cells [I 0, I 0] none)).set s1.next (.cells [I w.1, I w.2] none)).alloc (.cells [I 0, I 0] none) = S at h3 ⊢
  obtain ⟨v, err, hget⟩ := h.get p q o w.1 w.2 x.a
  obtain ⟨kd, n, err2, hhead⟩ := h.head p q o w.1 w.2
  refine wp_in ((hget _ (((hin.cons (s.next, some (.cells x.cells none))).cons (s1.next, some (.cells [I w.1, I w.2] none))).cons (s1.next + 1, some (.cells [I 0, I 0] none))) (((rin.cons (s.next, some (.cells x.cells none))).cons (s1.next, some (.cells [I w.1, I w.2] none))).cons (s1.next + 1, some (.cells [I 0, I 0] none)))).1 S h3 _ fun s2 h4 => ?_)
  have f4 := h4.f3
  have fG4 := h4.tl.tl.tl.mem World.id
  simp only [PairG.hd] at fG4
  have ne4 := h4.ne (b := G.id) (Holds.ids_mem.2 ⟨_, List.mem_cons_of_mem _ (List.mem_cons_of_mem _ World.id)⟩)
  simp -implicitDefEqProofs only [↓GP, GB, GL, Nat.reduceAdd, Nat.reduceSub, Nat.reduceEqDiff, Nat.reduceMul, Nat.reduceLeDiff, Int.reduceBNe, Int.reduceBEq, Nat.reduceLT, reduceCtorEq, f4, fG4, ne4]
  have h5 := (h4.set0 (.cells [I v.1, I v.2] none)).alloc (.cells [I 0, I 0] none)
  simp only [set_next, alloc_next] at h5
  generalize (s2.set (s1.next + 1) (.cells [I v.1, I v.2] none)).alloc (.cells [I 0, I 0] none) = S2 at h5 ⊢
  have hin5 := (((hin.cons (s.next, some (.cells x.cells none))).cons (s1.next, some (.cells [I w.1, I w.2] none))).cons (s1.next + 1, some (.cells [I v.1, I v.2] none)))
  have rin5 := (((rin.cons (s.next, some (.cells x.cells none))).cons (s1.next, some (.cells [I w.1, I w.2] none))).cons (s1.next + 1, some (.cells [I v.1, I v.2] none)))
  refine wp_in ((hget _ (hin5.cons (s2.next, some (.cells [I 0, I 0] none))) (rin5.cons (s2.next, some (.cells [I 0, I 0] none)))).2 S2 h5 _ fun s3 h6 => ?_)
  have f6 := h6.f3
  have fG6 := h6.tl.tl.tl.tl.mem World.id
  simp only [PairG.hd] at fG6
  have ne6 := h6.ne (b := G.id) (Holds.ids_mem.2 ⟨_, List.mem_cons_of_mem _ (List.mem_cons_of_mem _ (List.mem_cons_of_mem _ World.id))⟩)
  simp -implicitDefEqProofs only [↓GP, GB, GL, Nat.reduceAdd, Nat.reduceSub, Nat.reduceEqDiff, Nat.reduceMul, Nat.reduceLeDiff, Int.reduceBNe, Int.reduceBEq, Nat.reduceLT, reduceCtorEq, f6, fG6, ne6]
  have h7 := h6.set0 (.cells [I v.1, I v.2] none)
  have hin7 := hin5.cons (s2.next, some (.cells [I v.1, I v.2] none))
  have rin7 := rin5.cons (s2.next, some (.cells [I v.1, I v.2] none))
  refine wp_in ((hhead _ hin7 rin7).1 _ h7 _ fun s4 h8 => ?_)
  have f8 := h8.f3
  have fG8 := h8.tl.tl.tl.tl.mem World.id
  simp only [PairG.hd] at fG8
  simp -implicitDefEqProofs only [↓GP, GB, GL, Nat.reduceAdd, Nat.reduceSub, Nat.reduceEqDiff, Nat.reduceMul, Nat.reduceLeDiff, Int.reduceBNe, Int.reduceBEq, Nat.reduceLT, reduceCtorEq, f8, fG8]
  refine wp_in ((hhead _ hin7 rin7).2 _ h8 _ fun s5 h9 => ?_)
  have f9 := h9.f2
  simp -implicitDefEqProofs only [↓GP, GB, GL, Nat.reduceAdd, Nat.reduceSub, Nat.reduceEqDiff, Nat.reduceMul, Nat.reduceLeDiff, Int.reduceBNe, Int.reduceBEq, Nat.reduceLT, reduceCtorEq, f9, words_eq, beq_refl_int]
  exact k _ h9.tl.tl.tl.tl
end
end Go.Proofs.Ytoldkemimhebaaa

set_option linter.unusedSimpArgs false
set_option linter.unusedVariables false
namespace Go.Proofs.Ytoldkemimhebaaa
open Go Go.IM
def l70_0 : IC := (.seq (.seq (.seq (.region [oa 23 (.mov (.t 8)), oa 24 (.mov (.t 5)), oa 25 (.lenSlice (.t 24)), oa 26 (.bin .lss (.t 23) (.t 25))] (kp 99 [0,3,5,7,8,26]))
  (.cond (.t 26)
  (sk 99 [0,3,5,7,8])
  (sx 99 [0,3,7] 0)))
  (.seq (.block 1
  (.seq (.region [oa 29 (.mov (.t 8)), oa 30 (.fieldAddr 10 (.t 3)), oa 31 (.load none (.t 30)), oa 32 (.lenSlice (.t 31)), oa 33 (.bin .lss (.t 29) (.t 32)), oa 34 (.mov (.t 33)), oc 35 (.fieldAddr 10 (.t 3)) 34 tt, oc 36 (.load none (.t 35)) 34 tt, oc 37 (.mov (.t 8)) 34 tt, oc 38 (.indexAddr 1 (.t 36) (.t 37)) 34 tt, oc 39 (.load none (.t 38)) 34 tt, oa 40 (.pick (.t 34) (.t 39) (.c (.bool false)))] (kp 99 [0,3,5,7,8,40]))
  (.cond (.t 40)
  (.region [oa 41 (.mov (.t 7)), oa 42 (.mov (.t 5)), oa 43 (.mov (.t 8)), oa 44 (.indexAddr 2 (.t 42) (.t 43)), oa 45 (.load (some 2) (.t 44)), oa 46 (.buildSlice 1 [(.int .i64 (0)), (.int .i64 (0))] [(0, 2, (.t 45))]), oa 47 (.append 2 16 (.t 41) (.t 46)), oa 7 (.mov (.t 47))] (kp 99 [0,3,5,7,8]))
  (sk 99 [0,3,5,7,8]))))
  (.region [oa 27 (.mov (.t 8)), oa 28 (.bin .add (.t 27) (ai 1)), oa 8 (.mov (.t 28))] (kp 99 [0,3,5,7,8]))))
  (sk 99 [0,3,5,7,8]))
def j70_bbbbb : IC := (.seq (.region [oa 59 (.mov (.t 0)), oa 60 (.nilCheck (.t 59)), oa 61 (.fieldAddr 0 (.t 60)), oa 62 (.load none (.t 61)), oa 63 (.fieldAddr 2 (.t 3)), oa 64 (.load none (.t 63)), oa 65 (.mov (.t 7)), oa 66 (.call 109 [(.t 62), (.t 64), (.t 65)]), oa 58 (.mov (.t 66)), oa 67 (.extract (.t 58) 0), oa 68 (.extract (.t 58) 1), oa 9 (.mov (.t 67)), oa 10 (.mov (.t 68))] (kp 99 [0,3,7,9,10]))
  (.seq (.region [oa 70 (.mov (.t 0)), oa 71 (.nilCheck (.t 70)), oa 72 (.fieldAddr 1 (.t 71)), oa 73 (.load none (.t 72)), oa 74 (.fieldAddr 2 (.t 3)), oa 75 (.load none (.t 74)), oa 76 (.mov (.t 7)), oa 77 (.call 97 [(.t 73), (.t 75), (.t 76)]), oa 69 (.mov (.t 77)), oa 78 (.extract (.t 69) 0), oa 79 (.extract (.t 69) 1), oa 11 (.mov (.t 78)), oa 12 (.mov (.t 79))] (kp 99 [0,9,10,11,12]))
  (.seq (.seq (.region [oa 80 (.mov (.t 12)), oa 81 (.bin .eql (.t 80) (ai 0))] (kp 99 [0,9,10,11,12,81]))
  (.cond (.t 81)
  (.region [oa 82 (.mov (.t 0)), oa 83 (.mov (.t 0)), oa 84 (.nilCheck (.t 83)), oa 85 (.fieldAddr 2 (.t 84)), oa 86 (.load none (.t 85)), oa 87 (.mov (.t 11)), oa 88 (.append 2 16 (.t 86) (.t 87)), oa 89 (.nilCheck (.t 82)), oa 90 (.fieldAddr 2 (.t 89)), ob (.store 1 (.t 90) (.t 88))] (kp 99 [9,10,11,12]))
  (sk 99 [9,10,11,12])))
  (.seq (.region [oa 91 (.mov (.t 10)), oa 92 (.mov (.t 12)), oa 93 (.bin .eql (.t 91) (.t 92)), oa 94 (.mov (.t 93)), oc 95 (.mov (.t 9)) 94 tt, oc 96 (.mov (.t 11)) 94 tt, oc 97 (.call 48 [(.t 95), (.t 96)]) 94 tt, oa 98 (.pick (.t 94) (.t 97) (.c (.bool false))), oa 4 (.mov (.t 98))] (kp 99 [4]))
  (sr 99 [4])))))
def j70_bbbb : IC := (.seq (.seq (.region [oa 48 (.fieldAddr 3 (.t 3)), oa 49 (.load none (.t 48)), oa 50 (.bin .rem (.t 49) (ai 5)), oa 51 (.bin .eql (.t 50) (ai 4))] (kp 99 [0,3,7,51]))
  (.cond (.t 51)
  (.region [oa 52 (.mov (.t 7)), oa 53 (.mov (.t 0)), oa 54 (.load (some 11) (.t 3)), oa 55 (.call 64 [(.t 53), (.t 54)]), oa 56 (.buildSlice 1 [(.int .i64 (0)), (.int .i64 (0))] [(0, 2, (.t 55))]), oa 57 (.append 2 16 (.t 52) (.t 56)), oa 7 (.mov (.t 57))] (kp 99 [0,3,7]))
  (sk 99 [0,3,7])))
  j70_bbbbb)
def c70 : IFn := ⟨99, [(4, none)],
  (.seq (.region [oa 3 (.box (.t 1)), oa 4 (.mov (.c (.bool false)))] (kp 99 [0,3]))
  (.seq (.region [oa 14 (.mov (.t 0)), oa 15 (.nilCheck (.t 14)), oa 16 (.fieldAddr 1 (.t 15)), oa 17 (.load none (.t 16)), oa 18 (.fieldAddr 2 (.t 3)), oa 19 (.load none (.t 18)), oa 20 (.call 81 [(.t 17), (.t 19)]), oa 13 (.mov (.t 20)), oa 21 (.extract (.t 13) 0), oa 22 (.extract (.t 13) 1), oa 5 (.mov (.t 21)), oa 6 (.mov (.t 22))] (kp 99 [0,3,5]))
  (.seq (.region [oa 7 (.mov (.c (.slice none 0 (some 0))))] (kp 99 [0,3,5,7]))
  (.seq (.seq (.region [oa 8 (.mov (ai 0))] (kp 99 [0,3,5,7,8]))
  (.block 0
  (.seq (sk 99 [0,3,5,7,8])
  (.loop l70_0))))
  j70_bbbb))))⟩
theorem F70 : shutF Try.prog 70 = some c70 := by kernel_rfl
section
variable {o : Nat → Option O} {s : St} {C F : Ch} {Q : V → St → Prop} {p r q t : Nat} {u : List Bool} {others : List Nat} {G : PairG}
set_option maxRecDepth 10000
set_option maxHeartbeats 4000000
theorem relay_map : ∀ (xs : List PObj) (ats : List Nat), ats.length = xs.length → (relay xs ats).map (fun x => (x.b.at_, x.b.ws.length + 1)) = ats.zip (xs.map fun x => x.b.ws.length + 1)
  | [], [], _ => rfl
  | [], _ :: _, h => by simp at h
  | _ :: _, [], h => by simp at h
  | x :: xs, a :: ats, h => by simp only [relay, List.zipWith_cons_cons, List.map_cons, List.zip_cons_cons]; rw [show (x.at a).b.at_ = a from rfl, show (x.at a).b.ws = x.b.ws from rfl]; congr 1; exact relay_map xs ats (by simpa using h)
theorem relay_enc (life : Nat) : ∀ (xs : List PObj) (ats : List Nat), ats.length = xs.length → (relay xs ats).flatMap (encP life) = (ats.map fun a : Nat => ((a : Int), (life : Int))).flatMap encW
  | [], [], _ => rfl
  | [], _ :: _, h => by simp at h
  | _ :: _, [], h => by simp at h
  | x :: xs, a :: ats, h => by
    have ih := relay_enc life xs ats (by simpa using h)
    simp only [relay, List.zipWith_cons_cons, List.flatMap_cons, List.map_cons] at ih ⊢
    rw [ih]; rfl
theorem rrelay_enc (life : Nat) : ∀ (xs : List RObj) (ats : List Nat), ats.length = xs.length → (rrelay xs ats).flatMap (rencP life) = (ats.map fun a : Nat => ((a : Int), (life : Int))).flatMap encW
  | [], [], _ => rfl
  | [], _ :: _, h => by simp at h
  | _ :: _, [], h => by simp at h
  | x :: xs, a :: ats, h => by
    have ih := rrelay_enc life xs ats (by simpa using h)
    simp only [rrelay, List.zipWith_cons_cons, List.flatMap_cons, List.map_cons] at ih ⊢
    rw [ih]; rfl
theorem relay_same : ∀ (xs : List PObj) (xs' : List RObj) (ats : List Nat), xs.map (·.b) = xs'.map (·.b) → (relay xs ats).map (·.b) = (rrelay xs' ats).map (·.b)
  | [], [], _, _ => rfl
  | [], _ :: _, _, h => by simp at h
  | _ :: _, [], _, h => by simp at h
  | x :: xs, y :: ys, [], h => rfl
  | x :: xs, y :: ys, a :: ats, h => by
    simp only [List.map_cons, List.cons.injEq] at h
    have ih := relay_same xs ys ats h.2
    simp only [relay, rrelay, List.zipWith_cons_cons, List.map_cons] at ih ⊢
    rw [ih]
    congr 1
    show ({ x.b with at_ := a } : Obj) = { y.b with at_ := a }
    rw [h.1]
theorem relay_ws : ∀ (xs : List PObj) (ats : List Nat), ∀ z ∈ relay xs ats, ∃ y ∈ xs, z.b.ws = y.b.ws ∧ z.b.kind = y.b.kind
  | [], _, z, h => by simp [relay] at h
  | x :: xs, [], z, h => by simp [relay] at h
  | x :: xs, a :: ats, z, h => by
    simp only [relay, List.zipWith_cons_cons, List.mem_cons] at h
    rcases h with rfl | h
    · exact ⟨x, List.mem_cons_self .., rfl, rfl⟩
    · obtain ⟨y, hy, e⟩ := relay_ws xs ats z h
      exact ⟨y, List.mem_cons_of_mem _ hy, e⟩
theorem PairOk.turn (h : PairOk u others G) {A B : List PReg} {A' B' : List RReg} {g : PReg} {g' : RReg} (e1 : G.hp.regs = A ++ g :: B) (e2 : G.hr.regs = A' ++ g' :: B') (hA : A.map PReg.m = A'.map RReg.m) (hB : B.map PReg.m = B'.map RReg.m) (hm : g.m = g'.m) (hs : g.size = 0)
    {xs : List PObj} {xs' : List RObj} (hx : xs.Sublist g.objs) (hb : xs.map (·.b) = xs'.map (·.b)) :
    ∃ ats u' fill' pages', layM 0 g.life (xs.map fun x => x.b.ws.length + 1) (freeP u g.pages) 0 [] = some (ats, u', fill', pages') ∧ ats.Nodup ∧ pages'.length ≤ 30 ∧ ats.length = xs.length ∧ u'.length = u.length ∧
      ∀ pgk obk plk pl pgk' obk', PReg.ok { g with pgk := pgk, obk := obk, plk := plk, pl := pl, fill := fill', pages := pages', objs := relay xs ats } → (pages'.length = 0 → pgk' = 0) →
        PairOk u' others { G with hp := { G.hp with regs := A ++ { g with pgk := pgk, obk := obk, plk := plk, pl := pl, fill := fill', pages := pages', objs := relay xs ats } :: B }, hr := { G.hr with regs := A' ++ { g' with pgk := pgk', obk := obk', fill := fill', pages := pages', objs := rrelay xs' ats } :: B' } } := by
  have mg : g.m ∈ G.hp.regs.map PReg.m := by rw [e1]; simp
  have hi := h.inv.reg g.m mg
  have hpk := hi.inf hs
  have hp1 := h.pool1 e1
  have hfr := hp1.free
  have hf := hpk.fold
  have hsub : (xs.map fun x => x.b.ws.length + 1).Sublist ((g.m.objs.map fun x => (x.at_, x.ws.length + 1)).map (·.2)) := by
    simp only [PReg.m, List.map_map]
    exact hx.map _
  have hle := fold_sub hsub (Le2.refl (0, 0))
  rw [hf] at hle
  have hcnt : g.pages.length ≤ (freeP u g.pages).count false := by
    have c1 := hfr.count
    have c2 := count_both (freeP u g.pages)
    have c3 := hp1.len
    rw [freeP_len] at c2
    rw [List.length_append] at c3
    omega
  obtain ⟨⟨ats, u', fill', pages'⟩, hlay, hlen⟩ := layM_some (life := g.life) (xs.map fun x => x.b.ws.length + 1) (freeP u g.pages) 0 [] (by
    have : ((xs.map fun x => x.b.ws.length + 1).foldl step (0, 0)).1 ≤ g.pages.length := by unfold Le2 at hle; simp only [PReg.m] at hle; omega
    simp only [List.length_nil]; omega)
  have hp2 : PoolInv (freeP u g.pages) ([] ++ ((A.map PReg.m).flatMap (·.pages) ++ ((B.map PReg.m).flatMap (·.pages) ++ others))) := hfr
  obtain ⟨k1, k2⟩ := lay_packed Packed.nil hp2 hlay
  rw [List.nil_append] at k1
  have hal : ats.length = xs.length := by have := layM_len hlay; simpa using this
  have hul : u'.length = u.length := by have := (layM_pages hlay).2; simp only at this; rw [this, freeP_len]
  have hws : ∀ z ∈ relay xs ats, 1 ≤ z.b.ws.length ∧ z.b.ws.length ≤ 31 ∧ z.b.kind < 256 := by
    intro z hz
    obtain ⟨y, hy, w1, w2⟩ := relay_ws xs ats z hz
    have := hi.ws y.b (List.mem_map.2 ⟨y, hx.subset hy, rfl⟩)
    rw [w1, w2]; exact this
  have hnd : ats.Nodup := by
    have := k1.nodup (fun x hx' => by
      obtain ⟨a, b⟩ := x
      have := (List.of_mem_zip hx').2
      obtain ⟨y, hy, rfl⟩ := List.mem_map.1 this
      have := hi.ws y.b (List.mem_map.2 ⟨y, hx.subset hy, rfl⟩)
      simp only; omega)
    rwa [List.map_fst_zip (by simp; omega)] at this
  refine ⟨ats, u', fill', pages', hlay, hnd, ?_, hal, hul, fun pgk obk plk pl pgk' obk' okp hz => ?_⟩
  · have : pages'.length ≤ u'.length := k2.sub_len (List.sublist_append_left pages' _)
    have := h.ulen
    omega
  · have hsz : g.size = g'.size := congrArg Reg.size hm
    have hlf : g.life = g'.life := congrArg Reg.life hm
    refine h.upd (u' := u') e1 e2 hA hB ?_ rfl ?_ okp hz hul k2
    · simp only [PReg.m, RReg.m, hsz, hlf, relay_same xs xs' ats hb]
    · refine ⟨hi.size, fun z hz => ?_, fun h0 => ?_, fun _ => ?_, fun z hz => ?_⟩
      · obtain ⟨y, hy, rfl⟩ := List.mem_map.1 hz
        exact hws y hy
      · simp only [PReg.m] at h0; omega
      · have : ((relay xs ats).map (·.b)).map (fun x => (x.at_, x.ws.length + 1)) = ats.zip (xs.map fun x => x.b.ws.length + 1) := by
          rw [List.map_map]; exact relay_map xs ats hal
        simp only [PReg.m]
        rw [this]
        exact k1
      · obtain ⟨y, hy, rfl⟩ := List.mem_map.1 hz
        obtain ⟨y', hy', w1, w2⟩ := relay_ws xs ats y hy
        rw [w1]; exact hi.wl y'.b (List.mem_map.2 ⟨y', hx.subset hy', rfl⟩)
def SomeAt (o : Nat → Option O) (x : ActG) (bs : List Bool) : Prop := x.sn = bs.length ∧ ∀ (i : Nat) (h : i < bs.length), ∃ ad, ixV 1 (.slice x.sa x.sn x.sc) (.int .i64 (i : Int)) = some (.ptr (some ad)) ∧ ∀ s : St, s.old = o → loadV none (.ptr (some ad)) s = some (.bool bs[i])
def keepL : List (Int × Int) → List Bool → List (Int × Int)
  | w :: l, b :: bs => if b then w :: keepL l bs else keepL l bs
  | _, _ => []
theorem keepL_len : ∀ (l : List (Int × Int)) (bs : List Bool), (keepL l bs).length ≤ l.length
  | [], _ => by simp [keepL]
  | w :: l, [] => by simp [keepL]
  | w :: l, b :: bs => by
    have := keepL_len l bs
    cases b <;> simp [keepL] <;> omega
theorem keep_loop {id bx : Nat} {lv : V} {l : List (Int × Int)} {x : ActG} {bs : List Bool} {K : Kt} (hS : SomeAt o x bs) (mb : (bx, some (.cells x.cells none)) ∈ C) (hv : SlAt C lv l.length (l.flatMap encW)) (hl : l.length ≤ 10000) :
    ∀ (m i k : Nat) (acc : List (Int × Int)) (s : St), i + m = l.length → acc.length ≤ i → Holds o s ((k, rowO 2 acc.length (acc.flatMap encW)) :: C) →
    (∀ s' k', Holds o s' ((k', rowO 2 (acc ++ keepL (l.drop i) (bs.drop i)).length ((acc ++ keepL (l.drop i) (bs.drop i)).flatMap encW)) :: C) → WP (K (.exit 0) (sp 99 [(0, ptrN id), (3, ptrN bx), (7, rowV k' (acc ++ keepL (l.drop i) (bs.drop i)).length)]) s') Q) →
    WP (loop PF (.loop l70_0) (sp 99 [(0, ptrN id), (3, ptrN bx), (5, lv), (7, rowV k acc.length), (8, I i)]) s K) Q
  | 0, i, k, acc, s, hi, hacc, H, q => by
    have hlt : ¬ ((i : Int) < (l.length : Int)) := by omega
    refine wp_round fun LL hLL => ?_
    simp -implicitDefEqProofs only [↓GP, GB, GL, Nat.reduceAdd, Nat.reduceSub, Nat.reduceEqDiff, Nat.reduceMul, Nat.reduceLeDiff, Int.reduceBNe, Int.reduceBEq, Nat.reduceLT, reduceCtorEq, l70_0, hv.len, hlt]
    rw [List.drop_eq_nil_of_le (show l.length ≤ i by omega)] at q
    simp only [keepL, List.append_nil] at q
    exact q s k H
  | m + 1, i, k, acc, s, hi, hacc, H, q => by
    have hlt : ((i : Int) < (l.length : Int)) := by omega
    have hi' : i < l.length := by omega
    have hd : l.drop i = l[i] :: l.drop (i + 1) := List.drop_eq_getElem_cons hi'
    have fb := H.mem (List.mem_cons_of_mem _ mb)
    obtain ⟨k0, g0, e1, e2⟩ := (hv.mono (D := (k, rowO 2 acc.length (acc.flatMap encW)) :: C) fun x hx => List.mem_cons_of_mem _ hx).get H hi' 2
    have hld := ldN_tab encW_len l g0 (show l[i]? = some l[i] by simp [hi'])
    have hw := wrap_add1 (a := i) (by omega)
    obtain ⟨hsn, hS'⟩ := hS
    refine wp_round fun LL hLL => ?_
    by_cases hib : i < bs.length
    · obtain ⟨ad, a1, a2⟩ := hS' i hib
      have a3 := a2 s H.old
      have hlt2 : ((i : Int) < (x.sn : Int)) := by omega
      have hdb : bs.drop i = bs[i] :: bs.drop (i + 1) := List.drop_eq_getElem_cons hib
      rw [hd, hdb] at q
      cases hbi : bs[i] with
      | true =>
        rw [hbi] at q a3
        simp only [keepL, if_true] at q
        simp -implicitDefEqProofs only [↓GP, GB, GL, Nat.reduceAdd, Nat.reduceSub, Nat.reduceEqDiff, Nat.reduceMul, Nat.reduceLeDiff, Int.reduceBNe, Int.reduceBEq, Nat.reduceLT, reduceCtorEq, l70_0, hv.len, hlt, fb, hlt2, a1, a3, e1, e2, hld, encW]
        refine wp_append (cs := acc.flatMap encW) ((H.alloc _).r1) (by rw [tab_len encW_len]) (new_cells' (alloc_new_same _ _) rfl) rfl rfl (by omega) (by unfold maxRow; omega) (by unfold maxRow; omega) fun k' s1 h1 => ?_
        simp -implicitDefEqProofs only [↓GP, GB, GL, Nat.reduceAdd, Nat.reduceSub, Nat.reduceEqDiff, Nat.reduceMul, Nat.reduceLeDiff, Int.reduceBNe, Int.reduceBEq, Nat.reduceLT, reduceCtorEq, hw]
        rw [hLL]
        have hl1 : (acc ++ [l[i]]).length = acc.length + 1 := by simp
        have := keep_loop (K := K) (id := id) ⟨hsn, hS'⟩ mb hv hl m (i + 1) k' (acc ++ [l[i]]) s1 (by omega) (by simp; omega) (by
          have h2 := h1.r1.tl
          rw [List.flatMap_append]; simpa [encW] using h2) (fun s' k'' h' => by
            have := q s' k'' (by simpa using h')
            simpa using this)
        rw [hl1] at this
        exact this
      | false =>
        rw [hbi] at q a3
        simp only [keepL, Bool.false_eq_true, if_false] at q
        simp -implicitDefEqProofs only [↓GP, GB, GL, Nat.reduceAdd, Nat.reduceSub, Nat.reduceEqDiff, Nat.reduceMul, Nat.reduceLeDiff, Int.reduceBNe, Int.reduceBEq, Nat.reduceLT, reduceCtorEq, l70_0, hv.len, hlt, fb, hlt2, a1, a3, hw]
        rw [hLL]
        exact keep_loop ⟨hsn, hS'⟩ mb hv hl m (i + 1) k acc s (by omega) (by omega) H q
    · have hlt2 : ¬ ((i : Int) < (x.sn : Int)) := by omega
      rw [List.drop_eq_nil_of_le (show bs.length ≤ i by omega)] at q
      have e0 : ∀ l : List (Int × Int), keepL l [] = [] := fun l => by cases l <;> rfl
      rw [e0] at q
      simp -implicitDefEqProofs only [↓GP, GB, GL, Nat.reduceAdd, Nat.reduceSub, Nat.reduceEqDiff, Nat.reduceMul, Nat.reduceLeDiff, Int.reduceBNe, Int.reduceBEq, Nat.reduceLT, reduceCtorEq, l70_0, hv.len, hlt, fb, hlt2, hw]
      rw [hLL]
      refine keep_loop ⟨hsn, hS'⟩ mb hv hl m (i + 1) k acc s (by omega) (by omega) H ?_
      rw [List.drop_eq_nil_of_le (show bs.length ≤ i + 1 by omega), e0]
      exact q
theorem s70_tail {v51 : V} {bx kk : Nat} (x : ActG) {K : List (Int × Int)} (hK : K.length ≤ 1000) (h : PairOk u others G) (hwl : G.ws.length ≤ 1000000)
    (H : Holds o s ((kk, rowO 2 K.length (K.flatMap encW)) :: (bx, some (.cells x.cells none)) :: World p r q t u G F))
    (k : ∀ s' u' G', Next others u G u' G' → Holds o s' (World p r q t u' G' F) → Q (.bool true) s') :
    WP (go (loop PF) (call PF) j70_bbbbb (sp 99 [(0, ptrN G.id), (3, ptrN bx), (7, rowV kk K.length), (51, v51)]) s (finR [(4, none)])) Q := by
  have hin := ((World.in_ (p := p) (r := r) (q := q) (t := t) (u := u) (G := G) (F := F)).cons (bx, some (.cells x.cells none))).cons (kk, rowO 2 K.length (K.flatMap encW))
  have rin := ((World.rin (p := p) (r := r) (q := q) (t := t) (u := u) (G := G) (F := F)).cons (bx, some (.cells x.cells none))).cons (kk, rowO 2 K.length (K.flatMap encW))
  have mk : (kk, rowO 2 K.length (K.flatMap encW)) ∈ (kk, rowO 2 K.length (K.flatMap encW)) :: (bx, some (.cells x.cells none)) :: World p r q t u G F := List.mem_cons_self ..
  have hrl := h.len
  have hpl := h.plen
  have hu := h.ulen
  have fb := H.tl.f1
  have fG := H.tl.tl.mem World.id
  simp only [PairG.hd] at fG
  have nilW : SlAt ((kk, rowO 2 K.length (K.flatMap encW)) :: (bx, some (.cells x.cells none)) :: World p r q t u G F) (.slice none 0 (some 0)) ([] : List (Int × Int)).length (([] : List (Int × Int)).flatMap encW) := .inl ⟨rfl, _, _, rfl⟩
  have bad : ∀ err : Int, err = 2 →
      (∀ s2, Holds o s2 ((kk, rowO 2 K.length (K.flatMap encW)) :: (bx, some (.cells x.cells none)) :: World p r q t u G F) → ∀ Q', (∀ s', Holds o s' ((kk, rowO 2 K.length (K.flatMap encW)) :: (bx, some (.cells x.cells none)) :: World p r q t u G F) → Q' (.tuple [.slice none 0 (some 0), I err]) s') → WP (call PF 109 [ptrN G.hp.id, I x.a, rowV kk K.length] s2) Q') →
      (∀ s2, Holds o s2 ((kk, rowO 2 K.length (K.flatMap encW)) :: (bx, some (.cells x.cells none)) :: World p r q t u G F) → ∀ Q', (∀ s', Holds o s' ((kk, rowO 2 K.length (K.flatMap encW)) :: (bx, some (.cells x.cells none)) :: World p r q t u G F) → Q' (.tuple [.slice none 0 (some 0), I err]) s') → WP (call PF 97 [ptrN G.hr.id, I x.a, rowV kk K.length] s2) Q') →
      WP (go (loop PF) (call PF) j70_bbbbb (sp 99 [(0, ptrN G.id), (3, ptrN bx), (7, rowV kk K.length), (51, v51)]) s (finR [(4, none)])) Q := by
    intro err herr hP hR
    subst herr
    simp -implicitDefEqProofs only [↓GP, GB, GL, Nat.reduceAdd, Nat.reduceSub, Nat.reduceEqDiff, Nat.reduceMul, Nat.reduceLeDiff, Int.reduceBNe, Int.reduceBEq, Nat.reduceLT, reduceCtorEq, j70_bbbbb, fG, fb]
    refine wp_in (hP s H _ fun s1 h1 => ?_)
    have fb1 := h1.tl.f1
    have fG1 := h1.tl.tl.mem World.id
    simp only [PairG.hd] at fG1
    simp -implicitDefEqProofs only [↓GP, GB, GL, Nat.reduceAdd, Nat.reduceSub, Nat.reduceEqDiff, Nat.reduceMul, Nat.reduceLeDiff, Int.reduceBNe, Int.reduceBEq, Nat.reduceLT, reduceCtorEq, fG1, fb1]
    refine wp_in (hR s1 h1 _ fun s2 h2 => ?_)
    have e := s48 h2 nilW nilW (by simp)
    simp -implicitDefEqProofs only [↓GP, GB, GL, Nat.reduceAdd, Nat.reduceSub, Nat.reduceEqDiff, Nat.reduceMul, Nat.reduceLeDiff, Int.reduceBNe, Int.reduceBEq, Nat.reduceLT, reduceCtorEq, e, Int.reduceBEq]
    exact k _ u G h.nx h2.tl.tl
  by_cases hb : 0 ≤ x.a ∧ x.a < G.hp.regs.length
  · obtain ⟨n, hn⟩ : ∃ n : Nat, x.a = n := ⟨x.a.toNat, by omega⟩
    obtain ⟨A, g, B, A', g', B', e1, e2, l1, l2, hm, hA, hB⟩ := h.at_ (i := n) (by omega)
    have hg : G.hp.regs[n]? = some g := by rw [e1, ← l1]; simp
    have hg' : G.hr.regs[n]? = some g' := by rw [e2, ← l2]; simp
    have mg : g ∈ G.hp.regs := by rw [e1]; simp
    have mg' : g' ∈ G.hr.regs := by rw [e2]; simp
    have ok := h.okp mg
    have ok' := h.okr mg'
    have hop := h.pol mg
    have hop' := h.rol mg'
    have hsz : g.size = g'.size := congrArg Reg.size hm
    have hlf : g.life = g'.life := congrArg Reg.life hm
    have hri := h.inv.reg g.m (List.mem_map.2 ⟨g, mg, rfl⟩)
    have hnd : ((A' ++ g' :: B').map (·.life)).Nodup := by
      have := h.inv.nodup
      rw [h.same, e2, List.map_map] at this
      exact this
    have hlf1 := (h.inv.life g.m (List.mem_map.2 ⟨g, mg, rfl⟩)).1
    have hat : (g.objs.map (·.b.at_)).Nodup := by have := hri.nodup; simpa [PReg.m, List.map_map, Function.comp_def] using this
    have hps := pick_same hnd (by rw [← hlf]; exact hlf1) hm hat K 0
    rw [List.drop_zero, ← e2, l2] at hps
    by_cases hbd : 0 < g.size ∨ pickM g.life g.objs K = none
    · have hbd' : 0 < g'.size ∨ rpick G.hr.regs n 0 K = none := by
        refine hbd.imp (fun h => by omega) fun hn => ?_
        rw [hn] at hps
        cases hr : rpick G.hr.regs n 0 K with
        | none => rfl
        | some _ => rw [hr] at hps; exact hps.elim
      refine bad 2 rfl (fun s2 h2 Q' q' => ?_) (fun s2 h2 Q' q' => ?_)
      · rw [hn]; exact s109_bad h2 hin hpl hg (by omega) (by omega) mk hbd q'
      · rw [hn]; exact s97_bad h2 rin h.rlen h.rol' hg' (by omega) mk hbd' q'
    · have hs0 : g.size = 0 := by
        rcases Nat.eq_zero_or_pos g.size with h | h
        · exact h
        · exact absurd (.inl h) hbd
      obtain ⟨xs, hxs⟩ : ∃ xs, pickM g.life g.objs K = some xs := by
        cases hp : pickM g.life g.objs K with
        | none => exact absurd (.inr hp) hbd
        | some xs => exact ⟨xs, rfl⟩
      rw [hxs] at hps
      cases hrp : rpick G.hr.regs n 0 K with
      | none => rw [hrp] at hps; exact hps.elim
      | some xs' =>
        rw [hrp] at hps
        simp only at hps
        obtain ⟨hsub, hxl⟩ := pickM_sublist hxs
        obtain ⟨ats, u', fill', pages', hlay, hand, hpl', hal, hul, hok⟩ := h.turn e1 e2 hA hB hm hs0 hsub hps
        have hxl' : xs'.length = xs.length := by have := congrArg List.length hps; simpa using this.symm
        have hlay' : layM 0 g'.life (xs'.map fun x => x.b.ws.length + 1) (freeP u g'.pages) 0 [] = some (ats, u', fill', pages') := by
          rw [← hlay, hlf, show g.pages = g'.pages from congrArg Reg.pages hm]
          congr 1
          have a1 : xs.map (fun x => x.b.ws.length + 1) = (xs.map (·.b)).map (fun y => y.ws.length + 1) := by simp
          have a2 : xs'.map (fun x => x.b.ws.length + 1) = (xs'.map (·.b)).map (fun y => y.ws.length + 1) := by simp
          rw [a1, a2, hps]
        have h109 := fun Q' => s109 (o := o) (s := s) (Q := Q') (hp := G.hp) (p := p) (r := r) (wk := kk) (u := u) (A := A) (B := B) (g := g) (ws := K) (xs := xs) (ats := ats) (u' := u') (fill' := fill') (pages' := pages') (F := (kk, rowO 2 K.length (K.flatMap encW)) :: (bx, some (.cells x.cells none)) :: (poolC q t u ++ (G.pc ++ (G.hr.ch q ++ F)))) (Holds.of (H) (fun k => by simp +arith only [HA, HB]) (fun k x => by simp only [HA, HC]; grind only)) e1 hpl (by omega) ok.1 (by omega) (by omega) (List.mem_cons_self ..) hs0 hxs hlay hand (by omega)
        rw [l1] at h109
        simp -implicitDefEqProofs only [↓GP, GB, GL, Nat.reduceAdd, Nat.reduceSub, Nat.reduceEqDiff, Nat.reduceMul, Nat.reduceLeDiff, Int.reduceBNe, Int.reduceBEq, Nat.reduceLT, reduceCtorEq, j70_bbbbb, fG, fb]
        rw [hn]
        refine wp_in (h109 _ fun s1 pgk obk plk pl ck okp h1 => ?_)
        generalize hgd : ({ g with pgk := pgk, obk := obk, plk := plk, pl := pl, fill := fill', pages := pages', objs := relay xs ats } : PReg) = g1 at okp h1
        rw [relay_enc _ _ _ hal] at h1
        generalize hcw : (ats.map fun a : Nat => ((a : Int), (g.life : Int))) = cw at h1
        have hcl : cw.length = K.length := by rw [← hcw]; simp; omega
        have h2 : Holds o s1 ((bx, some (.cells x.cells none)) :: (G.id, some (.cells [ptrN G.hp.id, ptrN G.hr.id, rowV G.wk G.ws.length] none)) :: (ck, rowO 2 K.length (cw.flatMap encW)) :: (kk, rowO 2 K.length (K.flatMap encW)) :: (poolC q t u ++ (G.hr.ch q ++ ((G.wk, rowO 2 G.ws.length (G.ws.flatMap encW)) :: (poolC p r u' ++ (PHeap.ch p { G.hp with regs := A ++ g1 :: B } ++ F)))))) := (Holds.of (h1) (fun k => by simp +arith only [HA, HB]) (fun k x => by simp only [HA, HC]; grind only))
        have f2 := h2.f2
        simp only [ActG.cells, hn] at f2
        simp -implicitDefEqProofs only [↓GP, GB, GL, Nat.reduceAdd, Nat.reduceSub, Nat.reduceEqDiff, Nat.reduceMul, Nat.reduceLeDiff, Int.reduceBNe, Int.reduceBEq, Nat.reduceLT, reduceCtorEq, f2]
        have h97 := fun Q' => s97 (gr := false) (o := o) (s := s1) (Q := Q') (hr := G.hr) (p := q) (r := t) (wk := kk) (u := u) (A := A') (B := B') (g := g') (ws := K) (xs := xs') (ats := ats) (u' := u') (fill' := fill') (pages' := pages') (F := (kk, rowO 2 K.length (K.flatMap encW)) :: (ck, rowO 2 K.length (cw.flatMap encW)) :: (G.id, some (.cells [ptrN G.hp.id, ptrN G.hr.id, rowV G.wk G.ws.length] none)) :: ((G.wk, rowO 2 G.ws.length (G.ws.flatMap encW)) :: (poolC p r u' ++ (PHeap.ch p { G.hp with regs := A ++ g1 :: B } ++ F)))) (Holds.of (h2) (fun k => by simp +arith only [HA, HB]) (fun k x => by simp only [HA, HC]; grind only)) e2 h.rlen (fun g hg => by have := h.rol hg; omega) (by omega) ok'.1 (by omega) (List.mem_cons_self ..) (by omega) (by rw [l2]; exact hrp) hlay' (by omega)
        rw [l2] at h97
        refine wp_in (h97 _ fun s2 pgk' obk' ck' hz' h3 => ?_)
        generalize hgd' : ({ g' with pgk := pgk', obk := obk', fill := fill', pages := pages', objs := rrelay xs' ats } : RReg) = g1' at h3
        rw [rrelay_enc _ _ _ (by omega), ← hlf, hcw] at h3
        have h4 : Holds o s2 ((G.wk, rowO 2 G.ws.length (G.ws.flatMap encW)) :: (G.id, some (.cells [ptrN G.hp.id, ptrN G.hr.id, rowV G.wk G.ws.length] none)) :: (ck', rowO 2 K.length (cw.flatMap encW)) :: (ck, rowO 2 K.length (cw.flatMap encW)) :: (poolC p r u' ++ (PHeap.ch p { G.hp with regs := A ++ g1 :: B } ++ (poolC q t u' ++ (RHeap.ch q { G.hr with regs := A' ++ g1' :: B' } ++ F))))) := (Holds.of (h3) (fun k => by simp +arith only [HA, HB]) (fun k x => by simp only [HA, HC]; grind only))
        have f4 := h4.tl.f1
        simp -implicitDefEqProofs only [↓GP, GB, GL, Nat.reduceAdd, Nat.reduceSub, Nat.reduceEqDiff, Nat.reduceMul, Nat.reduceLeDiff, Int.reduceBNe, Int.reduceBEq, Nat.reduceLT, reduceCtorEq, f4, Int.reduceBEq]
        have hck' : K.length = 0 ∨ s2.new ck' = some (.cells (cw.flatMap encW) (some 2)) := by
          rcases Nat.eq_zero_or_pos K.length with h0 | h0
          · exact .inl h0
          · have := h4.tl.tl
            rw [rowO_pos h0] at this
            exact .inr this.g0
        refine wp_append (cs := G.ws.flatMap encW) h4 (by rw [tab_len encW_len]) (new_row hck' (by rw [tab_len encW_len, hcl])) (by rw [tab_len encW_len, hcl]) (by rw [List.all_flatMap]; simp [encW, V.one]) (by omega) (by unfold maxRow; omega) (by unfold maxRow; omega) fun wk' s3 h5 => ?_
        have f5 := h5.tl.f1
        simp -implicitDefEqProofs only [↓GP, GB, GL, Nat.reduceAdd, Nat.reduceSub, Nat.reduceEqDiff, Nat.reduceMul, Nat.reduceLeDiff, Int.reduceBNe, Int.reduceBEq, Nat.reduceLT, reduceCtorEq, f5]
        have h6 := h5.set1 (.cells [ptrN G.hp.id, ptrN G.hr.id, rowV wk' (G.ws.length + K.length)] none)
        have hsw := s48 h6 (l := cw) (v := rowV ck cw.length) (v' := rowV ck' cw.length) (by rw [hcl]; exact SlAt.row (sz := 2) (by simp)) (by rw [hcl]; exact SlAt.row (sz := 2) (by simp)) (by omega)
        rw [hcl] at hsw
        simp -implicitDefEqProofs only [↓GP, GB, GL, Nat.reduceAdd, Nat.reduceSub, Nat.reduceEqDiff, Nat.reduceMul, Nat.reduceLeDiff, Int.reduceBNe, Int.reduceBEq, Nat.reduceLT, reduceCtorEq, hsw, Int.reduceBEq]
        refine k _ u' { G with wk := wk', hp := { G.hp with regs := A ++ g1 :: B }, hr := { G.hr with regs := A' ++ g1' :: B' }, ws := G.ws ++ cw } ?_ ?_
        · have hup := hok pgk obk plk pl pgk' obk' (by rw [hgd]; exact okp) hz'
          rw [hgd, hgd'] at hup
          exact ⟨rfl, rfl, rfl, ⟨hup.ulen, hup.lives, hup.same, hup.inv, hup.pool, hup.pok, hup.grown, hup.pz, hup.one⟩, hul, by simp; omega, by simp⟩
        · exact (Holds.of (h6) (fun k => by simp +arith only [List.length_append, List.flatMap_append, hcl, HA, HB]) (fun k x => by simp only [List.length_append, List.flatMap_append, hcl, HA, HC]; grind only))
  · refine bad 2 rfl (fun s2 h2 Q' q' => s109_err h2 (AtErr.of hin h.pne hpl hb) rfl rfl q') (fun s2 h2 Q' q' => ?_)
    have e := s97_err (wv := rowV kk K.length) h2 (RAtErr.of rin h.rne (by rw [← hrl]; exact hb))
    exact wp_res e (q' s2 h2)
theorem rem5 (b : Int) : intI .rem .i64 b 5 = some (I (b.tmod 5)) := by
  show (if (5 : Int) = 0 then none else some (V.int .i64 (b.tmod 5))) = _
  rw [if_neg (by omega)]
theorem s70 {bs : List Bool} (x : ActG) (hS : SomeAt o x bs) (h : PairOk u others G) (hwl : G.ws.length ≤ 1000000) (H : Holds o s (World p r q t u G F))
    (k : ∀ s' u' G', Next others u G u' G' → Holds o s' (World p r q t u' G' F) → Q (.bool true) s') : WP (call PF 70 [ptrN G.id, .agg x.cells] s) Q := by
  have f0 := H.mem World.id
  simp only [PairG.hd] at f0
  have h1 := H.alloc (.cells x.cells none)
  have rin := (World.rin (p := p) (r := r) (q := q) (t := t) (u := u) (G := G) (F := F)).cons (s.next, some (.cells x.cells none))
  have post : ∀ (s1 : St) (kk : Nat) (K : List (Int × Int)), K.length ≤ 961 → Holds o s1 ((kk, rowO 2 K.length (K.flatMap encW)) :: (s.next, some (.cells x.cells none)) :: World p r q t u G F) →
      WP (go (loop PF) (call PF) j70_bbbb (sp 99 [(0, ptrN G.id), (3, ptrN s.next), (7, rowV kk K.length)]) s1 (finR [(4, none)])) Q := by
    intro s1 kk K hK h2
    have fb := h2.tl.f1
    by_cases hb : x.b.tmod 5 = 4
    · have hbe : (x.b.tmod 5 == 4) = true := by simpa using hb
      simp -implicitDefEqProofs only [↓GP, GB, GL, Nat.reduceAdd, Nat.reduceSub, Nat.reduceEqDiff, Nat.reduceMul, Nat.reduceLeDiff, Int.reduceBNe, Int.reduceBEq, Nat.reduceLT, reduceCtorEq, j70_bbbb, fb, rem5, hbe]
      refine wp_in (s64 h2 (List.mem_cons_of_mem _ (List.mem_cons_of_mem _ World.id)) (List.mem_cons_of_mem _ (List.mem_cons_of_mem _ World.wk)) x fun s2 h3 => ?_)
      generalize wordG G.ws x = w
      simp -implicitDefEqProofs only [↓GP, GB, GL, Nat.reduceAdd, Nat.reduceSub, Nat.reduceEqDiff, Nat.reduceMul, Nat.reduceLeDiff, Int.reduceBNe, Int.reduceBEq, Nat.reduceLT, reduceCtorEq, encW]
      refine wp_append (cs := K.flatMap encW) ((h3.alloc _).r1) (by rw [tab_len encW_len]) (new_cells' (alloc_new_same _ _) rfl) rfl rfl (by omega) (by unfold maxRow; omega) (by unfold maxRow; omega) fun kk' s3 h4 => ?_
      simp -implicitDefEqProofs only [↓GP, GB, GL, Nat.reduceAdd, Nat.reduceSub, Nat.reduceEqDiff, Nat.reduceMul, Nat.reduceLeDiff, Int.reduceBNe, Int.reduceBEq, Nat.reduceLT, reduceCtorEq]
      have h5 := h4.r1.tl
      have hl : (K ++ [w]).length = K.length + 1 := by simp
      have := s70_tail (v51 := .any) (Q := Q) (K := K ++ [w]) (kk := kk') (bx := s.next) x (by simp; omega) h hwl (s := s3) (by rw [List.flatMap_append]; simpa [encW] using h5) k
      rw [hl] at this
      exact this
    · have hbe : (x.b.tmod 5 == 4) = false := by simpa using hb
      simp -implicitDefEqProofs only [↓GP, GB, GL, Nat.reduceAdd, Nat.reduceSub, Nat.reduceEqDiff, Nat.reduceMul, Nat.reduceLeDiff, Int.reduceBNe, Int.reduceBEq, Nat.reduceLT, reduceCtorEq, j70_bbbb, fb, rem5, hbe]
      exact s70_tail x (by omega) h hwl h2 k
  rw [call_run F70]; simp -implicitDefEqProofs only [↓GP, GB, GL, Nat.reduceAdd, Nat.reduceSub, Nat.reduceEqDiff, Nat.reduceMul, Nat.reduceLeDiff, Int.reduceBNe, Int.reduceBEq, Nat.reduceLT, reduceCtorEq, c70, f0]
  by_cases hb : 0 ≤ x.a ∧ x.a < G.hp.regs.length
  · obtain ⟨n, hn⟩ : ∃ n : Nat, x.a = n := ⟨x.a.toNat, by omega⟩
    obtain ⟨A, g, B, A', g', B', e1, e2, l1, l2, hm, hA, hB⟩ := h.at_ (i := n) (by omega)
    have hg' : G.hr.regs[n]? = some g' := by rw [e2, ← l2]; simp
    have mg' : g' ∈ G.hr.regs := by rw [e2]; simp
    have hop' := h.rol mg'
    rw [hn]
    refine wp_in (s81 h1 rin hg' (by omega) fun s1 lk h2 => ?_)
    have he : g'.objs.flatMap (rencP g'.life) = (g'.objs.map fun y => ((y.b.at_ : Int), (g'.life : Int))).flatMap encW := by rw [List.flatMap_map]; rfl
    rw [he] at h2
    simp -implicitDefEqProofs only [↓GP, GB, GL, Nat.reduceAdd, Nat.reduceSub, Nat.reduceEqDiff, Nat.reduceMul, Nat.reduceLeDiff, Int.reduceBNe, Int.reduceBEq, Nat.reduceLT, reduceCtorEq]
    generalize hl : (g'.objs.map fun y => ((y.b.at_ : Int), (g'.life : Int))) = l at h2
    have hll : l.length = g'.objs.length := by rw [← hl]; simp
    rw [← hll] at h2 ⊢
    refine keep_loop (id := G.id) (bx := s.next) (l := l) (bs := bs) hS (C := (lk, rowO 2 l.length (l.flatMap encW)) :: (s.next, some (.cells x.cells none)) :: World p r q t u G F) (by simp) (SlAt.row (sz := 2) (List.mem_cons_self ..)) (by omega) l.length 0 0 [] s1 (by omega) (by simp) (h2.nilEntry 0) fun s2 kk h3 => ?_
    simp only [List.drop_zero, List.nil_append] at h3
    have := keepL_len l bs
    simp -implicitDefEqProofs only [↓GP, GB, GL, Nat.reduceAdd, Nat.reduceSub, Nat.reduceEqDiff, Nat.reduceMul, Nat.reduceLeDiff, Int.reduceBNe, Int.reduceBEq, Nat.reduceLT, reduceCtorEq]
    exact post s2 kk _ (by omega) h3.r1.tl
  · have e := s81_err h1 (RAtErr.of rin h.rne (by rw [← h.len]; exact hb))
    simp -implicitDefEqProofs only [↓GP, GB, GL, Nat.reduceAdd, Nat.reduceSub, Nat.reduceEqDiff, Nat.reduceMul, Nat.reduceLeDiff, Int.reduceBNe, Int.reduceBEq, Nat.reduceLT, reduceCtorEq, e]
    refine keep_loop (id := G.id) (bx := s.next) (l := []) (bs := bs) hS (C := (s.next, some (.cells x.cells none)) :: World p r q t u G F) (by simp) (.inl ⟨rfl, _, _, rfl⟩) (by simp) 0 0 0 [] (s.alloc (.cells x.cells none)) (by simp) (by simp) (h1.nilEntry 0) fun s2 kk h3 => ?_
    simp only [List.drop_zero, List.nil_append, keepL] at h3
    simp -implicitDefEqProofs only [↓GP, GB, GL, Nat.reduceAdd, Nat.reduceSub, Nat.reduceEqDiff, Nat.reduceMul, Nat.reduceLeDiff, Int.reduceBNe, Int.reduceBEq, Nat.reduceLT, reduceCtorEq]
    exact post s2 kk [] (by simp) h3
theorem s26 {bs : List Bool} (x : ActG) (hd : 0 ≤ x.d) (hS : SomeAt o x bs) (h : PairOk u others G) (hwl : G.ws.length ≤ 1000000) (H : Holds o s (World p r q t u G F))
    (k : ∀ s' u' G', Next others u G u' G' → Holds o s' (World p r q t u' G' F) → Q (.bool true) s') : WP (call PF 26 [ptrN G.id, .agg x.cells] s) Q := by
  have hm : intI .rem .u8 x.d 8 = some (.int .u8 (x.d % 8)) := by
    show (if (8 : Int) = 0 then none else some (V.int .u8 (x.d.tmod 8))) = _
    rw [if_neg (by omega), Int.tmod_eq_emod_of_nonneg hd]
  have h0 := Int.emod_nonneg x.d (show (8 : Int) ≠ 0 by omega)
  have h8 := Int.emod_lt_of_pos x.d (show (0 : Int) < 8 by omega)
  have h1 := H.alloc (.cells x.cells none)
  rcases (show x.d % 8 = 0 ∨ x.d % 8 = 1 ∨ x.d % 8 = 2 ∨ x.d % 8 = 3 ∨ x.d % 8 = 4 ∨ x.d % 8 = 5 ∨ x.d % 8 = 6 ∨ x.d % 8 = 7 by omega) with e | e | e | e | e | e | e | e <;> rw [e] at hm
  · exact do_open x hm h H fun s' G' n h' => k s' u G' n h'
  · exact do_close x hm h H k
  · exact do_reset x hm h H k
  · rw [call_run F26]; simp -implicitDefEqProofs only [↓GP, GB, GL, Nat.reduceAdd, Nat.reduceSub, Nat.reduceEqDiff, Nat.reduceMul, Nat.reduceLeDiff, Int.reduceBNe, Int.reduceBEq, Nat.reduceLT, reduceCtorEq, c26, hm, Int.reduceBEq]
    refine wp_in (s63 (p := p) (r := r) (q := q) (t := t) (F := (s.next, some (.cells x.cells none)) :: F) x h (Holds.of (h1) (fun k => by simp +arith only [HA, HB]) (fun k x => by simp only [HA, HC]; grind only)) hwl fun s1 u' G' n h2 => ?_)
    simp -implicitDefEqProofs only [↓GP, GB, GL, Nat.reduceAdd, Nat.reduceSub, Nat.reduceEqDiff, Nat.reduceMul, Nat.reduceLeDiff, Int.reduceBNe, Int.reduceBEq, Nat.reduceLT, reduceCtorEq]
    exact k _ u' G' n (Holds.of (h2) (fun k => by simp +arith only [HA, HB]) (fun k x => by simp only [HA, HC]; grind only))
  · exact do_set x hm h H k
  · exact do_get x hm h H fun s' h' => k s' u G h.nx h'
  · rw [call_run F26]; simp -implicitDefEqProofs only [↓GP, GB, GL, Nat.reduceAdd, Nat.reduceSub, Nat.reduceEqDiff, Nat.reduceMul, Nat.reduceLeDiff, Int.reduceBNe, Int.reduceBEq, Nat.reduceLT, reduceCtorEq, c26, hm, Int.reduceBEq]
    refine wp_in (s70 (p := p) (r := r) (q := q) (t := t) (F := (s.next, some (.cells x.cells none)) :: F) x hS h hwl (Holds.of (h1) (fun k => by simp +arith only [HA, HB]) (fun k x => by simp only [HA, HC]; grind only)) fun s1 u' G' n h2 => ?_)
    simp -implicitDefEqProofs only [↓GP, GB, GL, Nat.reduceAdd, Nat.reduceSub, Nat.reduceEqDiff, Nat.reduceMul, Nat.reduceLeDiff, Int.reduceBNe, Int.reduceBEq, Nat.reduceLT, reduceCtorEq]
    exact k _ u' G' n (Holds.of (h2) (fun k => by simp +arith only [HA, HB]) (fun k x => by simp only [HA, HC]; grind only))
  · rw [call_run F26]; simp -implicitDefEqProofs only [↓GP, GB, GL, Nat.reduceAdd, Nat.reduceSub, Nat.reduceEqDiff, Nat.reduceMul, Nat.reduceLeDiff, Int.reduceBNe, Int.reduceBEq, Nat.reduceLT, reduceCtorEq, c26, hm, Int.reduceBEq]
    exact k _ u G h.nx h1.tl
end
end Go.Proofs.Ytoldkemimhebaaa

set_option linter.unusedSimpArgs false
set_option linter.unusedVariables false
namespace Go.IM
open Go.RowKit Go.ChangeShapes
def oldSt (W : World) : St :=
  ⟨fun b => match W.heap[b]? with
    | some (.cells C _ _) => some (.cells (ofVals C.toList) none)
    | _ => none, 0, fun _ => none⟩
theorem oldSt_sim (W : World) : Sim W.heap.size none0 (oldSt W) W where
  base := Nat.le_refl _
  old := fun b o h => by
    simp only [oldSt] at h
    split at h
    · rename_i C el fr hb
      cases h
      refine ⟨?_, rfl, C, el, fr, hb, ofVals_VRs _ _⟩
      rcases Nat.lt_or_ge b W.heap.size with h | h
      · exact h
      · rw [Array.getElem?_eq_none h] at hb; cases hb
    · cases h
  dom := fun k p h => by simp [none0] at h
  obj := fun k p o h => by simp [none0] at h
  inj := fun k k' p p' h => by simp [none0] at h
  fresh := fun _ _ => rfl
section
variable {P : Program} {H : Type} {enc : TypeId × Value → H}
theorem trodAll_below (hl : laidOutB P = true) {W W' : World} (hb : Below W.heap.size W W') :
    ∀ {ts : List TypeId} {vs : List Value} {ds : List (DataW H)} {ps : List MemPlace}, ts.all (fun t => P.readableRec t && decide (t < P.types.size)) = true →
      DataW.TrodAll enc P W 0 (fun _ => true) true ts vs ds ps → (∀ x ∈ ps, x.block < W.heap.size) → DataW.TrodAll enc P W' 0 (fun b => decide (b < W.heap.size)) true ts vs ds ps
  | [], [], [], _, _, h, _ => h
  | t :: ts, v :: vs, d :: ds, ps, hr, ⟨p, q, h1, h2, e⟩, hlt => by
    subst e
    simp only [List.all_cons, Bool.and_eq_true, decide_eq_true_eq] at hr
    exact ⟨p, q, Below.trod hl hr.1.1 hr.1.2 h1 hb (fun x hx => hlt x (List.mem_append_left _ hx)),
      trodAll_below hl hb hr.2 h2 (fun x hx => hlt x (List.mem_append_right _ hx)), rfl⟩
  | [], _ :: _, _, _, _, h, _ => h.elim
  | [], [], _ :: _, _, _, h, _ => h.elim
  | _ :: _, [], _, _, _, h, _ => h.elim
  | _ :: _, _ :: _, [], _, _, h, _ => h.elim
theorem post_true {fn : Func} {s : ChangeSpec} {apart fresh handsOn : Bool} {W W' : World} {args : Array Value} {ds gs : List (DataW H)} {before : List MemPlace} {bt : TypeId}
    (hl : laidOutB P = true) (hW : DataW.Whole enc P fn.params.toList s.vars apart W args.toList ds gs before) (hb : Below W.heap.size W W')
    (hr : fn.params.toList.all (fun t => P.readableRec t && decide (t < P.types.size)) = true)
    (hres : fn.resultTypes = #[bt]) (hbt : P.underlying bt = some .bool) (hv : s.vars = [])
    (hs : s.fn H (ds ++ gs) = { results := [.lit (.bool true)], args := ds }) :
    s.post enc P fn apart fresh handsOn false W args (.bool true) W' := by
  have hW0 := hW
  obtain ⟨p, q, hA, hV, e, hz, hn⟩ := hW
  rw [hv] at hV
  have hq : q = [] := by
    cases gs with
    | nil => exact hV
    | cons _ _ => exact hV.elim
  subst hq
  have hlt : ∀ x ∈ before, x.block < W.heap.size := fun x hx => hW0.lt x hx
  refine ⟨ds, gs, before, [], before, [], hW0, ?_, ?_, ?_, hb.frame _, fun h => by cases h⟩
  · rw [hs, hres]
    refine ⟨[], [], ⟨1, ?_⟩, rfl, rfl⟩
    show DataW.trod enc P W' _ _ _ 1 bt [.bool true] = _
    simp only [DataW.trod, hbt]
  · rw [hs]
    have : before = p := by simp [e]
    rw [this] at hlt ⊢
    exact trodAll_below hl hb hr hA hlt
  · rw [hs, hv]
    cases gs with
    | nil => exact rfl
    | cons _ _ => exact hV.elim
theorem lifted_true {a : Assume} {C : Checked} {os : Os} {f : FuncId} {fn : Func} {s : ChangeSpec} {conds : List PathCond} {apart fresh handsOn : Bool} {bt : TypeId}
    (own : ownKnob C.prog.godebug = none) (started : os.Started) (noInit : C.prog.inits.idxOf? f = none) (hfn : C.prog.funcs[f]? = some fn)
    (hl : laidOutB C.prog = true) (hm : C.prog.follows .mixedOrders = true)
    (hr : fn.params.toList.all (fun t => C.prog.readableRec t && decide (t < C.prog.types.size)) = true)
    (hres : fn.resultTypes = #[bt]) (hbt : C.prog.underlying bt = some .bool) (hv : s.vars = [])
    (witness : ∃ (w : World) (tape : Tape) (i : Input), w.os = os ∧ (w.forCall tape i).Shaped C.prog ∧ i.vars = [] ∧ Input.okWide C.prog (w.forCall tape i) .any w.heap.size f i ∧
      s.pre6 enc C.prog fn conds apart (w.forCall tape i).memory i.args ∧ a.holds C.prog (lone (Frame.enter C.prog f i.args .normal) [] (w.forCall tape i)))
    (hs : ∀ ds : List (DataW H), ds.length = fn.params.size → s.fn H ds = { results := [.lit (.bool true)], args := ds })
    (contract : ∀ (W : World) (base : Nat) (args : Array Value) (ds : List (DataW H)) (before : List MemPlace),
      (∀ (j : Nat) t v, fn.params[j]? = some t → args[j]? = some v → Value.okWide C.prog W .any base t v) →
      DataW.TrodAll enc C.prog W 0 (fun _ => true) true fn.params.toList args.toList ds before →
      (DataW.weightsEach C.prog fn.params.toList ds).all (· ≤ reachBytes) = true →
      ∃ st, call (shutF C.prog) f (ofVals args.toList) (oldSt W) = some (.bool true, st)) (h0 : f < yBase := by decide) :
    ReturnsInHanded a C os f .any (s.pre6 enc C.prog fn conds apart) (s.post enc C.prog fn apart fresh handsOn false) := by
  refine returnsInHanded_of_change_sized own started noInit hfn witness ?_
  intro W base args ds gs before hval hW _ hw _
  have hW0 := hW
  obtain ⟨p, q, hA, hV, e, hz, hn⟩ := hW
  rw [hv] at hV
  have hg : gs = [] := by
    cases gs with
    | nil => rfl
    | cons _ _ => exact hV.elim
  subst hg
  have hvt : s.plain.varTypes C.prog = [] := by
    simp [ChangeSpec.plain, DataSpec.varTypes, hv]
  rw [hvt, List.append_nil, List.append_nil] at hw
  obtain ⟨st, hc⟩ := contract W base args ds p hval hA hw
  have hds : ds.length = fn.params.size := by
    have : ∀ {ts : List TypeId} {vs : List Value} {ds : List (DataW H)} {ps : List MemPlace}, DataW.TrodAll enc C.prog W 0 (fun _ => true) true ts vs ds ps → ds.length = ts.length := by
      intro ts
      induction ts with
      | nil => intro vs ds ps h; cases vs <;> cases ds <;> first | rfl | exact h.elim
      | cons t ts ih => intro vs ds ps h; cases vs <;> cases ds <;> first | exact h.elim | (obtain ⟨_, _, _, h2, _⟩ := h; simp [ih h2])
    rw [this hA]; simp
  obtain ⟨henter, hcalls⟩ := (shut_sound hm W.heap.size none0 f _ _ _ _ hc).1 h0
  have hcl : Calls C.prog f args W _ := callsIn_wide.1 (hcalls none0 W args (Le.refl _) (ofVals_VRs _ _) (oldSt_sim W))
  refine hcl.mono fun en W' h => ?_
  obtain ⟨ρ', v', rfl, hv', hsim, hstep⟩ := h
  have hv'' : v' = .bool true := hv'
  subst hv''
  exact ⟨_, rfl, post_true hl hW0 hstep.below hr hres hbt hv (by rw [List.append_nil]; exact hs ds hds)⟩
end
end Go.IM

set_option linter.unusedSimpArgs false
set_option linter.unusedVariables false
namespace Go.Proofs.Ytoldkemimhebaaa
open Go Go.IM
def c3 : IFn := ⟨53, [(2, none)],
  (.seq (.region [oa 2 (.mov (.c (.bool false)))] (kp 53 [0]))
  (.seq (.region [oa 10 (.mov (.t 0)), oa 11 (.call 17 [(.t 10)]), oa 9 (.mov (.t 11)), oa 12 (.extract (.t 9) 0), oa 13 (.extract (.t 9) 1), oa 3 (.mov (.t 12)), oa 4 (.mov (.t 13))] (kp 53 [0,3,4]))
  (.seq (.region [oa 15 (.mov (.t 0)), oa 16 (.call 18 [(.t 15)]), oa 14 (.mov (.t 16)), oa 17 (.extract (.t 14) 0), oa 18 (.extract (.t 14) 1), oa 5 (.mov (.t 17)), oa 6 (.mov (.t 18))] (kp 53 [0,3,4,5,6]))
  (.seq (.seq (.region [oa 19 (.mov (.t 4)), oa 20 (.mov (.t 6)), oa 21 (.bin .neq (.t 19) (.t 20)), oa 22 (.mov (.t 21)), oc 23 (.mov (.t 3)) 22 ff, oc 24 (.call 19 [(.t 23)]) 22 ff, oc 25 (.mov (.t 5)) 22 ff, oc 26 (.call 20 [(.t 25)]) 22 ff, oc 27 (.bin .neq (.t 24) (.t 26)) 22 ff, oa 28 (.pick (.t 22) (.c (.bool true)) (.t 27)), oa 29 (.mov (.t 28)), oc 30 (.mov (.t 3)) 29 ff, oc 31 (.call 21 [(.t 30)]) 29 ff, oc 32 (.bin .neq (.t 31) (ai 0)) 29 ff, oa 33 (.pick (.t 29) (.c (.bool true)) (.t 32))] (kp 53 [0,3,4,33]))
  (.cond (.t 33)
  (.seq (.region [oa 2 (.mov (.c (.bool false)))] (kp 53 [2]))
  (sr 53 [2]))
  (sk 53 [0,3,4])))
  (.seq (.seq (.region [oa 34 (.mov (.t 4)), oa 35 (.bin .neq (.t 34) (ai 0))] (kp 53 [0,3,35]))
  (.cond (.t 35)
  (.seq (.region [oa 37 (.mov (.t 3)), oa 38 (.call 22 [(.t 37)]), oa 36 (.mov (.t 38)), oa 39 (.extract (.t 36) 0), oa 40 (.extract (.t 36) 1), oa 7 (.mov (.t 39)), oa 8 (.mov (.t 40))] (kp 53 [8]))
  (.seq (.region [oa 41 (.mov (.t 8)), oa 42 (.bin .eql (.t 41) (ai 6)), oa 43 (.mov (.t 42)), oc 44 (.call 23 []) 43 tt, oa 45 (.pick (.t 43) (.t 44) (.c (.bool false))), oa 2 (.mov (.t 45))] (kp 53 [2]))
  (sr 53 [2])))
  (sk 53 [0,3])))
  (.seq (.region [oa 46 (.mov (.t 3)), oa 47 (.call 19 [(.t 46)]), oa 48 (.mov (.t 0)), oa 49 (.bin .eql (.t 47) (.t 48)), oa 50 (.mov (.t 49)), oc 51 (.call 23 []) 50 tt, oa 52 (.pick (.t 50) (.t 51) (.c (.bool false))), oa 2 (.mov (.t 52))] (kp 53 [2]))
  (sr 53 [2])))))))⟩
section
set_option maxRecDepth 10000
theorem closed_at (n : Nat) {f : Nat} (h : (match (LC PF n noY).2 f [] ⟨fun _ => none, 0, fun _ => none⟩ with | some (.bool b, _) => b | _ => false) = true) (s : St) (h0 : f < yBase := by decide) :
    ∃ t, call PF f [] s = some (.bool true, t) ∧ (∀ j, j < s.next → t.new j = s.new j) ∧ t.old = s.old ∧ s.next ≤ t.next := by
  split at h
  · rename_i b st hc
    subst h
    have hc' : call PF f [] ⟨fun _ => none, 0, fun _ => none⟩ = some (.bool true, st) := call_some.2 ⟨n, hc⟩
    have hr : Ren (fun k => s.next + k) ⟨fun _ => none, 0, fun _ => none⟩ s := ⟨fun k _ => rfl, fun k o h => by simp at h, fun b o h => by simp at h, fun k k' h => by simpa using h⟩
    obtain ⟨t, h1, h2, h3⟩ := call_frame (F := PF) shutF_shut hr hc' h0
    exact ⟨t, h1, fun j hj => h3.new j (fun k hk => by have : s.next + k = j := hk; omega), h3.old, h3.next⟩
  · cases h
theorem zeros_bool : ∀ k, zeros [.bool false] k = (List.replicate k false).map V.bool
  | 0 => rfl
  | k + 1 => by simp only [zeros, zeros_bool k, List.replicate_succ, List.map_cons]; rfl
theorem PoolAt.alloc {s : St} {p r : Nat} {bs : List Bool} (h : PoolAt s p r bs) (hp : p < s.next) (hr : r < s.next) (o : O) : PoolAt (s.alloc o) p r bs :=
  ⟨by rw [alloc_new s o (by omega)]; exact h.1, by rw [alloc_new s o (by omega)]; exact h.2⟩
end
end Go.Proofs.Ytoldkemimhebaaa

set_option linter.unusedSimpArgs false
set_option linter.unusedVariables false
namespace Go.Proofs.Ytoldkemimhebaaa
open Go Go.IM
def l24_0 : IC := (.seq (.seq (.seq (.region [oa 4 (.mov (.t 3)), oa 5 (.mov (.t 0)), oa 6 (.lenSlice (.t 5)), oa 7 (.bin .lss (.t 4) (.t 6))] (kp 20 [0,3,7]))
  (.cond (.t 7)
  (sk 20 [0,3])
  (sx 20 [0] 0)))
  (.seq (.block 1
  (.seq (.region [oa 10 (.mov (.t 0)), oa 11 (.mov (.t 3)), oa 12 (.indexAddr 11 (.t 10) (.t 11)), oa 13 (.fieldAddr 10 (.t 12)), oa 14 (.load none (.t 13)), oa 15 (.lenSlice (.t 14)), oa 16 (.bin .gtr (.t 15) (ai 200))] (kp 20 [0,3,16]))
  (.cond (.t 16)
  (.seq (.region [oa 2 (.mov (.c (.bool true)))] (kp 20 [2]))
  (sr 20 [2]))
  (sk 20 [0,3]))))
  (.region [oa 8 (.mov (.t 3)), oa 9 (.bin .add (.t 8) (ai 1)), oa 3 (.mov (.t 9))] (kp 20 [0,3]))))
  (sk 20 [0,3]))
def c24 : IFn := ⟨20, [(2, none)],
  (.seq (.region [oa 2 (.mov (.c (.bool false)))] (kp 20 [0]))
  (.seq (.seq (.region [oa 3 (.mov (ai 0))] (kp 20 [0,3]))
  (.block 0
  (.seq (sk 20 [0,3])
  (.loop l24_0))))
  (.seq (.region [oa 17 (.mov (.t 0)), oa 18 (.lenSlice (.t 17)), oa 19 (.bin .gtr (.t 18) (ai 150)), oa 2 (.mov (.t 19))] (kp 20 [2]))
  (sr 20 [2]))))⟩
theorem F24 : shutF Try.prog 24 = some c24 := by kernel_rfl
def l25_0 : IC := (.seq (.seq (.seq (.region [oa 31 (.mov (.t 13)), oa 32 (.mov (.t 1)), oa 33 (.bin .lss (.t 31) (.t 32))] (kp 67 [1,8,10,12,13,33]))
  (.cond (.t 33)
  (sk 67 [1,8,10,12,13])
  (sx 67 [8,10,12] 0)))
  (.seq (.block 1
  (.seq (.region [oa 37 (.mov (.t 8)), oa 38 (.call 22 [(.t 37)]), oa 36 (.mov (.t 38)), oa 39 (.extract (.t 36) 0), oa 40 (.extract (.t 36) 1), oa 14 (.mov (.t 39)), oa 15 (.mov (.t 40))] (kp 67 [1,8,10,12,13,14,15]))
  (.seq (.region [oa 42 (.mov (.t 10)), oa 43 (.call 58 [(.t 42)]), oa 41 (.mov (.t 43)), oa 44 (.extract (.t 41) 0), oa 45 (.extract (.t 41) 1), oa 16 (.mov (.t 44)), oa 17 (.mov (.t 45))] (kp 67 [1,8,10,12,13,14,15,16,17]))
  (.seq (.seq (.region [oa 46 (.mov (.t 15)), oa 47 (.mov (.t 17)), oa 48 (.bin .neq (.t 46) (.t 47)), oa 49 (.mov (.t 48)), oc 50 (.mov (.t 14)) 49 ff, oc 51 (.eql false .ptr (.t 50) (.c (.ptr none))) 49 ff, oc 52 (.mov (.t 51)) 49 ff, oc 53 (.mov (.t 17)) 52 tt, oc 54 (.bin .eql (.t 53) (ai 0)) 52 tt, oc 55 (.pick (.t 52) (.t 54) (.c (.bool false))) 49 ff, oa 56 (.pick (.t 49) (.c (.bool true)) (.t 55))] (kp 67 [1,8,10,12,13,14,16,56]))
  (.cond (.t 56)
  (.seq (.region [oa 4 (.mov (.c (.slice none 0 (some 0)))), oa 5 (.mov (.c (.ptr none))), oa 6 (.mov (.c (.ptr none))), oa 7 (.mov (.c (.bool false)))] (kp 67 [4,5,6,7]))
  (sr 67 [4,5,6,7]))
  (sk 67 [1,8,10,12,13,14,16])))
  (.region [oa 57 (.mov (.t 12)), oa 58 (.mov (.t 14)), oa 59 (.mov (.t 16)), oa 60 (.build [(.ptr none), (.ptr none), (.slice none 0 (some 0))] [(0, 1, (.t 58)), (1, 1, (.t 59))]), oa 61 (.box (.t 60)), oa 62 (.buildSlice 1 [(.ptr none)] [(0, 1, (.t 61))]), oa 63 (.append 1 8 (.t 57) (.t 62)), oa 12 (.mov (.t 63))] (kp 67 [1,8,10,12,13]))))))
  (.region [oa 34 (.mov (.t 13)), oa 35 (.bin .add (.t 34) (ai 1)), oa 13 (.mov (.t 35))] (kp 67 [1,8,10,12,13]))))
  (sk 67 [1,8,10,12,13]))
def c25 : IFn := ⟨67, [(4, none), (5, none), (6, none), (7, none)],
  (.seq (.region [oa 4 (.mov (.c (.slice none 0 (some 0)))), oa 5 (.mov (.c (.ptr none))), oa 6 (.mov (.c (.ptr none))), oa 7 (.mov (.c (.bool false)))] (kp 67 [0,1]))
  (.seq (.region [oa 19 (.mov (.t 0)), oa 20 (.call 17 [(.t 19)]), oa 18 (.mov (.t 20)), oa 21 (.extract (.t 18) 0), oa 22 (.extract (.t 18) 1), oa 8 (.mov (.t 21)), oa 9 (.mov (.t 22))] (kp 67 [0,1,8,9]))
  (.seq (.region [oa 24 (.mov (.t 0)), oa 25 (.call 18 [(.t 24)]), oa 23 (.mov (.t 25)), oa 26 (.extract (.t 23) 0), oa 27 (.extract (.t 23) 1), oa 10 (.mov (.t 26)), oa 11 (.mov (.t 27))] (kp 67 [1,8,9,10,11]))
  (.seq (.seq (.region [oa 28 (.mov (.t 9)), oa 29 (.mov (.t 11)), oa 30 (.bin .neq (.t 28) (.t 29))] (kp 67 [1,8,10,30]))
  (.cond (.t 30)
  (.seq (.region [oa 4 (.mov (.c (.slice none 0 (some 0)))), oa 5 (.mov (.c (.ptr none))), oa 6 (.mov (.c (.ptr none))), oa 7 (.mov (.c (.bool false)))] (kp 67 [4,5,6,7]))
  (sr 67 [4,5,6,7]))
  (sk 67 [1,8,10])))
  (.seq (.region [oa 12 (.mov (.c (.slice none 0 (some 0))))] (kp 67 [1,8,10,12]))
  (.seq (.seq (.region [oa 13 (.mov (ai 0))] (kp 67 [1,8,10,12,13]))
  (.block 0
  (.seq (sk 67 [1,8,10,12,13])
  (.loop l25_0))))
  (.seq (.region [oa 64 (.mov (.t 12)), oa 65 (.mov (.t 8)), oa 66 (.mov (.t 10)), oa 4 (.mov (.t 64)), oa 5 (.mov (.t 65)), oa 6 (.mov (.t 66)), oa 7 (.mov (.c (.bool true)))] (kp 67 [4,5,6,7]))
  (sr 67 [4,5,6,7]))))))))⟩
theorem F25 : shutF Try.prog 25 = some c25 := by kernel_rfl
section
variable {o : Nat → Option O} {s : St} {C F : Ch} {Q : V → St → Prop} {p r q t : Nat} {u : List Bool} {others : List Nat} {G : PairG}
set_option maxRecDepth 10000
set_option maxHeartbeats 4000000
structure ActsAt (o : Nat → Option O) (v : V) (l : List (ActG × List Bool)) : Prop where
  len : lenV v = some (.int .i64 l.length)
  get : ∀ (i : Nat) (h : i < l.length), ∃ ad : Ad, ixV 11 v (.int .i64 (i : Int)) = some (.ptr (some ad)) ∧ ∀ s : St, s.old = o → loadV (some 11) (.ptr (some ad)) s = some (.agg l[i].1.cells) ∧ loadV none (.ptr (some ⟨ad.id, ad.off + 10⟩)) s = some (.slice l[i].1.sa l[i].1.sn l[i].1.sc)
  some_ : ∀ x ∈ l, SomeAt o x.1 x.2
  d : ∀ x ∈ l, 0 ≤ x.1.d ∧ x.1.d < 256 ∧ 0 ≤ x.1.hn ∧ x.1.hn < 256
def longB (l : List (ActG × List Bool)) : Bool := l.any (fun x => decide (200 < x.2.length)) || decide (150 < l.length)
theorem long_loop {v : V} {l : List (ActG × List Bool)} {K : Kt} (hs : s.old = o) (h : ActsAt o v l) (hl : l.length < 2 ^ 61) : ∀ (m i : Nat), i + m = l.length →
    loop PF (.loop l24_0) (sp 20 [(0, v), (3, I i)]) s K = if (l.drop i).any (fun x => decide (200 < x.2.length)) then K .ret (sp 20 [(2, .bool true)]) s else K (.exit 0) (sp 20 [(0, v)]) s
  | 0, i, hi => by
    have hlt : ¬ ((i : Int) < (l.length : Int)) := by omega
    refine round fun LL hLL => ?_
    simp -implicitDefEqProofs only [↓GP, GB, GL, Nat.reduceAdd, Nat.reduceSub, Nat.reduceEqDiff, Nat.reduceMul, Nat.reduceLeDiff, Int.reduceBNe, Int.reduceBEq, Nat.reduceLT, reduceCtorEq, l24_0, h.len, hlt]
    rw [List.drop_eq_nil_of_le (by omega)]
    rfl
  | m + 1, i, hi => by
    have hlt : ((i : Int) < (l.length : Int)) := by omega
    have hi' : i < l.length := by omega
    have hd : l.drop i = l[i] :: l.drop (i + 1) := List.drop_eq_getElem_cons hi'
    obtain ⟨ad, a1, a2⟩ := h.get i hi'
    have a3 := (a2 s hs).2
    have hsn := (h.some_ l[i] (List.getElem_mem hi')).1
    have hw := wrap_add1 (a := i) (by omega)
    refine round fun LL hLL => ?_
    rw [hd, List.any_cons]
    by_cases hb : 200 < l[i].2.length
    · have hb' : ((l[i].1.sn : Int) > 200) := by omega
      simp -implicitDefEqProofs only [↓GP, GB, GL, Nat.reduceAdd, Nat.reduceSub, Nat.reduceEqDiff, Nat.reduceMul, Nat.reduceLeDiff, Int.reduceBNe, Int.reduceBEq, Nat.reduceLT, reduceCtorEq, l24_0, h.len, hlt, a1, a3, hb']
      simp [hb]
    · have hb' : ¬ ((l[i].1.sn : Int) > 200) := by omega
      simp -implicitDefEqProofs only [↓GP, GB, GL, Nat.reduceAdd, Nat.reduceSub, Nat.reduceEqDiff, Nat.reduceMul, Nat.reduceLeDiff, Int.reduceBNe, Int.reduceBEq, Nat.reduceLT, reduceCtorEq, l24_0, h.len, hlt, a1, a3, hb', hw]
      rw [hLL, long_loop hs h hl m (i + 1) (by omega)]
      have hf : decide (200 < l[i].2.length) = false := by simpa using hb
      rw [hf, Bool.false_or]
theorem s24 {v : V} {l : List (ActG × List Bool)} (hs : s.old = o) (h : ActsAt o v l) (hl : l.length < 2 ^ 61) : call PF 24 [v] s = some (.bool (longB l), s) := by
  rw [call_run F24]; simp -implicitDefEqProofs only [↓GP, GB, GL, Nat.reduceAdd, Nat.reduceSub, Nat.reduceEqDiff, Nat.reduceMul, Nat.reduceLeDiff, Int.reduceBNe, Int.reduceBEq, Nat.reduceLT, reduceCtorEq, c24]
  refine (long_loop hs h hl l.length 0 (by omega)).trans ?_
  rw [List.drop_zero]
  unfold longB
  cases l.any (fun x => decide (200 < x.2.length)) with
  | true => simp -implicitDefEqProofs only [↓GP, GB, GL, Nat.reduceAdd, Nat.reduceSub, Nat.reduceEqDiff, Nat.reduceMul, Nat.reduceLeDiff, Int.reduceBNe, Int.reduceBEq, Nat.reduceLT, reduceCtorEq]
  | false =>
    by_cases hb : 150 < l.length
    · have hb' : ((l.length : Int) > 150) := by omega
      simp -implicitDefEqProofs only [↓GP, GB, GL, Nat.reduceAdd, Nat.reduceSub, Nat.reduceEqDiff, Nat.reduceMul, Nat.reduceLeDiff, Int.reduceBNe, Int.reduceBEq, Nat.reduceLT, reduceCtorEq, h.len, hb', hb]
    · have hb' : ¬ ((l.length : Int) > 150) := by omega
      simp -implicitDefEqProofs only [↓GP, GB, GL, Nat.reduceAdd, Nat.reduceSub, Nat.reduceEqDiff, Nat.reduceMul, Nat.reduceLeDiff, Int.reduceBNe, Int.reduceBEq, Nat.reduceLT, reduceCtorEq, h.len, hb', hb]
theorem pool_init (n : Nat) : PoolInv (List.replicate n false) [] := ⟨List.nodup_nil, fun p => by simp [List.getElem?_replicate]⟩
theorem PairOk.init {n id wk pid prk k m rid rrk : Nat} {sl : List V} (hn : n ≤ 30) : PairOk (List.replicate n false) [] ⟨id, wk, ⟨pid, prk, 1, [⟨k, 0, 0, m, .map [] 0, 0, 1, 0, [], []⟩], sl⟩, ⟨rid, rrk, false, 1, [⟨0, 0, 0, 1, 0, [], []⟩], []⟩, []⟩ where
  ulen := by simpa using hn
  lives := rfl
  same := rfl
  inv := ⟨by simp, by simp, by simp, by simp, by simp [PReg.m], fun r hr => by
    simp [PReg.m] at hr; subst hr
    exact ⟨by simp, by simp, fun h => by simp at h, fun _ => Packed.nil, fun x hx => by cases hx⟩⟩
  pool := pool_init n
  pok := fun g hg => by simp at hg; subst hg; exact mapIs_nil
  grown := ⟨fun _ => rfl, 0, rfl⟩
  pz := fun g hg _ => by simp at hg; subst hg; rfl
  one := fun _ => rfl
theorem s25 {n : Nat} (h1 : 1 ≤ n) (h2 : n ≤ 30) (H : Holds o s F)
    (k : ∀ s' p r q t G hk, PairOk (List.replicate n false) [] G → G.ws = [] → G.hp.lives = 1 → Holds o s' ((hk, rowO 1 1 [ptrN G.id]) :: World p r q t (List.replicate n false) G F) → Q (.tuple [rowV hk 1, ptrN p, ptrN q, .bool true]) s') : WP (call PF 25 [I n, I 1] s) Q := by
  have e17 := s17 s (n : Int) (by omega) (by omega)
  have H1 := (H.alloc (.cells (zeros [.bool false] (n : Int).toNat) none)).alloc (.cells [slN s.next (n : Int).toNat] none)
  simp only [Int.toNat_natCast, alloc_next] at e17 H1
  generalize (s.alloc (.cells (zeros [.bool false] n) none)).alloc (.cells [slN s.next n] none) = s1 at e17 H1
  have e18 := s18 s1 (n : Int) (by omega) (by omega)
  have H2 := (H1.alloc (.cells (zeros [.bool false] (n : Int).toNat) none)).alloc (.cells [slN s1.next (n : Int).toNat] none)
  simp only [Int.toNat_natCast, alloc_next] at e18 H2
  generalize (s1.alloc (.cells (zeros [.bool false] n) none)).alloc (.cells [slN s1.next n] none) = s2 at e18 H2
  have H3 : Holds o s2 (poolC (s.next + 1) s.next (List.replicate n false) ++ (poolC (s1.next + 1) s1.next (List.replicate n false) ++ F)) := (Holds.of (H2) (fun k => by simp +arith only [zeros_bool, List.length_replicate, HA, HB]) (fun k x => by simp only [zeros_bool, List.length_replicate, HA, HC]; grind only))
  rw [call_run F25]; simp -implicitDefEqProofs only [↓GP, GB, GL, Nat.reduceAdd, Nat.reduceSub, Nat.reduceEqDiff, Nat.reduceMul, Nat.reduceLeDiff, Int.reduceBNe, Int.reduceBEq, Nat.reduceLT, reduceCtorEq, c25, e17, e18]
  refine wp_round fun LL hLL => ?_
  simp -implicitDefEqProofs only [↓GP, GB, GL, Nat.reduceAdd, Nat.reduceSub, Nat.reduceEqDiff, Nat.reduceMul, Nat.reduceLeDiff, Int.reduceBNe, Int.reduceBEq, Nat.reduceLT, reduceCtorEq, l25_0, Int.reduceLT]
  refine wp_in (s22 (F := poolC (s1.next + 1) s1.next (List.replicate n false) ++ F) H3 (by simp; omega) fun s3 id rk kk m sl H4 => ?_)
  simp -implicitDefEqProofs only [↓GP, GB, GL, Nat.reduceAdd, Nat.reduceSub, Nat.reduceEqDiff, Nat.reduceMul, Nat.reduceLeDiff, Int.reduceBNe, Int.reduceBEq, Nat.reduceLT, reduceCtorEq]
  refine wp_in (s58 (p := s1.next + 1) (r := s1.next) (u := List.replicate n false) (F := poolC (s.next + 1) s.next (List.replicate n false) ++ (PHeap.ch (s.next + 1) ⟨id, rk, 1, [⟨kk, 0, 0, m, .map [] 0, 0, 1, 0, [], []⟩], sl⟩ ++ F)) (Holds.of (H4) (fun k => by simp +arith only [HA, HB]) (fun k x => by simp only [HA, HC]; grind only)) (by simp; omega) fun s4 id' rk' H5 => ?_)
  simp -implicitDefEqProofs only [↓GP, GB, GL, Nat.reduceAdd, Nat.reduceSub, Nat.reduceEqDiff, Nat.reduceMul, Nat.reduceLeDiff, Int.reduceBNe, Int.reduceBEq, Nat.reduceLT, reduceCtorEq, Int.reduceBNe, Int.reduceBEq]
  have H6 := (H5.alloc (.cells [ptrN id, ptrN id', .slice none 0 (some 0)] none)).alloc (.cells [ptrN s4.next] none)
  refine wp_append (k := 0) (n := 0) (cs := []) (F := (s4.next + 1, some (.cells [ptrN s4.next] none)) :: (s4.next, some (.cells [ptrN id, ptrN id', .slice none 0 (some 0)] none)) :: (poolC (s1.next + 1) s1.next (List.replicate n false) ++ (RHeap.ch (s1.next + 1) ⟨id', rk', false, 1, [⟨0, 0, 0, 1, 0, [], []⟩], []⟩ ++ (poolC (s.next + 1) s.next (List.replicate n false) ++ (PHeap.ch (s.next + 1) ⟨id, rk, 1, [⟨kk, 0, 0, m, .map [] 0, 0, 1, 0, [], []⟩], sl⟩ ++ F)))))
    (Holds.of (H6.nilEntry 0) (fun k => by simp +arith only [rowO_zero, HA, HB]) (fun k x => by simp only [rowO_zero, HA, HC]; grind only)) rfl (new_cells' (alloc_new_same _ _) rfl) rfl rfl (by omega) (by unfold maxRow; omega) (by unfold maxRow; omega) fun hk s5 H7 => ?_
  have w : wrapI .i64 ((0 : Int) + 1) = I 1 := by rw [wrap64 (by omega) (by omega)]; rfl
  simp -implicitDefEqProofs only [↓GP, GB, GL, Nat.reduceAdd, Nat.reduceSub, Nat.reduceEqDiff, Nat.reduceMul, Nat.reduceLeDiff, Int.reduceBNe, Int.reduceBEq, Nat.reduceLT, reduceCtorEq, w]
  rw [hLL]
  refine wp_round fun LL hLL => ?_
  simp -implicitDefEqProofs only [↓GP, GB, GL, Nat.reduceAdd, Nat.reduceSub, Nat.reduceEqDiff, Nat.reduceMul, Nat.reduceLeDiff, Int.reduceBNe, Int.reduceBEq, Nat.reduceLT, reduceCtorEq, l25_0, Int.reduceLT]
  refine k _ (s.next + 1) s.next (s1.next + 1) s1.next ⟨s4.next, 0, ⟨id, rk, 1, [⟨kk, 0, 0, m, .map [] 0, 0, 1, 0, [], []⟩], sl⟩, ⟨id', rk', false, 1, [⟨0, 0, 0, 1, 0, [], []⟩], []⟩, []⟩ hk (PairOk.init h2) rfl rfl (Holds.of (H7) (fun k => by simp +arith only [rowV_zero, rowO_zero, List.length_nil, List.flatMap_nil, HA, HB]) (fun k x => by simp only [rowV_zero, rowO_zero, List.length_nil, List.flatMap_nil, HA, HC]; grind only))
end
end Go.Proofs.Ytoldkemimhebaaa

set_option linter.unusedSimpArgs false
set_option linter.unusedVariables false
namespace Go.Proofs.Ytoldkemimhebaaa
open Go Go.IM
def c40 : IFn := ⟨19, [(6, none)],
  (.seq (.region [oa 6 (.mov (.c (.bool false)))] (kp 19 [0,1,2]))
  (.seq (.region [oa 7 (.mov (.t 0)), oa 8 (.call 24 [(.t 7)]), oa 9 (.mov (.t 8)), oc 10 (.mov (.t 1)) 9 ff, oc 11 (.lenSlice (.t 10)) 9 ff, oc 12 (.bin .gtr (.t 11) (ai 40)) 9 ff, oa 13 (.pick (.t 9) (.c (.bool true)) (.t 12)), oa 14 (.mov (.t 13)), oc 15 (.mov (.t 2)) 14 ff, oc 16 (.lenSlice (.t 15)) 14 ff, oc 17 (.bin .gtr (.t 16) (ai 20)) 14 ff, oa 18 (.pick (.t 14) (.c (.bool true)) (.t 17)), oa 6 (.mov (.t 18))] (kp 19 [6]))
  (sr 19 [6])))⟩
theorem F40 : shutF Try.prog 40 = some c40 := by kernel_rfl
def l42_0 : IC := (.seq (.seq (.seq (.region [oa 17 (.mov (.t 8)), oa 18 (.mov (.t 0)), oa 19 (.lenSlice (.t 18)), oa 20 (.bin .lss (.t 17) (.t 19))] (kp 35 [0,4,8,20]))
  (.cond (.t 20)
  (sk 35 [0,4,8])
  (sx 35 [4] 0)))
  (.seq (.block 1
  (.seq (.region [oa 23 (.mov (.t 4)), oa 24 (.indexAddr 1 (.t 23) (ai 0)), oa 25 (.load none (.t 24)), oa 26 (.mov (.t 0)), oa 27 (.mov (.t 8)), oa 28 (.indexAddr 11 (.t 26) (.t 27)), oa 29 (.load (some 11) (.t 28)), oa 30 (.call 26 [(.t 25), (.t 29)]), oa 31 (.un .not (.t 30))] (kp 35 [0,4,8,31]))
  (.cond (.t 31)
  (.seq (.region [oa 2 (.mov (.c (.ptr none))), oa 3 (.mov (.c (.bool false)))] (kp 35 [2,3]))
  (sr 35 [2,3]))
  (sk 35 [0,4,8]))))
  (.region [oa 21 (.mov (.t 8)), oa 22 (.bin .add (.t 21) (ai 1)), oa 8 (.mov (.t 22))] (kp 35 [0,4,8]))))
  (sk 35 [0,4,8]))
def j42_bbbb : IC := (.seq (.region [oa 32 (.mov (.t 4)), oa 33 (.indexAddr 1 (.t 32) (ai 0)), oa 34 (.load none (.t 33)), oa 2 (.mov (.t 34)), oa 3 (.mov (.c (.bool true)))] (kp 35 [2,3]))
  (sr 35 [2,3]))
def c42 : IFn := ⟨35, [(2, none), (3, none)],
  (.seq (.region [oa 2 (.mov (.c (.ptr none))), oa 3 (.mov (.c (.bool false)))] (kp 35 [0]))
  (.seq (.region [oa 10 (.call 25 [(ai 30), (ai 1)]), oa 9 (.mov (.t 10)), oa 11 (.extract (.t 9) 0), oa 12 (.extract (.t 9) 1), oa 13 (.extract (.t 9) 2), oa 14 (.extract (.t 9) 3), oa 4 (.mov (.t 11)), oa 5 (.mov (.t 12)), oa 6 (.mov (.t 13)), oa 7 (.mov (.t 14))] (kp 35 [0,4,7]))
  (.seq (.seq (.region [oa 15 (.mov (.t 7)), oa 16 (.un .not (.t 15))] (kp 35 [0,4,16]))
  (.cond (.t 16)
  (.seq (.region [oa 2 (.mov (.c (.ptr none))), oa 3 (.mov (.c (.bool false)))] (kp 35 [2,3]))
  (sr 35 [2,3]))
  (sk 35 [0,4])))
  (.seq (.seq (.region [oa 8 (.mov (ai 0))] (kp 35 [0,4,8]))
  (.block 0
  (.seq (sk 35 [0,4,8])
  (.loop l42_0))))
  j42_bbbb))))⟩
theorem F42 : shutF Try.prog 42 = some c42 := by kernel_rfl
def l43_0 : IC := (.seq (.seq (.seq (.region [oa 9 (.mov (.t 8)), oa 10 (.mov (.t 1)), oa 11 (.lenSlice (.t 10)), oa 12 (.bin .lss (.t 9) (.t 11))] (kp 50 [0,1,2,7,8,12]))
  (.cond (.t 12)
  (sk 50 [0,1,2,7,8])
  (sx 50 [2,7] 0)))
  (.seq (.block 1
  (.seq (.region [oa 15 (.mov (.t 1)), oa 16 (.mov (.t 8)), oa 17 (.indexAddr 1 (.t 15) (.t 16)), oa 18 (.load none (.t 17)), oa 19 (.bin .geq (.t 18) (ai 0)), oa 20 (.mov (.t 19)), oc 21 (.mov (.t 0)) 20 tt, oc 22 (.nilCheck (.t 21)) 20 tt, oc 23 (.fieldAddr 2 (.t 22)) 20 tt, oc 24 (.load none (.t 23)) 20 tt, oc 25 (.lenSlice (.t 24)) 20 tt, oc 26 (.bin .gtr (.t 25) (ai 0)) 20 tt, oa 27 (.pick (.t 20) (.t 26) (.c (.bool false)))] (kp 50 [0,1,2,7,8,27]))
  (.cond (.t 27)
  (.region [oa 28 (.mov (.t 7)), oa 29 (.mov (.t 0)), oa 30 (.nilCheck (.t 29)), oa 31 (.fieldAddr 2 (.t 30)), oa 32 (.load none (.t 31)), oa 33 (.mov (.t 1)), oa 34 (.mov (.t 8)), oa 35 (.indexAddr 1 (.t 33) (.t 34)), oa 36 (.load none (.t 35)), oa 37 (.mov (.t 0)), oa 38 (.nilCheck (.t 37)), oa 39 (.fieldAddr 2 (.t 38)), oa 40 (.load none (.t 39)), oa 41 (.lenSlice (.t 40)), oa 42 (.bin .rem (.t 36) (.t 41)), oa 43 (.indexAddr 2 (.t 32) (.t 42)), oa 44 (.load (some 2) (.t 43)), oa 45 (.buildSlice 1 [(.int .i64 (0)), (.int .i64 (0))] [(0, 2, (.t 44))]), oa 46 (.append 2 16 (.t 28) (.t 45)), oa 7 (.mov (.t 46))] (kp 50 [0,1,2,7,8]))
  (sk 50 [0,1,2,7,8]))))
  (.region [oa 13 (.mov (.t 8)), oa 14 (.bin .add (.t 13) (ai 1)), oa 8 (.mov (.t 14))] (kp 50 [0,1,2,7,8]))))
  (sk 50 [0,1,2,7,8]))
def j43_bbb : IC := (.seq (.region [oa 47 (.mov (.t 7)), oa 48 (.mov (.t 2)), oa 49 (.append 2 16 (.t 47) (.t 48)), oa 6 (.mov (.t 49))] (kp 50 [6]))
  (sr 50 [6]))
def c43 : IFn := ⟨50, [(6, none)],
  (.seq (.region [oa 6 (.mov (.c (.slice none 0 (some 0))))] (kp 50 [0,1,2]))
  (.seq (.region [oa 7 (.mov (.c (.slice none 0 (some 0))))] (kp 50 [0,1,2,7]))
  (.seq (.seq (.region [oa 8 (.mov (ai 0))] (kp 50 [0,1,2,7,8]))
  (.block 0
  (.seq (sk 50 [0,1,2,7,8])
  (.loop l43_0))))
  j43_bbb)))⟩
theorem F43 : shutF Try.prog 43 = some c43 := by kernel_rfl
section
variable {o : Nat → Option O} {s : St} {C F : Ch} {Q : V → St → Prop} {p r q t : Nat} {u : List Bool} {others : List Nat} {G : PairG}
set_option maxRecDepth 10000
set_option maxHeartbeats 4000000
structure OldI (o : Nat → Option O) (v : V) (l : List Int) : Prop where
  len : lenV v = some (I l.length)
  get : ∀ (i : Nat) (h : i < l.length), ∃ a, ixV 1 v (I (i : Nat)) = some (.ptr (some a)) ∧ ∀ s : St, s.old = o → loadV none (.ptr (some a)) s = some (I l[i])
structure OldW (o : Nat → Option O) (v : V) (l : List (Int × Int)) : Prop where
  len : lenV v = some (I l.length)
  new : ∀ s : St, s.old = o → newCells s 2 v = some (l.flatMap encW, l.length)
theorem oldW_nil : OldW o (.slice none 0 (some 0)) [] := ⟨rfl, fun _ _ => rfl⟩
def longR (l : List (ActG × List Bool)) (n m : Nat) : Bool := longB l || decide ((n : Int) > 40) || decide ((m : Int) > 20)
theorem s40 {v w1 w2 : V} {l : List (ActG × List Bool)} {n m : Nat} (hs : s.old = o) (h : ActsAt o v l) (hl : l.length < 2 ^ 61) (h1 : lenV w1 = some (I n)) (h2 : lenV w2 = some (I m)) :
    call PF 40 [v, w1, w2] s = some (.bool (longR l n m), s) := by
  have e := s24 hs h hl
  unfold longR
  cases hb : longB l with
  | true =>
    rw [hb] at e
    rw [call_run F40]; simp -implicitDefEqProofs only [↓GP, GB, GL, Nat.reduceAdd, Nat.reduceSub, Nat.reduceEqDiff, Nat.reduceMul, Nat.reduceLeDiff, Int.reduceBNe, Int.reduceBEq, Nat.reduceLT, reduceCtorEq, c40, e, Bool.true_or]
  | false =>
    rw [hb] at e
    by_cases hn : (n : Int) > 40
    · rw [call_run F40]; simp -implicitDefEqProofs only [↓GP, GB, GL, Nat.reduceAdd, Nat.reduceSub, Nat.reduceEqDiff, Nat.reduceMul, Nat.reduceLeDiff, Int.reduceBNe, Int.reduceBEq, Nat.reduceLT, reduceCtorEq, c40, e, h1, hn, Bool.true_or, Bool.or_true, Bool.false_or, decide_true]
    · by_cases hm : (m : Int) > 20
      · rw [call_run F40]; simp -implicitDefEqProofs only [↓GP, GB, GL, Nat.reduceAdd, Nat.reduceSub, Nat.reduceEqDiff, Nat.reduceMul, Nat.reduceLeDiff, Int.reduceBNe, Int.reduceBEq, Nat.reduceLT, reduceCtorEq, c40, e, h1, hn, h2, hm, Bool.true_or, Bool.or_true, Bool.false_or, decide_true, decide_false]
      · rw [call_run F40]; simp -implicitDefEqProofs only [↓GP, GB, GL, Nat.reduceAdd, Nat.reduceSub, Nat.reduceEqDiff, Nat.reduceMul, Nat.reduceLeDiff, Int.reduceBNe, Int.reduceBEq, Nat.reduceLT, reduceCtorEq, c40, e, h1, hn, h2, hm, Bool.true_or, Bool.or_true, Bool.false_or, decide_true, decide_false]
theorem made_loop {hk : Nat} {v : V} {l : List (ActG × List Bool)} {K : Kt} (hA : ActsAt o v l) (hl : l.length ≤ 150) :
    ∀ (m i : Nat) (s : St) (u : List Bool) (G : PairG), i + m = l.length → PairOk u others G → G.ws.length ≤ 1000 * i → Holds o s (World p r q t u G ((hk, rowO 1 1 [ptrN G.id]) :: F)) →
    (∀ s' u' G', PairOk u' others G' → G'.id = G.id → u'.length = u.length → G'.hp.lives ≤ G.hp.lives + m → G'.ws.length ≤ 1000 * l.length → Holds o s' (World p r q t u' G' ((hk, rowO 1 1 [ptrN G.id]) :: F)) → WP (K (.exit 0) (sp 35 [(4, rowV hk 1)]) s') Q) →
    WP (loop PF (.loop l42_0) (sp 35 [(0, v), (4, rowV hk 1), (8, I i)]) s K) Q
  | 0, i, s, u, G, hi, h, hw, H, k => by
    have hlt : ¬ ((i : Int) < (l.length : Int)) := by omega
    refine wp_round fun LL hLL => ?_
    simp -implicitDefEqProofs only [↓GP, GB, GL, Nat.reduceAdd, Nat.reduceSub, Nat.reduceEqDiff, Nat.reduceMul, Nat.reduceLeDiff, Int.reduceBNe, Int.reduceBEq, Nat.reduceLT, reduceCtorEq, l42_0, hA.len, hlt]
    exact k s u G h rfl rfl (by omega) (by omega) H
  | m + 1, i, s, u, G, hi, h, hw, H, k => by
    have hlt : ((i : Int) < (l.length : Int)) := by omega
    have hi' : i < l.length := by omega
    obtain ⟨ad, a1, a2⟩ := hA.get i hi'
    have a3 := (a2 s H.old).1
    have mi := List.getElem_mem hi'
    have fh := H.mem (World.fr (List.mem_cons_self ..) : (hk, some (.cells [ptrN G.id] (some 1))) ∈ World p r q t u G ((hk, rowO 1 1 [ptrN G.id]) :: F))
    have hix := ix_row (sz := 1) (k := hk) (n := 1) (i := 0) (kk := .i64) (by omega)
    have hw1 := wrap_add1 (a := i) (by omega)
    simp only [Int.natCast_zero, Nat.zero_mul] at hix
    refine wp_round fun LL hLL => ?_
    simp -implicitDefEqProofs only [↓GP, GB, GL, Nat.reduceAdd, Nat.reduceSub, Nat.reduceEqDiff, Nat.reduceMul, Nat.reduceLeDiff, Int.reduceBNe, Int.reduceBEq, Nat.reduceLT, reduceCtorEq, l42_0, hA.len, hlt, hix, fh, a1, a3]
    refine wp_in (s26 (bs := l[i].2) l[i].1 (hA.d _ mi).1 (hA.some_ _ mi) h (by omega) H fun s1 u1 G1 n1 h1 => ?_)
    simp -implicitDefEqProofs only [↓GP, GB, GL, Nat.reduceAdd, Nat.reduceSub, Nat.reduceEqDiff, Nat.reduceMul, Nat.reduceLeDiff, Int.reduceBNe, Int.reduceBEq, Nat.reduceLT, reduceCtorEq, hw1]
    rw [hLL]
    refine made_loop hA hl m (i + 1) s1 u1 G1 (by omega) n1.ok (by have := n1.ws; omega) (by rw [n1.id]; exact h1) fun s2 u2 G2 ok2 e1 e2 e3 e4 h2 => k s2 u2 G2 ok2 (e1.trans n1.id) (e2.trans n1.ul) (by have := n1.lv; omega) e4 (by rw [← n1.id]; exact h2)
theorem s42 {v : V} {l : List (ActG × List Bool)} (hA : ActsAt o v l) (hl : l.length ≤ 150) (H : Holds o s F)
    (k : ∀ s' p r q t u' G', PairOk u' [] G' → u'.length = 30 → G'.hp.lives ≤ 151 → G'.ws.length ≤ 150000 → Holds o s' (World p r q t u' G' F) → Q (.tuple [ptrN G'.id, .bool true]) s') : WP (call PF 42 [v] s) Q := by
  rw [call_run F42]; simp -implicitDefEqProofs only [↓GP, GB, GL, Nat.reduceAdd, Nat.reduceSub, Nat.reduceEqDiff, Nat.reduceMul, Nat.reduceLeDiff, Int.reduceBNe, Int.reduceBEq, Nat.reduceLT, reduceCtorEq, c42]
  refine wp_in (s25 (n := 30) (by omega) (by omega) H fun s1 p r q t G hk ok hws hlv h1 => ?_)
  simp -implicitDefEqProofs only [↓GP, GB, GL, Nat.reduceAdd, Nat.reduceSub, Nat.reduceEqDiff, Nat.reduceMul, Nat.reduceLeDiff, Int.reduceBNe, Int.reduceBEq, Nat.reduceLT, reduceCtorEq]
  have h2 : Holds o s1 (World p r q t (List.replicate 30 false) G ((hk, rowO 1 1 [ptrN G.id]) :: F)) := (Holds.of (h1) (fun k => by simp +arith only [HA, HB]) (fun k x => by simp only [HA, HC]; grind only))
  have := made_loop (K := blockK 0 (seqK (loop PF) (call PF) j42_bbbb (finR [(2, none), (3, none)]))) (Q := Q) hA hl l.length 0 s1 (List.replicate 30 false) G (by omega) ok (by rw [hws]; simp) h2
  simp only [Int.natCast_zero] at this
  refine this fun s2 u2 G2 ok2 e1 e2 e3 e4 h3 => ?_
  have fh := h3.mem (World.fr (List.mem_cons_self ..) : (hk, some (.cells [ptrN G.id] (some 1))) ∈ World p r q t u2 G2 ((hk, rowO 1 1 [ptrN G.id]) :: F))
  have hix := ix_row (sz := 1) (k := hk) (n := 1) (i := 0) (kk := .i64) (by omega)
  simp only [Int.natCast_zero, Nat.zero_mul] at hix
  simp -implicitDefEqProofs only [↓GP, GB, GL, Nat.reduceAdd, Nat.reduceSub, Nat.reduceEqDiff, Nat.reduceMul, Nat.reduceLeDiff, Int.reduceBNe, Int.reduceBEq, Nat.reduceLT, reduceCtorEq, j42_bbbb, fh, hix]
  rw [← e1]
  have h4 : Holds o s2 ((hk, rowO 1 1 [ptrN G.id]) :: World p r q t u2 G2 F) := (Holds.of (h3) (fun k => by simp +arith only [HA, HB]) (fun k x => by simp only [HA, HC]; grind only))
  exact k s2 p r q t u2 G2 ok2 (e2.trans (by simp)) (by omega) (by omega) h4.tl
def pickL (ws : List (Int × Int)) (is : List Int) : List (Int × Int) := is.filterMap fun x => if 0 ≤ x then ws[x.toNat % ws.length]? else none
theorem roots_loop {id wk : Nat} {hv rv v v2 : V} {is : List Int} {ws : List (Int × Int)} {K : Kt} (hI : OldI o v is) (hl : is.length ≤ 40) (hws : ws.length ≤ 1000000)
    (mid : (id, some (.cells [hv, rv, rowV wk ws.length] none)) ∈ C) (mw : (wk, rowO 2 ws.length (ws.flatMap encW)) ∈ C) :
    ∀ (m i k : Nat) (acc : List (Int × Int)) (s : St), i + m = is.length → acc.length ≤ i → Holds o s ((k, rowO 2 acc.length (acc.flatMap encW)) :: C) →
    (∀ s' k', Holds o s' ((k', rowO 2 (acc ++ pickL ws (is.drop i)).length ((acc ++ pickL ws (is.drop i)).flatMap encW)) :: C) → WP (K (.exit 0) (sp 50 [(2, v2), (7, rowV k' (acc ++ pickL ws (is.drop i)).length)]) s') Q) →
    WP (loop PF (.loop l43_0) (sp 50 [(0, ptrN id), (1, v), (2, v2), (7, rowV k acc.length), (8, I i)]) s K) Q
  | 0, i, k, acc, s, hi, ha, H, q => by
    have hlt : ¬ ((i : Int) < (is.length : Int)) := by omega
    rw [List.drop_eq_nil_of_le (by omega), show pickL ws [] = [] from rfl, List.append_nil] at q
    refine wp_round fun LL hLL => ?_
    simp -implicitDefEqProofs only [↓GP, GB, GL, Nat.reduceAdd, Nat.reduceSub, Nat.reduceEqDiff, Nat.reduceMul, Nat.reduceLeDiff, Int.reduceBNe, Int.reduceBEq, Nat.reduceLT, reduceCtorEq, l43_0, hI.len, hlt]
    exact q s k H
  | m + 1, i, k, acc, s, hi, ha, H, q => by
    have hlt : ((i : Int) < (is.length : Int)) := by omega
    have hi' : i < is.length := by omega
    obtain ⟨ad, a1, a2⟩ := hI.get i hi'
    have a3 := a2 s H.old
    have hw1 := wrap_add1 (a := i) (by omega)
    have f := H.mem (List.mem_cons_of_mem _ mid)
    rw [List.drop_eq_getElem_cons hi', show ∀ x l, pickL ws (x :: l) = (if 0 ≤ x then ws[x.toNat % ws.length]? else none).toList ++ pickL ws l from fun x l => by
      unfold pickL; rw [List.filterMap_cons]; cases (if 0 ≤ x then ws[x.toNat % ws.length]? else none) <;> rfl] at q
    generalize is[i] = x at q a3
    by_cases hx : 0 ≤ x
    · have hx' : (x ≥ 0) := hx
      by_cases hn : 0 < ws.length
      · have hn' : ((ws.length : Int) > 0) := by omega
        have hm : x.toNat % ws.length < ws.length := Nat.mod_lt _ hn
        have e1 := ix_row (sz := 2) (k := wk) (n := ws.length) (i := x.toNat % ws.length) (kk := .i64) hm
        have e2 : rowO 2 ws.length (ws.flatMap encW) = some (.cells (ws.flatMap encW) (some 2)) := by unfold rowO; rw [if_neg (by omega)]
        have fw := H.mem (List.mem_cons_of_mem _ (e2 ▸ mw))
        have e3 := ldN_tab (enc := encW) encW_len ws (some 2) (List.getElem?_eq_getElem hm)
        rw [if_pos hx, List.getElem?_eq_getElem hm, Option.toList_some, ← List.append_assoc] at q
        refine wp_round fun LL hLL => ?_
        simp -implicitDefEqProofs only [↓GP, GB, GL, Nat.reduceAdd, Nat.reduceSub, Nat.reduceEqDiff, Nat.reduceMul, Nat.reduceLeDiff, Int.reduceBNe, Int.reduceBEq, Nat.reduceLT, reduceCtorEq, l43_0, hI.len, hlt, a1, a3, hx', hn', f, rem_i64 hx hn, e1, fw, e3, encW]
        refine wp_append (cs := acc.flatMap encW) ((H.alloc _).r1) (by rw [tab_len encW_len]) (new_cells' (alloc_new_same _ _) rfl) rfl rfl (by omega) (by unfold maxRow; omega) (by unfold maxRow; omega) fun k' s1 h1 => ?_
        simp -implicitDefEqProofs only [↓GP, GB, GL, Nat.reduceAdd, Nat.reduceSub, Nat.reduceEqDiff, Nat.reduceMul, Nat.reduceLeDiff, Int.reduceBNe, Int.reduceBEq, Nat.reduceLT, reduceCtorEq, hw1]
        rw [hLL]
        have hl1 : (acc ++ [ws[x.toNat % ws.length]]).length = acc.length + 1 := by simp
        have := roots_loop (K := K) (v2 := v2) hI hl hws mid mw m (i + 1) k' (acc ++ [ws[x.toNat % ws.length]]) s1 (by omega) (by simp; omega) (by
          have h2 := h1.r1.tl
          rw [List.flatMap_append]; simpa [encW] using h2) q
        rw [hl1] at this
        exact this
      · have hn' : ¬ ((ws.length : Int) > 0) := by omega
        have hz : ws = [] := List.length_eq_zero_iff.1 (by omega)
        rw [if_pos hx, show ws[x.toNat % ws.length]? = none by rw [hz]; rfl, Option.toList_none, List.nil_append] at q
        refine wp_round fun LL hLL => ?_
        simp -implicitDefEqProofs only [↓GP, GB, GL, Nat.reduceAdd, Nat.reduceSub, Nat.reduceEqDiff, Nat.reduceMul, Nat.reduceLeDiff, Int.reduceBNe, Int.reduceBEq, Nat.reduceLT, reduceCtorEq, l43_0, hI.len, hlt, a1, a3, hx', hn', f, hw1]
        rw [hLL]
        exact roots_loop hI hl hws mid mw m (i + 1) k acc s (by omega) (by omega) H q
    · have hx' : ¬ (x ≥ 0) := hx
      rw [if_neg hx, Option.toList_none, List.nil_append] at q
      refine wp_round fun LL hLL => ?_
      simp -implicitDefEqProofs only [↓GP, GB, GL, Nat.reduceAdd, Nat.reduceSub, Nat.reduceEqDiff, Nat.reduceMul, Nat.reduceLeDiff, Int.reduceBNe, Int.reduceBEq, Nat.reduceLT, reduceCtorEq, l43_0, hI.len, hlt, a1, a3, hx', hw1]
      rw [hLL]
      exact roots_loop hI hl hws mid mw m (i + 1) k acc s (by omega) (by omega) H q
theorem s43 {id wk : Nat} {hv rv v v2 : V} {is : List Int} {ws os : List (Int × Int)} (hI : OldI o v is) (hl : is.length ≤ 40) (hO : OldW o v2 os) (hol : os.length ≤ 20) (hws : ws.length ≤ 1000000)
    (mid : (id, some (.cells [hv, rv, rowV wk ws.length] none)) ∈ C) (mw : (wk, rowO 2 ws.length (ws.flatMap encW)) ∈ C) (H : Holds o s C)
    (q : ∀ s' k', Holds o s' ((k', rowO 2 (pickL ws is ++ os).length ((pickL ws is ++ os).flatMap encW)) :: C) → Q (rowV k' (pickL ws is ++ os).length) s') : WP (call PF 43 [ptrN id, v, v2] s) Q := by
  rw [call_run F43]; simp -implicitDefEqProofs only [↓GP, GB, GL, Nat.reduceAdd, Nat.reduceSub, Nat.reduceEqDiff, Nat.reduceMul, Nat.reduceLeDiff, Int.reduceBNe, Int.reduceBEq, Nat.reduceLT, reduceCtorEq, c43]
  have h0 := H.nilEntry 0
  have hpl : (pickL ws is).length ≤ 40 := by unfold pickL; exact Nat.le_trans (List.length_filterMap_le ..) hl
  have := roots_loop (K := blockK 0 (seqK (loop PF) (call PF) j43_bbb (finR [(6, none)]))) (Q := Q) (v2 := v2) hI hl hws mid mw is.length 0 0 [] s (by omega) (by simp) h0
  simp only [List.drop_zero, List.nil_append, List.length_nil, Int.natCast_zero] at this
  refine this fun s1 k1 h1 => ?_
  simp -implicitDefEqProofs only [↓GP, GB, GL, Nat.reduceAdd, Nat.reduceSub, Nat.reduceEqDiff, Nat.reduceMul, Nat.reduceLeDiff, Int.reduceBNe, Int.reduceBEq, Nat.reduceLT, reduceCtorEq, j43_bbb]
  refine wp_append (cs := (pickL ws is).flatMap encW) h1 (by rw [tab_len encW_len]) (hO.new s1 h1.old) (by rw [tab_len encW_len]) (by rw [List.all_flatMap]; simp [encW, V.one]) (by omega) (by unfold maxRow; omega) (by unfold maxRow; omega) fun k2 s2 h2 => ?_
  simp -implicitDefEqProofs only [↓GP, GB, GL, Nat.reduceAdd, Nat.reduceSub, Nat.reduceEqDiff, Nat.reduceMul, Nat.reduceLeDiff, Int.reduceBNe, Int.reduceBEq, Nat.reduceLT, reduceCtorEq]
  have e := q s2 k2 (by rw [List.length_append, List.flatMap_append]; exact h2)
  rw [List.length_append] at e
  exact e
end
end Go.Proofs.Ytoldkemimhebaaa

set_option linter.unusedSimpArgs false
set_option linter.unusedVariables false
namespace Go.IM
section
variable {M : LT × CallT} {ps : List Nat} {a b : IC} {e : Env} {k : Nat} {t : St} {Q : V → St → Prop}
theorem wp_roundI {args : List V} (h : t.new k = some (.loop .ready)) (hl : args.length = ps.length) (q : WP (go M.1 M.2 a (putAll e ps args) t (roundMid M b k)) Q) : WP (roundI M ps a b e k args t) Q := by
  unfold roundI; rw [if_pos hl, h]; exact q
theorem wp_roundMid (h : t.new k = some (.loop .ready)) (q : WP (go M.1 M.2 b e (t.set k (.loop .busy)) (roundEnd k)) Q) : WP (roundMid M b k .normal e t) Q := by
  simp only [roundMid, h]; exact q
theorem wp_roundEnd {x : Xt} (h : t.new k = some (.loop .busy)) (q : Q (.bool x.off) (t.set k (.loop (endSt x)))) : WP (roundEnd k x e t) Q := by
  unfold roundEnd; rw [h]; exact ⟨_, _, rfl, q⟩
theorem wp_rangeEnd {K : Kt} {v : V} (h : t.new k = some (.loop .ready)) (q : WP (K .normal e (t.kill k)) Q) : WP (rangeEnd k e K (v, t)) Q := by
  unfold rangeEnd; rw [h]; exact q
theorem putAll_one (p : Nat) (v : V) : putAll e [p] [v] = e.set p v := rfl
end
end Go.IM
namespace Go.Proofs.Ytoldkemimhebaaa
open Go Go.IM
def c118 : IFn := ⟨25, [(4, none)],
  (.seq (.region [oa 3 (.box (.t 1)), oa 4 (.mov (.c (.bool false)))] (kp 25 [0,3]))
  (.seq (.region [oa 9 (.mov (.t 0)), oa 10 (.nilCheck (.t 9)), oa 11 (.fieldAddr 0 (.t 10)), oa 12 (.load none (.t 11)), oa 13 (.load (some 2) (.t 3)), oa 14 (.call 30 [(.t 12), (.t 13)]), oa 8 (.mov (.t 14)), oa 15 (.extract (.t 8) 0), oa 16 (.extract (.t 8) 1), oa 17 (.extract (.t 8) 2), oa 5 (.mov (.t 15)), oa 6 (.mov (.t 16)), oa 7 (.mov (.t 17))] (kp 25 [3,7]))
  (.seq (.region [oa 18 (.fieldAddr 1 (.t 3)), oa 19 (.load none (.t 18)), oa 20 (.bin .gtr (.t 19) (ai 0)), oa 21 (.mov (.t 20)), oc 22 (.mov (.t 7)) 21 tt, oc 23 (.bin .eql (.t 22) (ai 0)) 21 tt, oa 24 (.pick (.t 21) (.t 23) (.c (.bool false))), oa 4 (.mov (.t 24))] (kp 25 [4]))
  (sr 25 [4]))))⟩
theorem F118 : shutF Try.prog 118 = some c118 := by kernel_rfl
def c115 : IFn := ⟨31, [],
  (.seq (.region [oa 3 (.box (.t 1))] (kp 31 [0,3]))
  (.seq (.region [oa 4 (.mov (.t 0)), oa 5 (.nilCheck (.t 4)), oa 6 (.fieldAddr 2 (.t 5)), oa 7 (.load none (.t 6)), oa 8 (.load (some 2) (.t 3)), oa 9 (.lookup (.agg [.i, .i]) (.bool false) false (.t 7) (.t 8)), oa 10 (.un .not (.t 9)), oa 11 (.mov (.t 10)), oc 12 (.mov (.t 0)) 11 tt, oc 13 (.load (some 2) (.t 3)) 11 tt, oc 14 (.call 118 [(.t 12), (.t 13)]) 11 tt, oa 15 (.pick (.t 11) (.t 14) (.c (.bool false)))] (kp 31 [0,3,15]))
  (.cond (.t 15)
  (.seq (.region [oa 16 (.mov (.t 0)), oa 17 (.nilCheck (.t 16)), oa 18 (.fieldAddr 2 (.t 17)), oa 19 (.load none (.t 18)), oa 20 (.load (some 2) (.t 3)), ob (.mapSet (.agg [.i, .i]) (.t 19) (.t 20) (.c (.bool true)))] (kp 31 [0,3]))
  (.region [oa 21 (.mov (.t 0)), oa 22 (.mov (.t 0)), oa 23 (.nilCheck (.t 22)), oa 24 (.fieldAddr 1 (.t 23)), oa 25 (.load none (.t 24)), oa 26 (.load (some 2) (.t 3)), oa 27 (.buildSlice 1 [(.int .i64 (0)), (.int .i64 (0))] [(0, 2, (.t 26))]), oa 28 (.append 2 16 (.t 25) (.t 27)), oa 29 (.nilCheck (.t 21)), oa 30 (.fieldAddr 1 (.t 29)), ob (.store 1 (.t 30) (.t 28))] (kp 31 [])))
  (sk 31 []))))⟩
theorem F115 : shutF Try.prog 115 = some c115 := by kernel_rfl
def c93 : IFn := ⟨6, [(4, none)],
  (.seq (.region [oa 2 (.box (.t 0)), oa 3 (.box (.t 1)), oa 4 (.mov (.c .nilFunc))] (kp 6 [2,3]))
  (.seq (.region [oa 5 (.mkFunc 116 [] [(.t 2), (.t 3)]), oa 4 (.mov (.t 5))] (kp 6 [4]))
  (sr 6 [4])))⟩
theorem F93 : shutF Try.prog 93 = some c93 := by kernel_rfl
def l116_0 : IC := (.seq (.seq (.region [oa 19 (.bin .lss (.t 18) (.t 17))] (kp 37 [0,1,2,17,18,19]))
  (.seq (.cond (.t 19)
  (sk 37 [0,1,2,17,18])
  (sx 37 [] 0))
  (.seq (.block 1
  (.seq (.region [oa 20 (.mov (.t 18)), oa 7 (.mov (.t 20))] (kp 37 [0,1,2,7,17,18]))
  (.seq (.region [oa 22 (.load none (.t 1)), oa 23 (.load (some 2) (.t 2)), oa 24 (.mov (.t 7)), oa 25 (.call 67 [(.t 22), (.t 23), (.t 24)]), oa 21 (.mov (.t 25)), oa 26 (.extract (.t 21) 0), oa 27 (.extract (.t 21) 1), oa 8 (.alloc [(.int .i64 (0)), (.int .i64 (0))]), ob (.store 2 (.t 8) (.t 26)), oa 9 (.mov (.t 27))] (kp 37 [0,1,2,8,9,17,18]))
  (.seq (.region [oa 28 (.mov (.t 9)), oa 29 (.bin .neq (.t 28) (ai 0)), oa 30 (.mov (.t 29)), oc 31 (.mov (.t 0)) 30 ff, oc 32 (.load (some 2) (.t 8)) 30 ff, oc 33 (.callv (.t 31) [(.t 32)]) 30 ff, oc 34 (.un .not (.t 33)) 30 ff, oa 35 (.pick (.t 30) (.c (.bool true)) (.t 34))] (kp 37 [0,1,2,17,18,35]))
  (.cond (.t 35)
  (sr 37 [])
  (sk 37 [0,1,2,17,18]))))))
  (.region [oa 36 (.bin .add (.t 18) (ai 1)), oa 18 (.mov (.t 36))] (kp 37 [0,1,2,17,18])))))
  (sk 37 [0,1,2,17,18]))
def c116 : IFn := ⟨37, [],
  (.seq (.region [oa 11 (.load none (.t 1)), oa 12 (.load (some 2) (.t 2)), oa 13 (.call 30 [(.t 11), (.t 12)]), oa 10 (.mov (.t 13)), oa 14 (.extract (.t 10) 0), oa 15 (.extract (.t 10) 1), oa 16 (.extract (.t 10) 2), oa 4 (.mov (.t 14)), oa 5 (.mov (.t 15)), oa 6 (.mov (.t 16))] (kp 37 [0,1,2,5]))
  (.seq (.region [oa 17 (.mov (.t 5)), oa 18 (.mov (ai 0))] (kp 37 [0,1,2,17,18]))
  (.block 0
  (.seq (sk 37 [0,1,2,17,18])
  (.loop l116_0)))))⟩
theorem F116 : shutF Try.prog 116 = some c116 := by kernel_rfl
def c89 : IFn := ⟨6, [(2, none)],
  (.seq (.region [oa 2 (.mov (.c (.bool false)))] (kp 6 [0]))
  (.seq (.region [oa 3 (.mov (.t 0)), oa 4 (.call 27 [(.t 3)]), oa 5 (.bin .eql (.t 4) (ai 0)), oa 2 (.mov (.t 5))] (kp 6 [2]))
  (sr 6 [2])))⟩
theorem F89 : shutF Try.prog 89 = some c89 := by kernel_rfl
section
variable {o : Nat → Option O} {s : St} {C F : Ch} {Q : V → St → Prop} {p : Nat}
set_option maxRecDepth 10000
set_option maxHeartbeats 4000000
structure Look (C : Ch) (p : Nat) (hp : PHeap) : Prop where
  hin : In C p hp
  ne : hp.regs ≠ []
  len : hp.regs.length ≤ 100000
  ok : ∀ g ∈ hp.regs, g.ok
  ws : ∀ g ∈ hp.regs, ∀ x ∈ g.objs, x.b.ws.length ≤ 31
theorem Look.cons {hp : PHeap} (h : Look C p hp) (x : Nat × Option O) : Look (x :: C) p hp := ⟨h.hin.cons x, h.ne, h.len, h.ok, h.ws⟩
theorem Look.mono {D : Ch} {hp : PHeap} (h : Look C p hp) (hs : ∀ x ∈ C, x ∈ D) : Look D p hp := ⟨h.hin.mono hs, h.ne, h.len, h.ok, h.ws⟩
def thereB (hp : PHeap) (w : Int × Int) : Bool := decide (0 < w.2) && (pfind w.1 w.2 hp.regs).isSome
theorem s118 {hp : PHeap} {t : Nat} {lv mv : V} {w : Int × Int} (H : Holds o s C) (h : Look C p hp) (mt : (t, some (.cells [ptrN hp.id, lv, mv] none)) ∈ C)
    (q : ∀ s', Holds o s' C → Q (.bool (thereB hp w)) s') : WP (call PF 118 [ptrN t, .agg (encW w)] s) Q := by
  have h1 := H.alloc (.cells (encW w) none)
  have f := H.mem mt
  have f0 := h1.g0
  by_cases hL : 0 < w.2
  · have hL' : (w.2 > 0) := hL
    cases hx : pfind w.1 w.2 hp.regs with
    | some x =>
      rw [call_run F118]; simp -implicitDefEqProofs only [↓GP, GB, GL, Nat.reduceAdd, Nat.reduceSub, Nat.reduceEqDiff, Nat.reduceMul, Nat.reduceLeDiff, Int.reduceBNe, Int.reduceBEq, Nat.reduceLT, reduceCtorEq, c118, f, encW]
      refine wp_in (s30 h1 (h.cons _).hin h.ne h.len h.ok hL hx fun s1 h2 => ?_)
      have f1 := h2.g0
      simp -implicitDefEqProofs only [↓GP, GB, GL, Nat.reduceAdd, Nat.reduceSub, Nat.reduceEqDiff, Nat.reduceMul, Nat.reduceLeDiff, Int.reduceBNe, Int.reduceBEq, Nat.reduceLT, reduceCtorEq, f1, encW, hL', Int.reduceBEq]
      have := q s1 h2.tl
      unfold thereB at this
      rw [hx] at this
      simpa [hL] using this
    | none =>
      rw [call_run F118]; simp -implicitDefEqProofs only [↓GP, GB, GL, Nat.reduceAdd, Nat.reduceSub, Nat.reduceEqDiff, Nat.reduceMul, Nat.reduceLeDiff, Int.reduceBNe, Int.reduceBEq, Nat.reduceLT, reduceCtorEq, c118, f, encW]
      refine wp_in (s30_err (err := 80) h1 (.inr ⟨hp, p, rfl, (h.cons _).hin, h.ne, h.len, h.ok, .inr ⟨rfl, hL, rfl, hx⟩⟩) fun s1 h2 => ?_)
      have f1 := h2.g0
      simp -implicitDefEqProofs only [↓GP, GB, GL, Nat.reduceAdd, Nat.reduceSub, Nat.reduceEqDiff, Nat.reduceMul, Nat.reduceLeDiff, Int.reduceBNe, Int.reduceBEq, Nat.reduceLT, reduceCtorEq, f1, encW, hL', Int.reduceBEq]
      have := q s1 h2.tl
      unfold thereB at this
      rw [hx] at this
      simpa [hL] using this
  · have hL' : ¬ (w.2 > 0) := hL
    rw [call_run F118]; simp -implicitDefEqProofs only [↓GP, GB, GL, Nat.reduceAdd, Nat.reduceSub, Nat.reduceEqDiff, Nat.reduceMul, Nat.reduceLeDiff, Int.reduceBNe, Int.reduceBEq, Nat.reduceLT, reduceCtorEq, c118, f, encW]
    refine wp_in (s30_err (err := 2) h1 (.inr ⟨hp, p, rfl, (h.cons _).hin, h.ne, h.len, h.ok, .inl ⟨rfl, fun hh => hL hh.1⟩⟩) fun s1 h2 => ?_)
    have f1 := h2.g0
    simp -implicitDefEqProofs only [↓GP, GB, GL, Nat.reduceAdd, Nat.reduceSub, Nat.reduceEqDiff, Nat.reduceMul, Nat.reduceLeDiff, Int.reduceBNe, Int.reduceBEq, Nat.reduceLT, reduceCtorEq, f1, encW, hL', Int.reduceBEq]
    have := q s1 h2.tl
    unfold thereB at this
    simpa [hL] using this
def encA (w : Int × Int) : V := .agg (encW w)
theorem keyA : KeyOk (.agg [.i, .i]) encA := by
  intro a b
  obtain ⟨a1, a2⟩ := a
  obtain ⟨b1, b2⟩ := b
  simp only [encA, encW, keyEq, cellsEq, cellEq, if_true, Option.bind_some, Prod.mk.injEq, Bool.decide_and]
  by_cases h1 : a1 = b1 <;> by_cases h2 : a2 = b2 <;> simp [h1, h2]
def seenF (l : List (Int × Int)) (w : Int × Int) : Option V := if w ∈ l then some (.bool true) else none
def huntC (t lk mk : Nat) (hv : V) (l : List (Int × Int)) (m : O) : Ch := (t, some (.cells [hv, rowV lk l.length, .map (some (.new mk))] none)) :: (lk, rowO 2 l.length (l.flatMap encW)) :: (mk, some m) :: []
def putW (hp : PHeap) (l : List (Int × Int)) (w : Int × Int) : List (Int × Int) := if w ∉ l ∧ thereB hp w = true then l ++ [w] else l
theorem s115 {hp : PHeap} {t lk mk : Nat} {l : List (Int × Int)} {m : O} {w : Int × Int} (H : Holds o s (huntC t lk mk (ptrN hp.id) l m ++ C)) (h : Look C p hp) (hm : MapIs encA (seenF l) m) (hl : l.length ≤ 100000)
    (q : ∀ s' lk' m', MapIs encA (seenF (putW hp l w)) m' → Holds o s' (huntC t lk' mk (ptrN hp.id) (putW hp l w) m' ++ C) → Q (.tuple []) s') : WP (call PF 115 [ptrN t, .agg (encW w)] s) Q := by
  have h1 := H.alloc (.cells (encW w) none)
  have ft : (t, some (.cells [ptrN hp.id, rowV lk l.length, .map (some (.new mk))] none)) ∈ huntC t lk mk (ptrN hp.id) l m ++ C := List.mem_append_left _ (List.mem_cons_self ..)
  have fm : (mk, some m) ∈ huntC t lk mk (ptrN hp.id) l m ++ C := List.mem_append_left _ (List.mem_cons_of_mem _ (List.mem_cons_of_mem _ (List.mem_cons_self ..)))
  have f := H.mem ft
  have f0 := h1.g0
  have el := lookup_map keyA hm (h1.mem (List.mem_cons_of_mem _ fm)).1 (.bool false) false w
  simp only [encA, encW, Bool.false_eq_true, if_false] at el
  by_cases hw : w ∈ l
  · rw [show seenF l w = some (.bool true) from if_pos hw, Option.getD_some] at el
    have e : putW hp l w = l := if_neg (fun hh => hh.1 hw)
    rw [e] at q
    rw [call_run F115]; simp -implicitDefEqProofs only [↓GP, GB, GL, Nat.reduceAdd, Nat.reduceSub, Nat.reduceEqDiff, Nat.reduceMul, Nat.reduceLeDiff, Int.reduceBNe, Int.reduceBEq, Nat.reduceLT, reduceCtorEq, c115, f, f0, encW, el]
    exact q _ lk m hm h1.tl
  · rw [show seenF l w = none from if_neg hw, Option.getD_none] at el
    rw [call_run F115]; simp -implicitDefEqProofs only [↓GP, GB, GL, Nat.reduceAdd, Nat.reduceSub, Nat.reduceEqDiff, Nat.reduceMul, Nat.reduceLeDiff, Int.reduceBNe, Int.reduceBEq, Nat.reduceLT, reduceCtorEq, c115, f, f0, encW, el]
    refine wp_in (s118 h1 ((h.mono fun x hx => List.mem_append_right _ hx).cons _) (List.mem_cons_of_mem _ ft) fun s1 h2 => ?_)
    cases ht : thereB hp w with
    | false =>
      have e : putW hp l w = l := if_neg (fun hh => by rw [ht] at hh; cases hh.2)
      rw [e] at q
      simp -implicitDefEqProofs only [↓GP, GB, GL, Nat.reduceAdd, Nat.reduceSub, Nat.reduceEqDiff, Nat.reduceMul, Nat.reduceLeDiff, Int.reduceBNe, Int.reduceBEq, Nat.reduceLT, reduceCtorEq]
      exact q _ lk m hm h2.tl
    | true =>
      have e : putW hp l w = l ++ [w] := if_pos ⟨hw, ht⟩
      rw [e] at q
      have g := h2.mem (List.mem_cons_of_mem _ ft)
      have g0 := h2.g0
      simp -implicitDefEqProofs only [↓GP, GB, GL, Nat.reduceAdd, Nat.reduceSub, Nat.reduceEqDiff, Nat.reduceMul, Nat.reduceLeDiff, Int.reduceBNe, Int.reduceBEq, Nat.reduceLT, reduceCtorEq, g, g0, encW]
      refine wp_mapSet (enc := encA) (a := w) keyA hm (h2.mem (List.mem_cons_of_mem _ fm)).1 fun m' hm' => ?_
      have h3 : Holds o (s1.set mk m') ((lk, rowO 2 l.length (l.flatMap encW)) :: (t, some (.cells [ptrN hp.id, rowV lk l.length, .map (some (.new mk))] none)) :: (mk, some m') :: (s.next, some (.cells (encW w) none)) :: C) := by
        have h2' : Holds o s1 ((s.next, some (.cells (encW w) none)) :: (t, some (.cells [ptrN hp.id, rowV lk l.length, .map (some (.new mk))] none)) :: (lk, rowO 2 l.length (l.flatMap encW)) :: (mk, some m) :: C) := h2
        exact (Holds.of (h2'.set3 m') (fun k => by simp +arith only [HA, HB]) (fun k x => by simp only [HA, HC]; grind only))
      have g3 := h3.tl.f3
      simp -implicitDefEqProofs only [↓GP, GB, GL, Nat.reduceAdd, Nat.reduceSub, Nat.reduceEqDiff, Nat.reduceMul, Nat.reduceLeDiff, Int.reduceBNe, Int.reduceBEq, Nat.reduceLT, reduceCtorEq, g3, g, g0, encW]
      refine wp_append (sz := 2) (bytes := 16) (m := 1) (cs := l.flatMap encW) ((h3.alloc _).r1) (by rw [tab_len encW_len]) (new_cells' (alloc_new_same _ _) rfl) rfl rfl (by omega) (by unfold maxRow; omega) (by unfold maxRow; omega) fun lk' s2 h4 => ?_
      have h5 := h4.r1.tl
      have g5 := h5.tl.f1
      simp -implicitDefEqProofs only [↓GP, GB, GL, Nat.reduceAdd, Nat.reduceSub, Nat.reduceEqDiff, Nat.reduceMul, Nat.reduceLeDiff, Int.reduceBNe, Int.reduceBEq, Nat.reduceLT, reduceCtorEq, g5]
      refine q _ lk' m' ?_ ?_
      · refine (?_ : _ = seenF (l ++ [w])) ▸ hm'
        funext b
        unfold seenF
        by_cases hb : b = w
        · subst hb; simp
        · simp [hb]
      · have h6 := h5.set1 (.cells [ptrN hp.id, rowV lk' (l.length + 1), .map (some (.new mk))] none)
        exact (Holds.of (h6) (fun k => by simp +arith only [huntC, encW, List.length_append, List.length_cons, List.length_nil, Nat.zero_add, List.flatMap_append, List.flatMap_cons, List.flatMap_nil, List.append_nil, HA, HB]) (fun k x => by simp only [huntC, encW, List.length_append, List.length_cons, List.length_nil, Nat.zero_add, List.flatMap_append, List.flatMap_cons, List.flatMap_nil, List.append_nil, HA, HC]; grind only))
theorem s93 {id : Nat} {w : Int × Int} (H : Holds o s C) (q : ∀ s' a b, Holds o s' ((a, some (.cells [ptrN id] none)) :: (b, some (.cells (encW w) none)) :: C) → Q (.func 116 [] [ptrN a, ptrN b]) s') : WP (call PF 93 [ptrN id, .agg (encW w)] s) Q := by
  have h2 := (H.alloc (.cells [ptrN id] none)).alloc (.cells (encW w) none)
  rw [call_run F93]; simp -implicitDefEqProofs only [↓GP, GB, GL, Nat.reduceAdd, Nat.reduceSub, Nat.reduceEqDiff, Nat.reduceMul, Nat.reduceLeDiff, Int.reduceBNe, Int.reduceBEq, Nat.reduceLT, reduceCtorEq, c93, encW]
  exact q _ _ _ h2.r1
theorem parts_loop {γ : Type} (D : γ → Ch) (P : Nat → γ → Prop) (hp : γ → PHeap) (x : γ → PObj) {Y : Yt} {k a b p id n : Nat} {w : Int × Int} {R : List V → St → Res} {K : Kt} (hn : n ≤ 31) (hw : 0 < w.2)
    (look : ∀ i g, P i g → Look (D g) p (hp g) ∧ (hp g).id = id ∧ pfind w.1 w.2 (hp g).regs = some (x g) ∧ (x g).b.ws.length = n)
    (ma : ∀ g, (a, some (.cells [ptrN id] none)) ∈ D g) (mb : ∀ g, (b, some (.cells (encW w) none)) ∈ D g)
    (round : ∀ i g s v, P i g → Holds o s (D g) → (x g).b.ws[i]? = some v → WP (R [.agg (encW v)] s) fun r s' => r = .bool true ∧ ∃ g', P (i + 1) g' ∧ Holds o s' (D g')) :
    ∀ (m i : Nat) (g : γ) (s : St), i + m = n → P i g → Holds o s (D g) → (∀ s' g', P n g' → Holds o s' (D g') → WP (K (.exit 0) (sp 37 []) s') Q) →
    WP (loopY PF (withY Y k R) (.loop l116_0) (sp 37 [(0, .func (yBase + k) [] []), (1, ptrN a), (2, ptrN b), (17, I n), (18, I i)]) s K) Q
  | 0, i, g, s, hi, hP, H, q => by
    have hlt : ¬ ((i : Int) < (n : Int)) := by omega
    refine wp_roundY fun LL hLL => ?_
    simp -implicitDefEqProofs only [↓GP, GB, GL, Nat.reduceAdd, Nat.reduceSub, Nat.reduceEqDiff, Nat.reduceMul, Nat.reduceLeDiff, Int.reduceBNe, Int.reduceBEq, Nat.reduceLT, reduceCtorEq, l116_0, hlt]
    exact q s g (by rw [← show i = n by omega]; exact hP) H
  | m + 1, i, g, s, hi, hP, H, q => by
    have hlt : ((i : Int) < (n : Int)) := by omega
    obtain ⟨l1, l2, l3, l4⟩ := look i g hP
    have hv : (x g).b.ws[i]? = some ((x g).b.ws[i]'(by omega)) := List.getElem?_eq_getElem (by omega)
    generalize (x g).b.ws[i]'(by omega) = v at hv
    have fa := H.mem (ma g)
    have fb := H.mem (mb g)
    have hw1 := wrap_add1 (a := i) (by omega)
    obtain ⟨g1, mg1, mx1⟩ := pfind_mem l3
    have hws := l1.ws g1 mg1 _ mx1
    subst l2
    refine wp_roundY fun LL hLL => ?_
    simp -implicitDefEqProofs only [↓GP, GB, GL, Nat.reduceAdd, Nat.reduceSub, Nat.reduceEqDiff, Nat.reduceMul, Nat.reduceLeDiff, Int.reduceBNe, Int.reduceBEq, Nat.reduceLT, reduceCtorEq, l116_0, hlt, fa, fb, encW]
    refine wp_in (wp_callY (s67 H l1.hin l1.ne l1.len l1.ok hw l3 hv hws fun s1 h1 => ?_))
    simp -implicitDefEqProofs only [↓GP, GB, GL, Nat.reduceAdd, Nat.reduceSub, Nat.reduceEqDiff, Nat.reduceMul, Nat.reduceLeDiff, Int.reduceBNe, Int.reduceBEq, Nat.reduceLT, reduceCtorEq, encW]
    have h2 := ((h1.alloc (.cells [I 0, I 0] none)).set0 (.cells (encW v) none)).tl
    refine wp_in (wp_yield (WP.mono (round i g _ v hP h2 hv) ?_))
    rintro _ s2 ⟨rfl, g', hP', h3⟩
    simp -implicitDefEqProofs only [↓GP, GB, GL, Nat.reduceAdd, Nat.reduceSub, Nat.reduceEqDiff, Nat.reduceMul, Nat.reduceLeDiff, Int.reduceBNe, Int.reduceBEq, Nat.reduceLT, reduceCtorEq, hw1]
    rw [hLL]
    exact parts_loop D P hp x hn hw look ma mb round m (i + 1) g' s2 (by omega) hP' h3 q
theorem s116 {γ : Type} (D : γ → Ch) (P : Nat → γ → Prop) (hp : γ → PHeap) (x : γ → PObj) {Y : Yt} {k a b p id n : Nat} {w : Int × Int} {R : List V → St → Res} (hn : n ≤ 31) (hw : 0 < w.2)
    (look : ∀ i g, P i g → Look (D g) p (hp g) ∧ (hp g).id = id ∧ pfind w.1 w.2 (hp g).regs = some (x g) ∧ (x g).b.ws.length = n)
    (ma : ∀ g, (a, some (.cells [ptrN id] none)) ∈ D g) (mb : ∀ g, (b, some (.cells (encW w) none)) ∈ D g)
    (round : ∀ i g s v, P i g → Holds o s (D g) → (x g).b.ws[i]? = some v → WP (R [.agg (encW v)] s) fun r s' => r = .bool true ∧ ∃ g', P (i + 1) g' ∧ Holds o s' (D g'))
    {g : γ} (hP : P 0 g) (H : Holds o s (D g)) (q : ∀ s' g', P n g' → Holds o s' (D g') → Q (.tuple []) s') :
    WP (callY PF (withY Y k R) 116 [.func (yBase + k) [] [], ptrN a, ptrN b] s) Q := by
  have fa := H.mem (ma g)
  have fb := H.mem (mb g)
  obtain ⟨l1, l2, l3, l4⟩ := look 0 g hP
  rw [call_runY _ F116]
  simp -implicitDefEqProofs only [↓GP, GB, GL, Nat.reduceAdd, Nat.reduceSub, Nat.reduceEqDiff, Nat.reduceMul, Nat.reduceLeDiff, Int.reduceBNe, Int.reduceBEq, Nat.reduceLT, reduceCtorEq, c116, fa, fb, encW]
  have l2' := l2
  subst l2
  refine wp_in (wp_callY (s30 H l1.hin l1.ne l1.len l1.ok hw l3 fun s1 h1 => ?_))
  rw [l4]
  simp -implicitDefEqProofs only [↓GP, GB, GL, Nat.reduceAdd, Nat.reduceSub, Nat.reduceEqDiff, Nat.reduceMul, Nat.reduceLeDiff, Int.reduceBNe, Int.reduceBEq, Nat.reduceLT, reduceCtorEq]
  rw [go_loopY]
  have := parts_loop D P hp x (Y := Y) (k := k) (Q := Q) (K := blockK 0 (finR [])) hn hw look ma mb round n 0 g s1 (by omega) hP h1
  simp only [Int.natCast_zero] at this
  refine this fun s2 g2 hP2 h2 => ?_
  simp -implicitDefEqProofs only [↓GP, GB, GL, Nat.reduceAdd, Nat.reduceSub, Nat.reduceEqDiff, Nat.reduceMul, Nat.reduceLeDiff, Int.reduceBNe, Int.reduceBEq, Nat.reduceLT, reduceCtorEq]
  exact q s2 g2 hP2 h2
end
end Go.Proofs.Ytoldkemimhebaaa

set_option linter.unusedSimpArgs false
set_option linter.unusedVariables false
namespace Go.Proofs.Ytoldkemimhebaaa
open Go Go.IM
def l90_0 : IC := (.seq (.seq (.region [oa 17 (.bin .lss (.t 16) (.t 15))] (kp 47 [0,4,5,14,15,16,17]))
  (.seq (.cond (.t 17)
  (sk 47 [0,4,5,14,15,16])
  (sx 47 [0,4,5] 0))
  (.seq (.block 1
  (.seq (.region [oa 18 (.indexAddr 2 (.t 14) (.t 16)), oa 19 (.load (some 2) (.t 18)), oa 7 (.alloc [(.int .i64 (0)), (.int .i64 (0))]), ob (.store 2 (.t 7) (.t 19))] (kp 47 [0,4,5,7,14,15,16]))
  (.region [oa 20 (.load none (.t 5)), oa 21 (.load (some 2) (.t 7)), oa 22 (.call 115 [(.t 20), (.t 21)])] (kp 47 [0,4,5,14,15,16]))))
  (.region [oa 23 (.bin .add (.t 16) (ai 1)), oa 16 (.mov (.t 23))] (kp 47 [0,4,5,14,15,16])))))
  (sk 47 [0,4,5,14,15,16]))
def a90_1 : IC := (.region [oa 9 (.alloc [(.int .i64 (0)), (.int .i64 (0))]), ob (.store 2 (.t 9) (.t 42))] (kp 47 [5,9]))
def b90_1 : IC := (.block 5
  (.region [oa 43 (.load none (.t 5)), oa 44 (.load (some 2) (.t 9)), oa 45 (.call 115 [(.t 43), (.t 44)])] (kp 47 [])))
def l90_2 : IC := (.seq (.seq (.seq (.region [oa 24 (.mov (.t 8)), oa 25 (.load none (.t 5)), oa 26 (.nilCheck (.t 25)), oa 27 (.fieldAddr 1 (.t 26)), oa 28 (.load none (.t 27)), oa 29 (.lenSlice (.t 28)), oa 30 (.bin .lss (.t 24) (.t 29))] (kp 47 [0,4,5,8,30]))
  (.cond (.t 30)
  (sk 47 [0,4,5,8])
  (sx 47 [5] 2)))
  (.seq (.block 3
  (.seq (.region [oa 33 (.mov (.t 0)), oa 34 (.load none (.t 5)), oa 35 (.nilCheck (.t 34)), oa 36 (.fieldAddr 1 (.t 35)), oa 37 (.load none (.t 36)), oa 38 (.mov (.t 8)), oa 39 (.indexAddr 2 (.t 37) (.t 38)), oa 40 (.load (some 2) (.t 39)), oa 41 (.call 93 [(.t 33), (.t 40)])] (kp 47 [0,4,5,8,41]))
  (.block 4
  (.seq (sk 47 [0,4,5,8,41])
  (.seq (.range (.t 41) [42] a90_1 b90_1)
  (sk 47 [0,4,5,8]))))))
  (.region [oa 31 (.mov (.t 8)), oa 32 (.bin .add (.t 31) (ai 1)), oa 8 (.mov (.t 32))] (kp 47 [0,4,5,8]))))
  (sk 47 [0,4,5,8]))
def j90_bbbb : IC := (.seq (.region [oa 46 (.load none (.t 5)), oa 4 (.mov (.t 46))] (kp 47 [4]))
  (sr 47 [4]))
def j90_bbb : IC := (.seq (.seq (.region [oa 8 (.mov (ai 0))] (kp 47 [0,4,5,8]))
  (.block 2
  (.seq (sk 47 [0,4,5,8])
  (.loop l90_2))))
  j90_bbbb)
def c90 : IFn := ⟨47, [(4, none)],
  (.seq (.region [oa 4 (.mov (.c (.ptr none)))] (kp 47 [0,1,4]))
  (.seq (.region [oa 10 (.mov (.t 0)), oa 11 .mkMap, oa 12 (.build [(.ptr none), (.slice none 0 (some 0)), (.map none)] [(0, 1, (.t 10)), (2, 1, (.t 11))]), oa 13 (.box (.t 12)), oa 5 (.alloc [(.ptr none)]), ob (.store 1 (.t 5) (.t 13))] (kp 47 [0,1,4,5]))
  (.seq (.seq (.region [oa 14 (.mov (.t 1)), oa 15 (.lenSlice (.t 14)), oa 16 (.mov (ai 0))] (kp 47 [0,4,5,14,15,16]))
  (.block 0
  (.seq (sk 47 [0,4,5,14,15,16])
  (.loop l90_0))))
  j90_bbb)))⟩
theorem F90 : shutF Try.prog 90 = some c90 := by kernel_rfl
section
variable {o : Nat → Option O} {s : St} {C F : Ch} {Q : V → St → Prop} {p : Nat}
set_option maxRecDepth 10000
set_option maxHeartbeats 4000000
def objW (hp : PHeap) (w : Int × Int) : List (Int × Int) := ((pfind w.1 w.2 hp.regs).map fun x => x.b.ws).getD []
def bfs (hp : PHeap) : Nat → Nat → List (Int × Int) → List (Int × Int)
  | 0, _, l => l
  | n + 1, i, l => match l[i]? with
    | some w => bfs hp n (i + 1) ((objW hp w).foldl (putW hp) l)
    | none => l
def allW (hp : PHeap) : List (Int × Int) := hp.regs.flatMap fun g => g.objs.map fun x => ((x.b.at_ : Int), (g.life : Int))
def reachW (hp : PHeap) (roots : List (Int × Int)) : List (Int × Int) := bfs hp ((allW hp).length + 1) 0 (roots.foldl (putW hp) [])
theorem nodup_le {α : Type} [DecidableEq α] : ∀ {l m : List α}, l.Nodup → (∀ x ∈ l, x ∈ m) → l.length ≤ m.length
  | [], _, _, _ => Nat.zero_le _
  | a :: l, m, hn, hs => by
    have ha := hs a (List.mem_cons_self ..)
    have hn' := List.nodup_cons.1 hn
    have := nodup_le (l := l) (m := m.erase a) hn'.2 fun x hx => by
      have hne : x ≠ a := fun e => hn'.1 (e ▸ hx)
      exact (List.mem_erase_of_ne hne).2 (hs x (List.mem_cons_of_mem _ hx))
    rw [List.length_erase_of_mem ha] at this
    have h0 : 0 < m.length := List.length_pos_of_mem ha
    simp; omega
structure Found (hp : PHeap) (l : List (Int × Int)) : Prop where
  nodup : l.Nodup
  there : ∀ w ∈ l, thereB hp w = true
theorem there_all {hp : PHeap} {w : Int × Int} (h : thereB hp w = true) : w ∈ allW hp := by
  unfold thereB at h
  simp only [Bool.and_eq_true, decide_eq_true_eq] at h
  obtain ⟨h0, h1⟩ := h
  cases hx : pfind w.1 w.2 hp.regs with
  | none => rw [hx] at h1; cases h1
  | some x =>
    obtain ⟨g, mg, hg⟩ := List.exists_of_findSome?_eq_some hx
    obtain ⟨e1, e2, e3⟩ := pf_some hg
    refine List.mem_flatMap.2 ⟨g, mg, List.mem_map.2 ⟨x, e2, ?_⟩⟩
    rw [e1, e3]
theorem Found.len {hp : PHeap} {l : List (Int × Int)} (h : Found hp l) : l.length ≤ (allW hp).length := nodup_le h.nodup fun w hw => there_all (h.there w hw)
theorem Found.nil (hp : PHeap) : Found hp [] := ⟨List.nodup_nil, fun w h => by cases h⟩
theorem Found.put {hp : PHeap} {l : List (Int × Int)} (h : Found hp l) (w : Int × Int) : Found hp (putW hp l w) := by
  unfold putW
  split
  · rename_i hc
    refine ⟨List.nodup_append.2 ⟨h.nodup, by simp, fun a ha b hb => ?_⟩, fun v hv => ?_⟩
    · simp at hb; subst hb; intro e; subst e; exact hc.1 ha
    · rcases List.mem_append.1 hv with hv | hv
      · exact h.there v hv
      · simp at hv; subst hv; exact hc.2
  · exact h
theorem Found.puts {hp : PHeap} : ∀ (ws : List (Int × Int)) {l : List (Int × Int)}, Found hp l → Found hp (ws.foldl (putW hp) l)
  | [], _, h => h
  | w :: ws, _, h => Found.puts ws (h.put w)
theorem Found.steps {hp : PHeap} : ∀ (n i : Nat) {l : List (Int × Int)}, Found hp l → Found hp (bfs hp n i l)
  | 0, _, _, h => h
  | n + 1, i, l, h => by
    unfold bfs
    split
    · exact Found.steps n (i + 1) (h.puts _)
    · exact h
theorem Found.reach (hp : PHeap) (roots : List (Int × Int)) : Found hp (reachW hp roots) := Found.steps _ _ ((Found.nil hp).puts _)
theorem put_loop {hp : PHeap} {t mk tb kr : Nat} {roots : List (Int × Int)} {K : Kt} (h : Look C p hp) (hr : (kr, rowO 2 roots.length (roots.flatMap encW)) ∈ C) (mb : (tb, some (.cells [ptrN t] none)) ∈ C) (hrl : roots.length ≤ 1000000) (hall : (allW hp).length ≤ 100000) :
    ∀ (m i lk : Nat) (l : List (Int × Int)) (mm : O) (s : St), i + m = roots.length → Found hp l → MapIs encA (seenF l) mm → Holds o s (huntC t lk mk (ptrN hp.id) l mm ++ C) →
    (∀ s' lk' m', MapIs encA (seenF ((roots.drop i).foldl (putW hp) l)) m' → Holds o s' (huntC t lk' mk (ptrN hp.id) ((roots.drop i).foldl (putW hp) l) m' ++ C) → WP (K (.exit 0) (sp 47 [(0, ptrN hp.id), (4, .ptr none), (5, ptrN tb)]) s') Q) →
    WP (loop PF (.loop l90_0) (sp 47 [(0, ptrN hp.id), (4, .ptr none), (5, ptrN tb), (14, rowV kr roots.length), (15, I roots.length), (16, I i)]) s K) Q
  | 0, i, lk, l, mm, s, hi, hf, hm, H, q => by
    have hlt : ¬ ((i : Int) < (roots.length : Int)) := by omega
    rw [List.drop_eq_nil_of_le (by omega), List.foldl_nil] at q
    refine wp_round fun LL hLL => ?_
    simp -implicitDefEqProofs only [↓GP, GB, GL, Nat.reduceAdd, Nat.reduceSub, Nat.reduceEqDiff, Nat.reduceMul, Nat.reduceLeDiff, Int.reduceBNe, Int.reduceBEq, Nat.reduceLT, reduceCtorEq, l90_0, hlt]
    exact q s lk mm hm H
  | m + 1, i, lk, l, mm, s, hi, hf, hm, H, q => by
    have hlt : ((i : Int) < (roots.length : Int)) := by omega
    have hi' : i < roots.length := by omega
    have hl := hf.len
    have hw1 := wrap_add1 (a := i) (by omega)
    have hix := ix_row (sz := 2) (k := kr) (n := roots.length) (i := i) (kk := .i64) hi'
    have er : rowO 2 roots.length (roots.flatMap encW) = some (.cells (roots.flatMap encW) (some 2)) := by unfold rowO; rw [if_neg (by omega)]
    have fr := H.mem (List.mem_append_right _ (er ▸ hr))
    have fb := H.mem (List.mem_append_right _ mb)
    have hld := ldN_tab (enc := encW) encW_len roots (some 2) (List.getElem?_eq_getElem hi')
    rw [List.drop_eq_getElem_cons hi', List.foldl_cons] at q
    generalize roots[i] = w at q hld
    refine wp_round fun LL hLL => ?_
    simp -implicitDefEqProofs only [↓GP, GB, GL, Nat.reduceAdd, Nat.reduceSub, Nat.reduceEqDiff, Nat.reduceMul, Nat.reduceLeDiff, Int.reduceBNe, Int.reduceBEq, Nat.reduceLT, reduceCtorEq, l90_0, hlt, hix, fr, fb, hld, encW]
    have h1 := ((H.alloc (.cells [I 0, I 0] none)).set0 (.cells (encW w) none)).tl
    refine wp_in (s115 (w := w) h1 h hm (by omega) fun s1 lk1 m1 hm1 h2 => ?_)
    simp -implicitDefEqProofs only [↓GP, GB, GL, Nat.reduceAdd, Nat.reduceSub, Nat.reduceEqDiff, Nat.reduceMul, Nat.reduceLeDiff, Int.reduceBNe, Int.reduceBEq, Nat.reduceLT, reduceCtorEq, hw1]
    rw [hLL]
    exact put_loop h hr mb hrl hall m (i + 1) lk1 _ m1 s1 (by omega) (hf.put w) hm1 h2 q
theorem bfs_out {hp : PHeap} {n i : Nat} {l : List (Int × Int)} (h : l.length ≤ i) : bfs hp n i l = l := by
  cases n with
  | zero => rfl
  | succ n => unfold bfs; rw [List.getElem?_eq_none h]
theorem bfs_in {hp : PHeap} {n i : Nat} {l : List (Int × Int)} {w : Int × Int} (h : l[i]? = some w) : bfs hp (n + 1) i l = bfs hp n (i + 1) ((objW hp w).foldl (putW hp) l) := by
  rw [bfs, h]
theorem hunt_loop {hp : PHeap} {t mk tb : Nat} {K : Kt} (h : Look C p hp) (mb : (tb, some (.cells [ptrN t] none)) ∈ C) (hall : (allW hp).length ≤ 90000) :
    ∀ (m i lk : Nat) (l : List (Int × Int)) (mm : O) (s : St), (allW hp).length + 1 ≤ i + m → Found hp l → MapIs encA (seenF l) mm → Holds o s (huntC t lk mk (ptrN hp.id) l mm ++ C) →
    (∀ s' lk' m', MapIs encA (seenF (bfs hp m i l)) m' → Holds o s' (huntC t lk' mk (ptrN hp.id) (bfs hp m i l) m' ++ C) → WP (K (.exit 2) (sp 47 [(5, ptrN tb)]) s') Q) →
    WP (loop PF (.loop l90_2) (sp 47 [(0, ptrN hp.id), (4, .ptr none), (5, ptrN tb), (8, I i)]) s K) Q := by
  intro m
  induction m with
  | zero =>
    intro i lk l mm s hi hf hm H q
    have hl := hf.len
    have hlt : ¬ ((i : Int) < (l.length : Int)) := by omega
    have ft := H.mem (List.mem_append_left _ (List.mem_cons_self ..) : (t, some (O.cells [ptrN hp.id, rowV lk l.length, V.map (some (.new mk))] none)) ∈ huntC t lk mk (ptrN hp.id) l mm ++ C)
    have fb := H.mem (List.mem_append_right _ mb)
    refine wp_round fun LL hLL => ?_
    simp -implicitDefEqProofs only [↓GP, GB, GL, Nat.reduceAdd, Nat.reduceSub, Nat.reduceEqDiff, Nat.reduceMul, Nat.reduceLeDiff, Int.reduceBNe, Int.reduceBEq, Nat.reduceLT, reduceCtorEq, l90_2, ft, fb, hlt]
    exact q s lk mm hm H
  | succ m ih =>
    intro i lk l mm s hi hf hm H q
    have hl := hf.len
    have ft := H.mem (List.mem_append_left _ (List.mem_cons_self ..) : (t, some (O.cells [ptrN hp.id, rowV lk l.length, V.map (some (.new mk))] none)) ∈ huntC t lk mk (ptrN hp.id) l mm ++ C)
    have fb := H.mem (List.mem_append_right _ mb)
    by_cases hi' : i < l.length
    · have hlt : ((i : Int) < (l.length : Int)) := by omega
      have hw1 := wrap_add1 (a := i) (by omega)
      have hix := ix_row (sz := 2) (k := lk) (n := l.length) (i := i) (kk := .i64) hi'
      have er : rowO 2 l.length (l.flatMap encW) = some (.cells (l.flatMap encW) (some 2)) := by unfold rowO; rw [if_neg (by omega)]
      have fr := H.mem (List.mem_append_left _ (List.mem_cons_of_mem _ (er ▸ List.mem_cons_self ..)) : (lk, some (O.cells (l.flatMap encW) (some 2))) ∈ huntC t lk mk (ptrN hp.id) l mm ++ C)
      have hld := ldN_tab (enc := encW) encW_len l (some 2) (List.getElem?_eq_getElem hi')
      have hth := hf.there _ (List.getElem_mem hi')
      rw [bfs_in (List.getElem?_eq_getElem hi')] at q
      generalize l[i] = w at q hld hth
      refine wp_round fun LL hLL => ?_
      simp -implicitDefEqProofs only [↓GP, GB, GL, Nat.reduceAdd, Nat.reduceSub, Nat.reduceEqDiff, Nat.reduceMul, Nat.reduceLeDiff, Int.reduceBNe, Int.reduceBEq, Nat.reduceLT, reduceCtorEq, l90_2, ft, fb, hlt, hix, fr, hld, encW]
      refine wp_in (s93 (w := w) H fun s1 a b h1 => ?_)
      simp -implicitDefEqProofs only [↓GP, GB, GL, Nat.reduceAdd, Nat.reduceSub, Nat.reduceEqDiff, Nat.reduceMul, Nat.reduceLeDiff, Int.reduceBNe, Int.reduceBEq, Nat.reduceLT, reduceCtorEq]
      obtain ⟨hw0, x, hx⟩ : 0 < w.2 ∧ ∃ x, pfind w.1 w.2 hp.regs = some x := by
        unfold thereB at hth
        simp only [Bool.and_eq_true, decide_eq_true_eq] at hth
        exact ⟨hth.1, Option.isSome_iff_exists.1 hth.2⟩
      obtain ⟨g0, mg0, mx0⟩ := pfind_mem hx
      have hwl := h.ws g0 mg0 _ mx0
      have how : objW hp w = x.b.ws := by unfold objW; rw [hx]; rfl
      rw [how] at q
      have hfoldf : ∀ j, Found hp ((x.b.ws.take j).foldl (putW hp) l) := fun j => hf.puts _
      have h2 := h1.alloc (.loop .ready)
      rw [go_range]
      refine wp_range (g := 116) (pre := []) (caps := [ptrN a, ptrN b]) (by simp -implicitDefEqProofs only [↓GP, GB, GL, Nat.reduceAdd, Nat.reduceSub, Nat.reduceEqDiff, Nat.reduceMul, Nat.reduceLeDiff, Int.reduceBNe, Int.reduceBEq, Nat.reduceLT, reduceCtorEq]) ?_
      refine s116 (γ := List (Int × Int) × Nat × O) (fun g => (s1.next, some (.loop .ready)) :: (huntC t g.2.1 mk (ptrN hp.id) g.1 g.2.2 ++ ((a, some (.cells [ptrN hp.id] none)) :: (b, some (.cells (encW w) none)) :: C)))
        (fun j g => MapIs encA (seenF g.1) g.2.2 ∧ g.1 = (x.b.ws.take j).foldl (putW hp) l) (fun _ => hp) (fun _ => x) (n := x.b.ws.length) (id := hp.id) (p := p) hwl hw0
        (fun i g _ => ⟨h.mono (fun y hy => List.mem_cons_of_mem _ (List.mem_append_right _ (List.mem_cons_of_mem _ (List.mem_cons_of_mem _ hy)))), rfl, hx, rfl⟩)
        (fun g => List.mem_cons_of_mem _ (List.mem_append_right _ (List.mem_cons_self ..))) (fun g => List.mem_cons_of_mem _ (List.mem_append_right _ (List.mem_cons_of_mem _ (List.mem_cons_self ..)))) ?_
        (g := (l, lk, mm)) ⟨hm, rfl⟩ ((Holds.of (h2) (fun k => by simp +arith only [huntC, HA, HB]) (fun k x => by simp only [huntC, HA, HC]; grind only))) fun s2 g2 hP2 h3 => ?_
      · intro j g s2 v hP H2 hv
        obtain ⟨l2, lk2, m2⟩ := g
        obtain ⟨hm2, hl2⟩ := hP
        simp only at hm2 hl2 H2
        have hl3 : l2.length ≤ 90000 := by have := (hfoldf j).len; rw [hl2]; omega
        refine wp_roundI H2.g0 rfl ?_
        rw [putAll_one]
        simp -implicitDefEqProofs only [↓GP, GB, GL, Nat.reduceAdd, Nat.reduceSub, Nat.reduceEqDiff, Nat.reduceMul, Nat.reduceLeDiff, Int.reduceBNe, Int.reduceBEq, Nat.reduceLT, reduceCtorEq, a90_1, encW]
        have h3 := (H2.alloc (.cells [I 0, I 0] none)).set0 (.cells (encW v) none)
        refine wp_roundMid h3.tl.g0 ?_
        have h4 := h3.set1 (.loop .busy)
        have mb2 : (tb, some (O.cells [ptrN t] none)) ∈ huntC t lk2 mk (ptrN hp.id) l2 m2 ++ ((a, some (.cells [ptrN hp.id] none)) :: (b, some (.cells (encW w) none)) :: C) := List.mem_append_right _ (List.mem_cons_of_mem _ (List.mem_cons_of_mem _ mb))
        have fb2 := H2.mem (List.mem_cons_of_mem _ mb2)
        have ne2 := H2.ne (Holds.ids_mem.2 ⟨_, mb2⟩)
        have kl := H2.l0
        simp -implicitDefEqProofs only [↓GP, GB, GL, Nat.reduceAdd, Nat.reduceSub, Nat.reduceEqDiff, Nat.reduceMul, Nat.reduceLeDiff, Int.reduceBNe, Int.reduceBEq, Nat.reduceLT, reduceCtorEq, b90_1, fb2, ne2, kl, encW]
        have h5 : Holds o _ (huntC t lk2 mk (ptrN hp.id) l2 m2 ++ ((s1.next, some (.loop .busy)) :: (a, some (.cells [ptrN hp.id] none)) :: (b, some (.cells (encW w) none)) :: C)) := (Holds.of (h4) (fun k => by simp +arith only [huntC, HA, HB]) (fun k x => by simp only [huntC, HA, HC]; grind only))
        refine wp_in (s115 (w := v) h5 (h.mono fun y hy => List.mem_cons_of_mem _ (List.mem_cons_of_mem _ (List.mem_cons_of_mem _ hy))) hm2 (by omega) fun s3 lk3 m3 hm3 h6 => ?_)
        simp -implicitDefEqProofs only [↓GP, GB, GL, Nat.reduceAdd, Nat.reduceSub, Nat.reduceEqDiff, Nat.reduceMul, Nat.reduceLeDiff, Int.reduceBNe, Int.reduceBEq, Nat.reduceLT, reduceCtorEq]
        have h7 : Holds o s3 ((s1.next, some (.loop .busy)) :: (huntC t lk3 mk (ptrN hp.id) (putW hp l2 v) m3 ++ ((a, some (.cells [ptrN hp.id] none)) :: (b, some (.cells (encW w) none)) :: C))) := (Holds.of (h6) (fun k => by simp +arith only [huntC, HA, HB]) (fun k x => by simp only [huntC, HA, HC]; grind only))
        refine wp_roundEnd h7.g0 ⟨rfl, (putW hp l2 v, lk3, m3), ⟨hm3, ?_⟩, h7.set0 (.loop .ready)⟩
        show putW hp l2 v = _
        rw [List.take_add_one, hv, Option.toList_some, List.foldl_append, ← hl2]
        rfl
      · obtain ⟨l2, lk2, m2⟩ := g2
        obtain ⟨hm2, hl2⟩ := hP2
        simp only at hm2 hl2 h3
        rw [List.take_length] at hl2
        subst hl2
        refine wp_rangeEnd h3.g0 ?_
        simp -implicitDefEqProofs only [↓GP, GB, GL, Nat.reduceAdd, Nat.reduceSub, Nat.reduceEqDiff, Nat.reduceMul, Nat.reduceLeDiff, Int.reduceBNe, Int.reduceBEq, Nat.reduceLT, reduceCtorEq, hw1]
        rw [hLL]
        exact ih (i + 1) lk2 _ m2 _ (by omega) (hf.puts _) hm2 ((Holds.of (h3.kill) (fun k => by simp +arith only [huntC, HA, HB]) (fun k x => by simp only [huntC, HA, HC]; grind only))) q
    · have hlt : ¬ ((i : Int) < (l.length : Int)) := by omega
      rw [bfs_out (by omega)] at q
      refine wp_round fun LL hLL => ?_
      simp -implicitDefEqProofs only [↓GP, GB, GL, Nat.reduceAdd, Nat.reduceSub, Nat.reduceEqDiff, Nat.reduceMul, Nat.reduceLeDiff, Int.reduceBNe, Int.reduceBEq, Nat.reduceLT, reduceCtorEq, l90_2, ft, fb, hlt]
      exact q s lk mm hm H
theorem rowO_z : rowO 2 0 [] = none := rfl
theorem I0 : V.int .i64 0 = I ((0 : Nat) : Int) := rfl
theorem rowV_z (k : Nat) : rowV k 0 = .slice none 0 (some 0) := rfl
theorem seenF_nil : MapIs encA (seenF []) (.map [] 0) := (show (fun _ => none) = seenF [] by funext w; unfold seenF; simp) ▸ mapIs_nil
theorem s90 {hp : PHeap} {kr : Nat} {roots : List (Int × Int)} (H : Holds o s C) (h : Look C p hp) (hr : (kr, rowO 2 roots.length (roots.flatMap encW)) ∈ C) (hrl : roots.length ≤ 1000000) (hall : (allW hp).length ≤ 90000)
    (q : ∀ s' t lk mk m, MapIs encA (seenF (reachW hp roots)) m → Holds o s' (huntC t lk mk (ptrN hp.id) (reachW hp roots) m ++ C) → Q (ptrN t) s') : WP (call PF 90 [ptrN hp.id, rowV kr roots.length] s) Q := by
  rw [call_run F90]; simp -implicitDefEqProofs only [↓GP, GB, GL, Nat.reduceAdd, Nat.reduceSub, Nat.reduceEqDiff, Nat.reduceMul, Nat.reduceLeDiff, Int.reduceBNe, Int.reduceBEq, Nat.reduceLT, reduceCtorEq, c90]
  have h1 := ((H.alloc (.map [] 0)).alloc (.cells [ptrN hp.id, .slice none 0 (some 0), .map (some (.new s.next))] none)).nilEntry 0
  have h2 := ((h1.alloc (.cells [.ptr none] none)).set0 (.cells [ptrN (s.next + 1)] none))
  have h3 : Holds o _ (huntC (s.next + 1) 0 s.next (ptrN hp.id) [] (.map [] 0) ++ ((s.next + 2, some (.cells [ptrN (s.next + 1)] none)) :: C)) := (Holds.of (h2) (fun k => by simp +arith only [huntC, List.length_nil, rowV_z, List.flatMap_nil, rowO_z, HA, HB]) (fun k x => by simp only [huntC, List.length_nil, rowV_z, List.flatMap_nil, rowO_z, HA, HC]; grind only))
  have := put_loop (K := blockK 0 (seqK (loop PF) (call PF) j90_bbb (finR [(4, none)]))) (Q := Q) (h.cons _) (List.mem_cons_of_mem _ hr) (List.mem_cons_self ..) hrl (by omega) roots.length 0 0 [] (.map [] 0) _ (by omega) (Found.nil hp) seenF_nil h3
  simp only [Int.natCast_zero, List.drop_zero] at this
  refine this fun s1 lk1 m1 hm1 h4 => ?_
  simp -implicitDefEqProofs only [↓GP, GB, GL, Nat.reduceAdd, Nat.reduceSub, Nat.reduceEqDiff, Nat.reduceMul, Nat.reduceLeDiff, Int.reduceBNe, Int.reduceBEq, Nat.reduceLT, reduceCtorEq, j90_bbb]
  have := hunt_loop (K := blockK 2 (seqK (loop PF) (call PF) j90_bbbb (finR [(4, none)]))) (Q := Q) (h.cons (s.next + 2, some (.cells [ptrN (s.next + 1)] none))) (List.mem_cons_self ..) hall ((allW hp).length + 1) 0 lk1 _ m1 s1 (by omega) ((Found.nil hp).puts roots) hm1 h4
  simp only [Int.natCast_zero] at this
  refine this fun s2 lk2 m2 hm2 h5 => ?_
  rw [show bfs hp ((allW hp).length + 1) 0 (roots.foldl (putW hp) []) = reachW hp roots from rfl] at h5 hm2
  have f := h5.mem (List.mem_append_right _ (List.mem_cons_self ..))
  simp -implicitDefEqProofs only [↓GP, GB, GL, Nat.reduceAdd, Nat.reduceSub, Nat.reduceEqDiff, Nat.reduceMul, Nat.reduceLeDiff, Int.reduceBNe, Int.reduceBEq, Nat.reduceLT, reduceCtorEq, j90_bbbb, f]
  exact q s2 (s.next + 1) lk2 s.next m2 hm2 (Holds.of (h5) (fun k => by simp +arith only [huntC, HA, HB]) (fun k x => by simp only [huntC, HA, HC]; grind only))
end
end Go.Proofs.Ytoldkemimhebaaa

set_option linter.unusedSimpArgs false
set_option linter.unusedVariables false
namespace Go.Proofs.Ytoldkemimhebaaa
open Go Go.IM
def l5_0 : IC := (.seq (.seq (.seq (.region [oa 33 (.mov (.t 10)), oa 34 (.mov (.t 0)), oa 35 (.lenSlice (.t 34)), oa 36 (.bin .lss (.t 33) (.t 35))] (kp 112 [0,1,5,6,9,10,36]))
  (.cond (.t 36)
  (sk 112 [0,1,5,6,9,10])
  (sx 112 [1,6,9] 0)))
  (.seq (.block 1
  (.region [oa 39 (.mov (.t 5)), oa 40 (.indexAddr 1 (.t 39) (ai 0)), oa 41 (.load none (.t 40)), oa 42 (.mov (.t 0)), oa 43 (.mov (.t 10)), oa 44 (.indexAddr 11 (.t 42) (.t 43)), oa 45 (.load (some 11) (.t 44)), oa 46 (.call 26 [(.t 41), (.t 45)])] (kp 112 [0,1,5,6,9,10])))
  (.region [oa 37 (.mov (.t 10)), oa 38 (.bin .add (.t 37) (ai 1)), oa 10 (.mov (.t 38))] (kp 112 [0,1,5,6,9,10]))))
  (sk 112 [0,1,5,6,9,10]))
def l5_1 : IC := (.seq (.seq (.seq (.region [oa 47 (.mov (.t 9)), oa 48 (.call 27 [(.t 47)]), oa 49 (.bin .gtr (.t 48) (ai 1))] (kp 112 [1,6,9,49]))
  (.cond (.t 49)
  (sk 112 [1,6,9])
  (sx 112 [6,9] 2)))
  (.block 3
  (.seq (.region [oa 50 (.mov (.t 9)), oa 51 (.call 27 [(.t 50)]), oa 52 (.bin .sub (.t 51) (ai 1)), oa 11 (.mov (.t 52))] (kp 112 [1,6,9,11]))
  (.seq (.region [oa 54 (.mov (.t 9)), oa 55 (.mov (.t 11)), oa 56 (.call 29 [(.t 54), (.t 55)]), oa 53 (.mov (.t 56)), oa 57 (.extract (.t 53) 0), oa 58 (.extract (.t 53) 1), oa 12 (.mov (.t 57)), oa 13 (.mov (.t 58))] (kp 112 [1,6,9,11,12,13]))
  (.seq (.region [oa 59 (.mov (.t 6)), oa 60 (.call 19 [(.t 59)]), oa 14 (.mov (.t 60))] (kp 112 [1,6,9,11,12,13,14]))
  (.seq (.seq (.region [oa 61 (.mov (.t 13)), oa 62 (.bin .neq (.t 61) (ai 0))] (kp 112 [1,6,9,11,12,14,62]))
  (.cond (.t 62)
  (.seq (.region [oa 4 (.mov (.c (.bool false)))] (kp 112 [4]))
  (sr 112 [4]))
  (sk 112 [1,6,9,11,12,14])))
  (.seq (.seq (.region [oa 63 (.mov (.t 1))] (kp 112 [1,6,9,11,12,14,63]))
  (.cond (.t 63)
  (.seq (.region [oa 65 (.mov (.t 9)), oa 66 (.mov (.t 11)), oa 67 (.call 31 [(.t 65), (.t 66)]), oa 64 (.mov (.t 67)), oa 68 (.extract (.t 64) 0), oa 69 (.extract (.t 64) 1), oa 13 (.mov (.t 69))] (kp 112 [1,6,9,12,13,14]))
  (.seq (.seq (.region [oa 70 (.mov (.t 13)), oa 71 (.bin .neq (.t 70) (ai 0)), oa 72 (.mov (.t 71)), oc 73 (.mov (.t 6)) 72 ff, oc 74 (.call 19 [(.t 73)]) 72 ff, oc 75 (.mov (.t 14)) 72 ff, oc 76 (.mov (.t 12)) 72 ff, oc 77 (.lenSlice (.t 76)) 72 ff, oc 78 (.bin .add (.t 75) (.t 77)) 72 ff, oc 79 (.bin .neq (.t 74) (.t 78)) 72 ff, oa 80 (.pick (.t 72) (.c (.bool true)) (.t 79))] (kp 112 [1,6,9,80]))
  (.cond (.t 80)
  (.seq (.region [oa 4 (.mov (.c (.bool false)))] (kp 112 [4]))
  (sr 112 [4]))
  (sk 112 [1,6,9])))
  (.seq (.region [oa 12 (.mov (.c (.slice none 0 (some 0))))] (kp 112 [1,6,9,12]))
  (.region [oa 81 (.mov (.t 6)), oa 82 (.call 19 [(.t 81)]), oa 14 (.mov (.t 82))] (kp 112 [1,6,9,12,14])))))
  (sk 112 [1,6,9,12,14])))
  (.seq (.region [oa 84 (.mov (.t 9)), oa 85 (.call 32 [(.t 84)]), oa 83 (.mov (.t 85)), oa 86 (.extract (.t 83) 0), oa 87 (.extract (.t 83) 1), oa 15 (.mov (.t 86)), oa 13 (.mov (.t 87))] (kp 112 [1,6,9,12,13,14,15]))
  (.seq (.region [oa 88 (.mov (.t 13)), oa 89 (.bin .neq (.t 88) (ai 0)), oa 90 (.mov (.t 89)), oc 91 (.mov (.t 15)) 90 ff, oc 92 (.mov (.t 12)) 90 ff, oc 93 (.lenSlice (.t 92)) 90 ff, oc 94 (.bin .neq (.t 91) (.t 93)) 90 ff, oa 95 (.pick (.t 90) (.c (.bool true)) (.t 94)), oa 96 (.mov (.t 95)), oc 97 (.mov (.t 6)) 96 ff, oc 98 (.call 19 [(.t 97)]) 96 ff, oc 99 (.mov (.t 14)) 96 ff, oc 100 (.mov (.t 15)) 96 ff, oc 101 (.bin .add (.t 99) (.t 100)) 96 ff, oc 102 (.bin .neq (.t 98) (.t 101)) 96 ff, oa 103 (.pick (.t 96) (.c (.bool true)) (.t 102))] (kp 112 [1,6,9,103]))
  (.cond (.t 103)
  (.seq (.region [oa 4 (.mov (.c (.bool false)))] (kp 112 [4]))
  (sr 112 [4]))
  (sk 112 [1,6,9])))))))))))
  (sk 112 [1,6,9]))
def c5 : IFn := ⟨112, [(4, none)],
  (.seq (.region [oa 4 (.mov (.c (.bool false)))] (kp 112 [0,1]))
  (.seq (.seq (.region [oa 16 (.mov (.t 0)), oa 17 (.call 24 [(.t 16)])] (kp 112 [0,1,17]))
  (.cond (.t 17)
  (.seq (.region [oa 18 (.call 23 []), oa 4 (.mov (.t 18))] (kp 112 [4]))
  (sr 112 [4]))
  (sk 112 [0,1])))
  (.seq (.region [oa 20 (.call 25 [(ai 12), (ai 1)]), oa 19 (.mov (.t 20)), oa 21 (.extract (.t 19) 0), oa 22 (.extract (.t 19) 1), oa 23 (.extract (.t 19) 2), oa 24 (.extract (.t 19) 3), oa 5 (.mov (.t 21)), oa 6 (.mov (.t 22)), oa 7 (.mov (.t 23)), oa 8 (.mov (.t 24))] (kp 112 [0,1,5,6,8]))
  (.seq (.seq (.region [oa 25 (.mov (.t 8)), oa 26 (.un .not (.t 25))] (kp 112 [0,1,5,6,26]))
  (.cond (.t 26)
  (.seq (.region [oa 4 (.mov (.c (.bool false)))] (kp 112 [4]))
  (sr 112 [4]))
  (sk 112 [0,1,5,6])))
  (.seq (.region [oa 27 (.mov (.t 5)), oa 28 (.indexAddr 1 (.t 27) (ai 0)), oa 29 (.load none (.t 28)), oa 30 (.nilCheck (.t 29)), oa 31 (.fieldAddr 0 (.t 30)), oa 32 (.load none (.t 31)), oa 9 (.mov (.t 32))] (kp 112 [0,1,5,6,9]))
  (.seq (.seq (.region [oa 10 (.mov (ai 0))] (kp 112 [0,1,5,6,9,10]))
  (.block 0
  (.seq (sk 112 [0,1,5,6,9,10])
  (.loop l5_0))))
  (.seq (.block 2
  (.seq (sk 112 [1,6,9])
  (.loop l5_1)))
  (.seq (.region [oa 104 (.mov (.t 9)), oa 105 (.call 33 [(.t 104)])] (kp 112 [6]))
  (.seq (.region [oa 106 (.mov (.t 6)), oa 107 (.call 21 [(.t 106)]), oa 108 (.bin .eql (.t 107) (ai 0)), oa 109 (.mov (.t 108)), oc 110 (.call 23 []) 109 tt, oa 111 (.pick (.t 109) (.t 110) (.c (.bool false))), oa 4 (.mov (.t 111))] (kp 112 [4]))
  (sr 112 [4]))))))))))⟩
section
variable {o : Nat → Option O} {s : St} {C F : Ch} {Q : V → St → Prop} {p r q t : Nat} {u : List Bool} {others : List Nat} {G : PairG}
set_option maxRecDepth 10000
set_option maxHeartbeats 4000000
structure POk (u : List Bool) (hp : PHeap) : Prop where
  ulen : u.length ≤ 30
  inv : HInv hp.lives (hp.regs.map PReg.m)
  pool : PoolInv u ((hp.regs.map PReg.m).flatMap (·.pages))
  pok : ∀ g ∈ hp.regs, g.ok
theorem POk.ne {hp : PHeap} (h : POk u hp) : hp.regs ≠ [] := fun e => h.inv.ne (by rw [e]; rfl)
theorem POk.len {hp : PHeap} (h : POk u hp) : hp.regs.length ≤ 100000 := by have h1 := h.inv.len; have h2 := h.inv.lives; rw [List.length_map] at h1; omega
theorem POk.last {hp : PHeap} (h : POk u hp) {A : List PReg} {g : PReg} (e : hp.regs = A ++ [g]) : PoolInv u (g.pages ++ (A.map PReg.m).flatMap (·.pages)) := by
  have := h.pool
  rw [e] at this
  refine this.perm ?_
  simp only [List.map_append, List.map_cons, List.map_nil, List.flatMap_append, List.flatMap_cons, List.flatMap_nil, List.append_nil]
  exact List.perm_append_comm
theorem POk.pop {hp : PHeap} (h : POk u hp) {A : List PReg} {g : PReg} (e : hp.regs = A ++ [g]) (h0 : A ≠ []) (sl : List V) : POk (freeP u g.pages) { hp with regs := A, sl := sl } where
  ulen := by rw [freeP_len]; exact h.ulen
  inv := by
    have hi := h.inv
    rw [e] at hi
    simp only [List.map_append, List.map_cons, List.map_nil] at hi
    refine ⟨hi.lives, by simpa using h0, by have := hi.len; simp at this ⊢; omega, ?_, fun r hr => hi.life r (List.mem_append_left _ hr), fun r hr => hi.reg r (List.mem_append_left _ hr)⟩
    have := hi.nodup
    rw [List.map_append, List.nodup_append] at this
    exact this.1
  pool := (h.last e).free
  pok := fun x hx => h.pok x (by rw [e]; exact List.mem_append_left _ hx)
theorem POk.reset {hp : PHeap} (h : POk u hp) {A : List PReg} {g : PReg} {k : Nat} (e : hp.regs = A ++ [g]) (hl : hp.lives < 100000) :
    POk (freeP u g.pages) { hp with lives := hp.lives + 1, regs := A ++ { g with life := hp.lives + 1, fill := 0, pages := [], objs := [], plk := k, pl := .map [] 0 } :: [] } where
  ulen := by rw [freeP_len]; exact h.ulen
  inv := by
    have hi := h.inv
    rw [e] at hi
    simp only [List.map_append, List.map_cons, List.map_nil] at hi
    refine ⟨by simp only; omega, by simp, by have := hi.len; simp at this ⊢; omega, ?_, ?_, ?_⟩
    · have hn := hi.nodup
      simp only [List.map_append, List.map_cons, List.map_nil, List.nodup_append] at hn ⊢
      refine ⟨hn.1, by simp, fun x hx y hy => ?_⟩
      obtain ⟨r, hr, rfl⟩ := List.mem_map.1 hx
      have := (hi.life r (List.mem_append_left _ hr)).2
      simp [PReg.m] at hy
      omega
    · intro r hr
      simp only [List.map_append, List.map_cons, List.map_nil, List.mem_append, List.mem_cons, List.not_mem_nil, or_false] at hr
      rcases hr with hr | rfl
      · have := hi.life r (List.mem_append_left _ hr); simp only; omega
      · simp only [PReg.m]; omega
    · intro r hr
      simp only [List.map_append, List.map_cons, List.map_nil, List.mem_append, List.mem_cons, List.not_mem_nil, or_false] at hr
      rcases hr with hr | rfl
      · exact hi.reg r (List.mem_append_left _ hr)
      · have := (hi.reg g.m (by simp)).size
        exact ⟨this, by simp [PReg.m], fun _ => by simp [PReg.m], fun _ => Packed.nil, fun x hx => by simp [PReg.m] at hx⟩
  pool := by
    have := (h.last e).free
    simpa [PReg.m] using this
  pok := by
    intro x hx
    simp only [List.mem_append, List.mem_cons, List.not_mem_nil, or_false] at hx
    rcases hx with hx | rfl
    · exact h.pok x (by rw [e]; simp [hx])
    · exact mapIs_nil
end
end Go.Proofs.Ytoldkemimhebaaa

set_option linter.unusedSimpArgs false
set_option linter.unusedVariables false
namespace Go.Proofs.Ytoldkemimhebaaa
open Go Go.IM
def layObj (ys : List Obj) (ats : List Nat) : List Obj := List.zipWith (fun x a => { x with at_ := a }) ys ats
theorem relay_b : ∀ (xs : List PObj) (ats : List Nat), (relay xs ats).map (·.b) = layObj (xs.map (·.b)) ats
  | [], _ => by simp [relay, layObj]
  | _ :: _, [] => by simp [relay, layObj]
  | x :: xs, a :: ats => by
    have := relay_b xs ats
    simp only [relay, layObj] at this
    simp only [relay, layObj, List.zipWith_cons_cons, List.map_cons, this]
    rfl
theorem layObj_os : ∀ (ys : List Obj) (ats : List Nat), ats.length = ys.length → (layObj ys ats).map (fun x => (x.at_, x.ws.length + 1)) = ats.zip (ys.map fun x => x.ws.length + 1)
  | [], [], _ => rfl
  | [], _ :: _, h => by simp at h
  | _ :: _, [], h => by simp at h
  | y :: ys, a :: ats, h => by
    have := layObj_os ys ats (by simpa using h)
    simp only [layObj] at this
    simp only [layObj, List.zipWith_cons_cons, List.map_cons, List.zip_cons_cons, this]
theorem layObj_mem : ∀ (ys : List Obj) (ats : List Nat), ∀ z ∈ layObj ys ats, ∃ y ∈ ys, z.ws = y.ws ∧ z.kind = y.kind
  | [], _, z, h => by simp [layObj] at h
  | _ :: _, [], z, h => by simp [layObj] at h
  | y :: ys, a :: ats, z, h => by
    simp only [layObj, List.zipWith_cons_cons, List.mem_cons] at h
    rcases h with rfl | h
    · exact ⟨y, List.mem_cons_self .., rfl, rfl⟩
    · obtain ⟨y', h1, h2⟩ := layObj_mem ys ats z h
      exact ⟨y', List.mem_cons_of_mem _ h1, h2⟩
structure RsOk (lv : Nat) (u : List Bool) (regs : List Reg) : Prop where
  ulen : u.length ≤ 30
  inv : HInv lv regs
  pool : PoolInv u (regs.flatMap (·.pages))
theorem RsOk.turn {lv : Nat} {u : List Bool} {A B : List Reg} {g : Reg} (h : RsOk lv u (A ++ g :: B)) (hs : g.size = 0) {ys : List Obj} (hx : ys.Sublist g.objs) :
    ∃ ats u' fill' pages', layM 0 g.life (ys.map fun x => x.ws.length + 1) (freeP u g.pages) 0 [] = some (ats, u', fill', pages') ∧ ats.Nodup ∧ pages'.length ≤ 30 ∧ ats.length = ys.length ∧ u'.length = u.length ∧
      RsOk lv u' (A ++ { g with fill := fill', pages := pages', objs := layObj ys ats } :: B) := by
  have hi := h.inv.reg g (by simp)
  have hpk := hi.inf hs
  have hp1 : PoolInv u (g.pages ++ (A.flatMap (·.pages) ++ B.flatMap (·.pages))) := by
    have := h.pool
    refine this.perm ?_
    simp only [List.flatMap_append, List.flatMap_cons]
    exact (List.perm_append_comm_assoc _ _ _).symm
  have hfr := hp1.free
  have hf := hpk.fold
  have hsub : (ys.map fun x => x.ws.length + 1).Sublist ((g.objs.map fun x => (x.at_, x.ws.length + 1)).map (·.2)) := by
    simp only [List.map_map]
    exact hx.map _
  have hle := fold_sub hsub (Le2.refl (0, 0))
  rw [hf] at hle
  have hcnt : g.pages.length ≤ (freeP u g.pages).count false := by
    have c1 := hfr.count
    have c2 := count_both (freeP u g.pages)
    have c3 := hp1.len
    rw [freeP_len] at c2
    rw [List.length_append] at c3
    omega
  obtain ⟨⟨ats, u', fill', pages'⟩, hlay, hlen⟩ := layM_some (life := g.life) (ys.map fun x => x.ws.length + 1) (freeP u g.pages) 0 [] (by
    have : ((ys.map fun x => x.ws.length + 1).foldl step (0, 0)).1 ≤ g.pages.length := by unfold Le2 at hle; omega
    simp only [List.length_nil]; omega)
  have hp2 : PoolInv (freeP u g.pages) ([] ++ (A.flatMap (·.pages) ++ B.flatMap (·.pages))) := hfr
  obtain ⟨k1, k2⟩ := lay_packed Packed.nil hp2 hlay
  rw [List.nil_append] at k1
  have hal : ats.length = ys.length := by have := layM_len hlay; simpa using this
  have hul : u'.length = u.length := by have := (layM_pages hlay).2; simp only at this; rw [this, freeP_len]
  have hnd : ats.Nodup := by
    have := k1.nodup (fun x hx' => by
      obtain ⟨a, b⟩ := x
      have := (List.of_mem_zip hx').2
      obtain ⟨y, hy, rfl⟩ := List.mem_map.1 this
      have := hi.ws y (hx.subset hy)
      simp only; omega)
    rwa [List.map_fst_zip (by simp; omega)] at this
  have hul30 := h.ulen
  refine ⟨ats, u', fill', pages', hlay, hnd, ?_, hal, hul, by omega, ?_, ?_⟩
  · have : pages'.length ≤ u'.length := k2.sub_len (List.sublist_append_left pages' _)
    omega
  · have hI := h.inv
    have hmap : (A ++ { g with fill := fill', pages := pages', objs := layObj ys ats } :: B).map (·.life) = (A ++ g :: B).map (·.life) := by simp
    refine ⟨hI.lives, by simp, by have := hI.len; simpa using this, by rw [hmap]; exact hI.nodup, fun r hr => ?_, fun r hr => ?_⟩
    · rcases List.mem_append.1 hr with hr | hr
      · exact hI.life r (List.mem_append_left _ hr)
      · rcases List.mem_cons.1 hr with rfl | hr
        · exact hI.life g (by simp)
        · exact hI.life r (by simp [hr])
    · rcases List.mem_append.1 hr with hr | hr
      · exact hI.reg r (List.mem_append_left _ hr)
      · rcases List.mem_cons.1 hr with rfl | hr
        · refine ⟨hi.size, fun z hz => ?_, fun h0 => ?_, fun _ => ?_, fun z hz => ?_⟩
          · obtain ⟨y, hy, e1, e2⟩ := layObj_mem _ _ z hz
            rw [e1, e2]; exact hi.ws y (hx.subset hy)
          · simp only at h0; omega
          · show Packed ((layObj ys ats).map _) _ _
            rw [layObj_os ys ats hal]; exact k1
          · obtain ⟨y, hy, e1, e2⟩ := layObj_mem _ _ z hz
            rw [e1]; exact hi.wl y (hx.subset hy)
        · exact hI.reg r (by simp [hr])
  · refine k2.perm ?_
    simp only [List.flatMap_append, List.flatMap_cons]
    exact List.perm_append_comm_assoc _ _ _
end Go.Proofs.Ytoldkemimhebaaa