/- The functions of layer 15, on the ideal machine: laying objects, storing them, opening. -/
import Derived.Test.YtoldkemimhebaaaPgQ
set_option linter.unusedSimpArgs false
set_option linter.unusedVariables false
namespace Go.Proofs.Ytoldkemimhebaaa
open Go Go.IM

-- (*virgate/page.Heap).put

def j77_bbaabbbbbb : IC := (.seq (.region [oa 26 (.mov (.t 1)), oa 27 (.mov (.t 1)), oa 28 (.nilCheck (.t 27)), oa 29 (.fieldAddr 2 (.t 28)), oa 30 (.load none (.t 29)), oa 31 (.mov (.t 8)), oa 32 (.buildSlice 1 [(.int .i64 (0))] [(0, 1, (.t 31))]), oa 33 (.append 1 8 (.t 30) (.t 32)), oa 34 (.nilCheck (.t 26)), oa 35 (.fieldAddr 2 (.t 34)), ob (.store 1 (.t 35) (.t 33))] (kp 123 [1,2,7,8]))
  (.region [oa 36 (.mov (.t 2)), oa 37 (.mov (.t 1)), oa 38 (.mov (.t 8)), oa 39 (.bin .mul (.t 38) (ai 32)), oa 40 (.mov (.t 7)), oa 41 (.nilCheck (.t 36)), oa 42 (.fieldAddr 0 (.t 41)), ob (.store 1 (.t 42) (.t 39)), oa 43 (.nilCheck (.t 37)), oa 44 (.fieldAddr 3 (.t 43)), ob (.store 1 (.t 44) (.t 40))] (kp 123 [1,2])))
def j77_bbb : IC := (.seq (.region [oa 104 (.mov (.t 1)), oa 105 (.mov (.t 1)), oa 106 (.nilCheck (.t 105)), oa 107 (.fieldAddr 4 (.t 106)), oa 108 (.load none (.t 107)), oa 109 (.mov (.t 2)), oa 110 (.buildSlice 1 [(.ptr none)] [(0, 1, (.t 109))]), oa 111 (.append 1 8 (.t 108) (.t 110)), oa 112 (.nilCheck (.t 104)), oa 113 (.fieldAddr 4 (.t 112)), ob (.store 1 (.t 113) (.t 111))] (kp 123 [1,2]))
  (.seq (.region [oa 114 (.mov (.t 1)), oa 115 (.nilCheck (.t 114)), oa 116 (.fieldAddr 5 (.t 115)), oa 117 (.load none (.t 116)), oa 118 (.mov (.t 2)), oa 119 (.nilCheck (.t 118)), oa 120 (.fieldAddr 0 (.t 119)), oa 121 (.load none (.t 120)), oa 122 (.mov (.t 2)), ob (.mapSet (.one .i) (.t 117) (.t 121) (.t 122))] (kp 123 []))
  (.seq (.region [oa 6 (.mov (.c (.bool true)))] (kp 123 [6]))
  (sr 123 [6]))))
def c77 : IFn := ⟨123, [(6, none)],
  (.seq (.region [oa 6 (.mov (.c (.bool false)))] (kp 123 [0,1,2]))
  (.seq (.region [oa 10 (.mov (.t 2)), oa 11 (.nilCheck (.t 10)), oa 12 (.fieldAddr 2 (.t 11)), oa 13 (.load none (.t 12)), oa 14 (.lenSlice (.t 13)), oa 15 (.bin .add (.t 14) (ai 1)), oa 7 (.mov (.t 15))] (kp 123 [0,1,2,7]))
  (.seq (.block 0
  (.seq (.region [oa 46 (.mov (.t 1)), oa 47 (.nilCheck (.t 46)), oa 48 (.fieldAddr 1 (.t 47)), oa 49 (.load none (.t 48)), oa 50 (.bin .gtr (.t 49) (ai 0)), oa 45 (.mov (.t 50))] (kp 123 [0,1,2,7,45]))
  (.cond (.t 45)
  (.region [oa 51 (.mov (.t 2)), oa 52 (.mov (.t 1)), oa 53 (.nilCheck (.t 52)), oa 54 (.fieldAddr 0 (.t 53)), oa 55 (.load none (.t 54)), oa 56 (.bin .add (ai 1000000) (.t 55)), oa 57 (.nilCheck (.t 51)), oa 58 (.fieldAddr 0 (.t 57)), ob (.store 1 (.t 58) (.t 56))] (kp 123 [1,2]))
  (.seq (.region [oa 60 (.mov (.t 1)), oa 61 (.nilCheck (.t 60)), oa 62 (.fieldAddr 2 (.t 61)), oa 63 (.load none (.t 62)), oa 64 (.lenSlice (.t 63)), oa 65 (.bin .gtr (.t 64) (ai 0)), oa 66 (.mov (.t 65)), oc 67 (.mov (.t 1)) 66 tt, oc 68 (.nilCheck (.t 67)) 66 tt, oc 69 (.fieldAddr 3 (.t 68)) 66 tt, oc 70 (.load none (.t 69)) 66 tt, oc 71 (.mov (.t 7)) 66 tt, oc 72 (.bin .add (.t 70) (.t 71)) 66 tt, oc 73 (.bin .leq (.t 72) (ai 32)) 66 tt, oa 74 (.pick (.t 66) (.t 73) (.c (.bool false))), oa 59 (.mov (.t 74))] (kp 123 [0,1,2,7,59]))
  (.cond (.t 59)
  (.seq (.region [oa 75 (.mov (.t 2)), oa 76 (.mov (.t 1)), oa 77 (.nilCheck (.t 76)), oa 78 (.fieldAddr 2 (.t 77)), oa 79 (.load none (.t 78)), oa 80 (.mov (.t 1)), oa 81 (.nilCheck (.t 80)), oa 82 (.fieldAddr 2 (.t 81)), oa 83 (.load none (.t 82)), oa 84 (.lenSlice (.t 83)), oa 85 (.bin .sub (.t 84) (ai 1)), oa 86 (.indexAddr 1 (.t 79) (.t 85)), oa 87 (.load none (.t 86)), oa 88 (.bin .mul (.t 87) (ai 32)), oa 89 (.mov (.t 1)), oa 90 (.nilCheck (.t 89)), oa 91 (.fieldAddr 3 (.t 90)), oa 92 (.load none (.t 91)), oa 93 (.bin .add (.t 88) (.t 92)), oa 94 (.nilCheck (.t 75)), oa 95 (.fieldAddr 0 (.t 94)), ob (.store 1 (.t 95) (.t 93))] (kp 123 [1,2,7]))
  (.region [oa 96 (.mov (.t 1)), oa 97 (.nilCheck (.t 96)), oa 98 (.fieldAddr 3 (.t 97)), oa 99 (.load none (.t 98)), oa 100 (.mov (.t 7)), oa 101 (.bin .add (.t 99) (.t 100)), oa 102 (.nilCheck (.t 96)), oa 103 (.fieldAddr 3 (.t 102)), ob (.store 1 (.t 103) (.t 101))] (kp 123 [1,2])))
  (.seq (.region [oa 17 (.mov (.t 0)), oa 18 (.nilCheck (.t 17)), oa 19 (.fieldAddr 0 (.t 18)), oa 20 (.load none (.t 19)), oa 21 (.call 112 [(.t 20)]), oa 16 (.mov (.t 21)), oa 22 (.extract (.t 16) 0), oa 23 (.extract (.t 16) 1), oa 8 (.mov (.t 22)), oa 9 (.mov (.t 23))] (kp 123 [1,2,7,8,9]))
  (.seq (.seq (.region [oa 24 (.mov (.t 9)), oa 25 (.un .not (.t 24))] (kp 123 [1,2,7,8,25]))
  (.cond (.t 25)
  (.seq (.region [oa 6 (.mov (.c (.bool false)))] (kp 123 [6]))
  (sr 123 [6]))
  (sk 123 [1,2,7,8])))
  j77_bbaabbbbbb)))))))
  j77_bbb)))⟩
theorem F77 : shutF Try.prog 77 = some c77 := by kernel_rfl

-- (*virgate/page.Heap).Store

def j34_bbbbab : IC := (.cond (.t 66)
  (.seq (.region [oa 67 (.build [(.int .i64 (0)), (.int .i64 (0))] []), ob (.store 2 (.t 8) (.t 67)), oa 9 (.mov (ai 81))] (kp 77 [8,9]))
  (sr 77 [8,9]))
  (sk 77 [8,10,12]))
def j34_bbbbb : IC := (.seq (.region [oa 68 (.mov (.t 12)), oa 69 (.nilCheck (.t 68)), oa 70 (.fieldAddr 0 (.t 69)), oa 71 (.load none (.t 70)), oa 72 (.mov (.t 10)), oa 73 (.nilCheck (.t 72)), oa 74 (.fieldAddr 0 (.t 73)), oa 75 (.load none (.t 74)), oa 76 (.build [(.int .i64 (0)), (.int .i64 (0))] [(0, 1, (.t 71)), (1, 1, (.t 75))]), ob (.store 2 (.t 8) (.t 76)), oa 9 (.mov (ai 0))] (kp 77 [8,9]))
  (sr 77 [8,9]))
def c34 : IFn := ⟨77, [(8, (some (some 2))), (9, none)],
  (.seq (.region [oa 8 (.alloc [(.int .i64 (0)), (.int .i64 (0))]), oa 9 (.mov (ai 0))] (kp 77 [0,1,2,3,8]))
  (.seq (.region [oa 14 (.mov (.t 0)), oa 15 (.mov (.t 1)), oa 16 (.call 72 [(.t 14), (.t 15)]), oa 13 (.mov (.t 16)), oa 17 (.extract (.t 13) 0), oa 18 (.extract (.t 13) 1), oa 10 (.mov (.t 17)), oa 11 (.mov (.t 18))] (kp 77 [0,2,3,8,10,11]))
  (.seq (.block 0
  (.seq (.region [oa 20 (.mov (.t 11)), oa 21 (.bin .neq (.t 20) (ai 0)), oa 19 (.mov (.t 21))] (kp 77 [0,2,3,8,10,11,19]))
  (.cond (.t 19)
  (.seq (.region [oa 22 (.build [(.int .i64 (0)), (.int .i64 (0))] []), oa 23 (.mov (.t 11)), ob (.store 2 (.t 8) (.t 22)), oa 9 (.mov (.t 23))] (kp 77 [8,9]))
  (sr 77 [8,9]))
  (.seq (.region [oa 25 (.mov (.t 2)), oa 26 (.call 56 [(ai 1), (.t 25), (ai 255)]), oa 27 (.un .not (.t 26)), oa 28 (.mov (.t 27)), oc 29 (.mov (.t 3)) 28 ff, oc 30 (.call 56 [(ai 1), (.t 29), (ai 31)]) 28 ff, oc 31 (.un .not (.t 30)) 28 ff, oa 32 (.pick (.t 28) (.c (.bool true)) (.t 31)), oa 33 (.mov (.t 32)), oc 34 (.mov (.t 10)) 33 ff, oc 35 (.nilCheck (.t 34)) 33 ff, oc 36 (.fieldAddr 1 (.t 35)) 33 ff, oc 37 (.load none (.t 36)) 33 ff, oc 38 (.bin .gtr (.t 37) (ai 0)) 33 ff, oc 39 (.mov (.t 38)) 33 ff, oc 40 (.mov (.t 3)) 39 tt, oc 41 (.mov (.t 10)) 39 tt, oc 42 (.nilCheck (.t 41)) 39 tt, oc 43 (.fieldAddr 1 (.t 42)) 39 tt, oc 44 (.load none (.t 43)) 39 tt, oc 45 (.bin .gtr (.t 40) (.t 44)) 39 tt, oc 46 (.mov (.t 45)) 39 tt, oc 47 (.mov (.t 10)) 46 ff, oc 48 (.nilCheck (.t 47)) 46 ff, oc 49 (.fieldAddr 4 (.t 48)) 46 ff, oc 50 (.load none (.t 49)) 46 ff, oc 51 (.lenSlice (.t 50)) 46 ff, oc 52 (.bin .gtr (.t 51) (ai 0)) 46 ff, oc 53 (.pick (.t 46) (.c (.bool true)) (.t 52)) 39 tt, oc 54 (.pick (.t 39) (.t 53) (.c (.bool false))) 33 ff, oa 55 (.pick (.t 33) (.c (.bool true)) (.t 54)), oa 24 (.mov (.t 55))] (kp 77 [0,2,3,8,10,24]))
  (.cond (.t 24)
  (.seq (.region [oa 56 (.build [(.int .i64 (0)), (.int .i64 (0))] []), ob (.store 2 (.t 8) (.t 56)), oa 9 (.mov (ai 2))] (kp 77 [8,9]))
  (sr 77 [8,9]))
  (sk 77 [0,2,3,8,10]))))))
  (.seq (.region [oa 57 (.mov (.t 2)), oa 58 (.mov (.t 3)), oa 59 (.mkSlice 16 [(.int .i64 (0)), (.int .i64 (0))] (.t 58) (.t 58)), oa 60 (.build [(.int .i64 (0)), (.int .i64 (0)), (.slice none 0 (some 0))] [(1, 1, (.t 57)), (2, 1, (.t 59))]), oa 61 (.box (.t 60)), oa 12 (.mov (.t 61))] (kp 77 [0,8,10,12]))
  (.seq (.seq (.region [oa 62 (.mov (.t 0)), oa 63 (.mov (.t 10)), oa 64 (.mov (.t 12)), oa 65 (.call 77 [(.t 62), (.t 63), (.t 64)]), oa 66 (.un .not (.t 65))] (kp 77 [8,10,12,66]))
  j34_bbbbab)
  j34_bbbbb)))))⟩
theorem F34 : shutF Try.prog 34 = some c34 := by kernel_rfl


section
variable {o : Nat → Option O} {s : St} {C F : Ch} {Q : V → St → Prop}
set_option maxRecDepth 10000

theorem s77_tail {gid obk plk xid at_ : Nat} {lv sv pgv fv kv slv : V} {l : List PObj} {pl : O} {f : Int → Option V}
    (H : Holds o s ((gid, some (.cells [lv, sv, pgv, fv, rowV obk l.length, .map (some (.new plk))] none)) :: (plk, some pl) :: (xid, some (.cells [I at_, kv, slv] none)) :: (obk, PReg.obO l) :: F))
    (hm : MapIs (fun n : Int => I n) f pl) (hl : l.length < 200000)
    (q : ∀ s' obk' pl', Holds o s' ((gid, some (.cells [lv, sv, pgv, fv, rowV obk' (l.length + 1), .map (some (.new plk))] none)) :: (plk, some pl') :: (xid, some (.cells [I at_, kv, slv] none)) :: (obk', rowO 1 (l.length + 1) (l.map (fun x => ptrN x.id) ++ [ptrN xid])) :: F) →
      MapIs (fun n : Int => I n) (fun b => if b = at_ then some (ptrN xid) else f b) pl' → Q (.bool true) s') :
    WP (go (loop PF) (call PF) j77_bbb (sp 123 [(1, ptrN gid), (2, ptrN xid)]) s (finR [(6, none)])) Q := by
  simp -implicitDefEqProofs only [↓GP, GB, GL, Nat.reduceAdd, Nat.reduceSub, Nat.reduceEqDiff, Nat.reduceMul, Nat.reduceLeDiff, Int.reduceBNe, Int.reduceBEq, Nat.reduceLT, reduceCtorEq, j77_bbb, H.f3]
  refine wp_append (cs := l.map (fun x => ptrN x.id)) ((H.alloc _).r4) (by simp) (new_cells' (alloc_new_same _ _) rfl) rfl rfl (by omega) (by unfold maxRow; omega) (by unfold maxRow; omega) fun obk' s1 h1 => ?_
  have h2 := h1.r1.tl
  simp -implicitDefEqProofs only [↓GP, GB, GL, Nat.reduceAdd, Nat.reduceSub, Nat.reduceEqDiff, Nat.reduceMul, Nat.reduceLeDiff, Int.reduceBNe, Int.reduceBEq, Nat.reduceLT, reduceCtorEq, h2.tl.f3]
  refine wp_mapSet (enc := fun n : Int => I n) keyOk_int hm ((h2.set1 _).tl.tl.g0) fun pl' hm' => ?_
  simp -implicitDefEqProofs only [↓GP, GB, GL, Nat.reduceAdd, Nat.reduceSub, Nat.reduceEqDiff, Nat.reduceMul, Nat.reduceLeDiff, Int.reduceBNe, Int.reduceBEq, Nat.reduceLT, reduceCtorEq]
  have h4 := (h2.set1 (.cells [lv, sv, pgv, fv, rowV obk' (l.length + 1), .map (some (.new plk))] none)).set2 pl'
  exact q _ obk' pl' (Holds.of (h4) (fun k => by simp +arith only [HA, HB]) (fun k x => by simp only [HA, HC]; grind only)) hm'

theorem ok_add {g : PReg} (h : g.ok) {x : PObj} (hf : ∀ y ∈ g.objs, y.b.at_ ≠ x.b.at_) {pl' : O}
    (h' : MapIs (fun n : Int => I n) (fun b => if b = x.b.at_ then some (ptrN x.id) else (g.objs.find? fun x => decide ((x.b.at_ : Int) = b)).map fun x => ptrN x.id) pl') :
    MapIs (fun n : Int => I n) (fun a => ((g.objs ++ [x]).find? fun x => decide ((x.b.at_ : Int) = a)).map fun x => ptrN x.id) pl' := by
  obtain ⟨l, c, e, hl⟩ := h'
  refine ⟨l, c, e, fun a => (hl a).trans ?_⟩
  show (if a = x.b.at_ then some (ptrN x.id) else _) = Option.map _ ((g.objs ++ [x]).find? _)
  rw [List.find?_append]
  by_cases ha : a = x.b.at_
  · subst ha
    have : g.objs.find? (fun y => decide ((y.b.at_ : Int) = (x.b.at_ : Int))) = none := by
      rw [List.find?_eq_none]; intro y hy; have := hf y hy; simp; omega
    simp [this]
  · have : ¬ ((x.b.at_ : Int) = a) := fun e => ha e.symm
    simp [ha, this]

def PObj.at (x : PObj) (a : Nat) : PObj := { x with b := { x.b with at_ := a } }
/-- The region behind an object is laid. -/
def PReg.lay (g : PReg) (obk : Nat) (pl : O) (x : PObj) : PReg := { g with obk := obk, pl := pl, objs := g.objs ++ [x] }

theorem s77_fin {h p r : Nat} {u : List Bool} {c d : V} {g : PReg} {x : PObj} (H : Holds o s (g.ch ++ (x.ch ++ F))) (hg : g.ok) (hs : 0 < g.size) (hs' : g.size ≤ 31) (hl : g.life ≤ 100000) (hn : g.objs.length ≤ 100000) (hw : x.b.ws.length ≤ 31)
    (hf : ∀ y ∈ g.objs, y.b.at_ ≠ 1000000 + g.life)
    (q : ∀ s' obk' pl', Holds o s' ((g.lay obk' pl' (x.at (1000000 + g.life))).ch ++ F) → (g.lay obk' pl' (x.at (1000000 + g.life))).ok → Q (.bool true) s') :
    WP (call PF 77 [ptrN h, ptrN g.id, ptrN x.id] s) Q := by
  have H1 : Holds o s ((g.id, some g.hd) :: (g.plk, some g.pl) :: (x.id, some x.O) :: (g.obk, PReg.obO g.objs) :: ((g.pgk, pagesO g.pages) :: (x.wid, some x.W) :: (g.objs.flatMap PObj.ch ++ F))) := (Holds.of (H) (fun k => by simp +arith only [HA, HB]) (fun k x => by simp only [HA, HC]; grind only))
  have f := H1.f3
  simp only [PReg.hd, PObj.O] at f
  have h1 : ((g.size : Int) > 0) := by omega
  have w1 := wrap_add1 (a := x.b.ws.length) (by omega)
  have w2 : wrapI .i64 (1000000 + (g.life : Int)) = I ((1000000 + g.life : Nat) : Int) := wrap_nat (by omega) (by omega)
  rw [call_run F77]; simp -implicitDefEqProofs only [↓GP, GB, GL, Nat.reduceAdd, Nat.reduceSub, Nat.reduceEqDiff, Nat.reduceMul, Nat.reduceLeDiff, Int.reduceBNe, Int.reduceBEq, Nat.reduceLT, reduceCtorEq, c77, f, w1, w2, h1]
  refine s77_tail (F := (g.pgk, pagesO g.pages) :: (x.wid, some x.W) :: (g.objs.flatMap PObj.ch ++ F)) (l := g.objs) (obk := g.obk) (plk := g.plk) (pl := g.pl) (H1.set2 (.cells [I (1000000 + g.life : Nat), I x.b.kind, slN x.wid x.b.ws.length] none)) hg (by omega) fun s' obk' pl' h' hm => ?_
  refine q s' obk' pl' (Holds.of (h') (fun k => by simp +arith only [PReg.lay, PObj.at, PReg.hd, PObj.O, PObj.W, PReg.obO, List.length_append, List.length_cons, List.length_nil, Nat.zero_add, List.map_append, List.map_cons, List.map_nil, HA, HB]) (fun k x => by simp only [PReg.lay, PObj.at, PReg.hd, PObj.O, PObj.W, PReg.obO, List.length_append, List.length_cons, List.length_nil, Nat.zero_add, List.map_append, List.map_cons, List.map_nil, HA, HC]; grind only)) ?_
  exact ok_add (x := x.at (1000000 + g.life)) hg hf hm

theorem s77_fit {h p r pg : Nat} {u : List Bool} {c d : V} {g : PReg} {x : PObj} (H : Holds o s (g.ch ++ (x.ch ++ F))) (hg : g.ok) (hs : g.size = 0) (hn : g.objs.length ≤ 100000) (hw : x.b.ws.length ≤ 31)
    (hpg : g.pages.getLast? = some pg) (hpg' : pg < 400) (hpl : g.pages.length ≤ 400) (hfit : g.fill + (x.b.ws.length + 1) ≤ 32)
    (hf : ∀ y ∈ g.objs, y.b.at_ ≠ pg * 32 + g.fill)
    (q : ∀ s' obk' pl', Holds o s' ((({ g with fill := g.fill + (x.b.ws.length + 1) } : PReg).lay obk' pl' (x.at (pg * 32 + g.fill))).ch ++ F) → (({ g with fill := g.fill + (x.b.ws.length + 1) } : PReg).lay obk' pl' (x.at (pg * 32 + g.fill))).ok → Q (.bool true) s') :
    WP (call PF 77 [ptrN h, ptrN g.id, ptrN x.id] s) Q := by
  have hpos : 0 < g.pages.length := by
    cases hp : g.pages with
    | nil => rw [hp] at hpg; simp at hpg
    | cons a l => simp
  have H1 : Holds o s ((g.id, some g.hd) :: (g.plk, some g.pl) :: (x.id, some x.O) :: (g.obk, PReg.obO g.objs) :: ((g.pgk, pagesO g.pages) :: (x.wid, some x.W) :: (g.objs.flatMap PObj.ch ++ F))) := (Holds.of (H) (fun k => by simp +arith only [HA, HB]) (fun k x => by simp only [HA, HC]; grind only))
  have f := H1.f3
  have fp : s.new g.pgk = some (.cells (g.pages.map fun n : Nat => I n) (some 1)) ∧ g.pgk < s.next := by
    have h5 := H1.tl.tl.tl.tl
    unfold pagesO at h5
    rw [rowO_pos hpos] at h5
    exact h5.f1
  have fne : g.pgk ≠ x.id := by
    have h5 := H1.tl.tl.r2
    unfold pagesO at h5
    rw [rowO_pos hpos] at h5
    exact h5.f2.2.2.1
  simp only [PReg.hd, PObj.O] at f
  have h1 : ¬ ((g.size : Int) > 0) := by omega
  have h2 : ((g.pages.length : Int) > 0) := by omega
  have h3 : (((g.fill + (x.b.ws.length + 1) : Nat) : Int) ≤ 32) := by omega
  have w1 := wrap_add1 (a := x.b.ws.length) (by omega)
  have w2 : wrapI .i64 ((g.fill : Int) + ((x.b.ws.length + 1 : Nat) : Int)) = I ((g.fill + (x.b.ws.length + 1) : Nat) : Int) := wrap_add (by omega) (by omega)
  have w3 := wrap_sub1 (a := g.pages.length) (by omega) hpos
  have w4 : wrapI .i64 ((pg : Int) * 32) = I ((pg * 32 : Nat) : Int) := wrap_nat (by omega) (by omega)
  have w5 : wrapI .i64 (((pg * 32 : Nat) : Int) + (g.fill : Int)) = I ((pg * 32 + g.fill : Nat) : Int) := wrap_add (by omega) (by omega)
  have hgl : (g.pages.map fun n : Nat => I n)[g.pages.length - 1]? = some (I pg) := by
    rw [List.getLast?_eq_getElem?] at hpg
    rw [List.getElem?_map, hpg]; rfl
  rw [call_run F77]; simp -implicitDefEqProofs only [↓GP, GB, GL, Nat.reduceAdd, Nat.reduceSub, Nat.reduceEqDiff, Nat.reduceMul, Nat.reduceLeDiff, Int.reduceBNe, Int.reduceBEq, Nat.reduceLT, reduceCtorEq, c77, f, fp, fne, w1, w2, w3, w4, w5, h1, h2, h3, hgl, ix_row (show g.pages.length - 1 < g.pages.length by omega)]
  refine s77_tail (F := (g.pgk, pagesO g.pages) :: (x.wid, some x.W) :: (g.objs.flatMap PObj.ch ++ F)) (l := g.objs) (obk := g.obk) (plk := g.plk) (pl := g.pl) ((H1.set2 (.cells [I (pg * 32 + g.fill : Nat), I x.b.kind, slN x.wid x.b.ws.length] none)).set0 (.cells [I g.life, I g.size, rowV g.pgk g.pages.length, I (g.fill + (x.b.ws.length + 1) : Nat), rowV g.obk g.objs.length, .map (some (.new g.plk))] none)) hg (by omega) fun s' obk' pl' h' hm => ?_
  refine q s' obk' pl' (Holds.of (h') (fun k => by simp +arith only [PReg.lay, PObj.at, PReg.hd, PObj.O, PObj.W, PReg.obO, List.length_append, List.length_cons, List.length_nil, Nat.zero_add, List.map_append, List.map_cons, List.map_nil, HA, HB]) (fun k x => by simp only [PReg.lay, PObj.at, PReg.hd, PObj.O, PObj.W, PReg.obO, List.length_append, List.length_cons, List.length_nil, Nat.zero_add, List.map_append, List.map_cons, List.map_nil, HA, HC]; grind only)) ?_
  exact ok_add (g := g) (x := x.at (pg * 32 + g.fill)) hg hf hm

/-- A new page is needed. -/
def Needs (g : PReg) (need : Nat) : Prop := g.size = 0 ∧ (g.pages = [] ∨ ¬ g.fill + need ≤ 32)

theorem s77_full {h p r : Nat} {u : List Bool} {c d : V} {g : PReg} {x : PObj} (H : Holds o s (poolC p r u ++ (g.ch ++ (x.ch ++ F)))) (mh : (h, some (.cells [ptrN p, c, d] none)) ∈ F) (hu : u.length ≤ 400)
    (hw : x.b.ws.length ≤ 31) (hfl : g.fill ≤ 32) (hpl : g.pages.length ≤ 400) (hneed : Needs g (x.b.ws.length + 1)) (ht : takeP u = none) : call PF 77 [ptrN h, ptrN g.id, ptrN x.id] s = some (.bool false, s) := by
  have fh := H.mem (List.mem_append_right _ (List.mem_append_right _ (List.mem_append_right _ mh)))
  have H1 : Holds o s ((g.id, some g.hd) :: (x.id, some x.O) :: (poolC p r u ++ F)) := (Holds.of (H) (fun k => by simp +arith only [HA, HB]) (fun k x => by simp only [HA, HC]; grind only))
  have f := H1.f2
  simp only [PReg.hd, PObj.O] at f
  have e := s112_none (s := s) H1.tl.tl hu ht
  have h1 : ¬ ((g.size : Int) > 0) := by have := hneed.1; omega
  have w1 := wrap_add1 (a := x.b.ws.length) (by omega)
  rcases hneed.2 with hp | hp
  · have h2 : ¬ ((0 : Int) > 0) := by omega
    rw [call_run F77]; simp -implicitDefEqProofs only [↓GP, GB, GL, Nat.reduceAdd, Nat.reduceSub, Nat.reduceEqDiff, Nat.reduceMul, Nat.reduceLeDiff, Int.reduceBNe, Int.reduceBEq, Nat.reduceLT, reduceCtorEq, c77, f, fh, w1, h1, h2, e, hp, rowV_zero, lenV_slice, Int.natCast_zero]
  · have w2 : wrapI .i64 ((g.fill : Int) + ((x.b.ws.length + 1 : Nat) : Int)) = I ((g.fill + (x.b.ws.length + 1) : Nat) : Int) := wrap_add (by omega) (by omega)
    have h3 : ¬ (((g.fill + (x.b.ws.length + 1) : Nat) : Int) ≤ 32) := by omega
    by_cases h2 : ((g.pages.length : Int) > 0)
    · rw [call_run F77]; simp -implicitDefEqProofs only [↓GP, GB, GL, Nat.reduceAdd, Nat.reduceSub, Nat.reduceEqDiff, Nat.reduceMul, Nat.reduceLeDiff, Int.reduceBNe, Int.reduceBEq, Nat.reduceLT, reduceCtorEq, c77, f, fh, w1, w2, h1, h2, h3, e]
    · rw [call_run F77]; simp -implicitDefEqProofs only [↓GP, GB, GL, Nat.reduceAdd, Nat.reduceSub, Nat.reduceEqDiff, Nat.reduceMul, Nat.reduceLeDiff, Int.reduceBNe, Int.reduceBEq, Nat.reduceLT, reduceCtorEq, c77, f, fh, w1, w2, h1, h2, h3, e]

theorem s77_page {h p r n : Nat} {u : List Bool} {c d : V} {g : PReg} {x : PObj} (H : Holds o s (poolC p r u ++ (g.ch ++ (x.ch ++ F)))) (mh : (h, some (.cells [ptrN p, c, d] none)) ∈ F) (hu : u.length ≤ 400)
    (hg : g.ok) (hn : g.objs.length ≤ 100000) (hw : x.b.ws.length ≤ 31) (hfl : g.fill ≤ 32) (hpl : g.pages.length ≤ 400) (hneed : Needs g (x.b.ws.length + 1)) (ht : takeP u = some n)
    (hf : ∀ y ∈ g.objs, y.b.at_ ≠ n * 32)
    (q : ∀ s' pgk' obk' pl', Holds o s' (poolC p r (u.set n true) ++ ((({ g with pgk := pgk', pages := g.pages ++ [n], fill := x.b.ws.length + 1 } : PReg).lay obk' pl' (x.at (n * 32))).ch ++ F)) →
      (({ g with pgk := pgk', pages := g.pages ++ [n], fill := x.b.ws.length + 1 } : PReg).lay obk' pl' (x.at (n * 32))).ok → Q (.bool true) s') : WP (call PF 77 [ptrN h, ptrN g.id, ptrN x.id] s) Q := by
  have hn' : n < u.length := (List.findIdx?_eq_some_iff_getElem.1 ht).1
  have fh := H.mem (List.mem_append_right _ (List.mem_append_right _ (List.mem_append_right _ mh)))
  have H1 : Holds o s ((g.id, some g.hd) :: (x.id, some x.O) :: (poolC p r u ++ F)) := (Holds.of (H) (fun k => by simp +arith only [HA, HB]) (fun k x => by simp only [HA, HC]; grind only))
  have f := H1.f2
  simp only [PReg.hd, PObj.O] at f
  have h1 : ¬ ((g.size : Int) > 0) := by have := hneed.1; omega
  have w1 := wrap_add1 (a := x.b.ws.length) (by omega)
  have w2 : wrapI .i64 ((g.fill : Int) + ((x.b.ws.length + 1 : Nat) : Int)) = I ((g.fill + (x.b.ws.length + 1) : Nat) : Int) := wrap_add (by omega) (by omega)
  have w3 : wrapI .i64 ((n : Int) * 32) = I ((n * 32 : Nat) : Int) := wrap_nat (by omega) (by omega)
  have fin : ∀ s1, Holds o s1 (poolC p r (u.set n true) ++ (g.ch ++ (x.ch ++ F))) →
      WP (go (loop PF) (call PF) j77_bbaabbbbbb (sp 123 [(1, ptrN g.id), (2, ptrN x.id), (7, I (x.b.ws.length + 1 : Nat)), (8, I n)]) s1 (blockK 0 (seqK (loop PF) (call PF) j77_bbb (finR [(6, none)])))) Q := by
    intro s1 H
    have H2 : Holds o s1 ((g.id, some g.hd) :: (g.pgk, pagesO g.pages) :: (x.id, some x.O) :: (g.plk, some g.pl) :: (g.obk, PReg.obO g.objs) :: (x.wid, some x.W) :: (g.objs.flatMap PObj.ch ++ (poolC p r (u.set n true) ++ F))) := (Holds.of (H) (fun k => by simp +arith only [HA, HB]) (fun k x => by simp only [HA, HC]; grind only))
    have f := H2.f1
    simp only [PReg.hd] at f
    simp -implicitDefEqProofs only [↓GP, GB, GL, Nat.reduceAdd, Nat.reduceSub, Nat.reduceEqDiff, Nat.reduceMul, Nat.reduceLeDiff, Int.reduceBNe, Int.reduceBEq, Nat.reduceLT, reduceCtorEq, j77_bbaabbbbbb, f]
    refine wp_append (cs := g.pages.map (fun n : Nat => I n)) ((H2.alloc _).r2) (by simp) (new_cells' (alloc_new_same _ _) rfl) rfl rfl (by omega) (by unfold maxRow; omega) (by unfold maxRow; omega) fun pgk' s2 h2 => ?_
    have H3 : Holds o s2 ((g.id, some g.hd) :: (g.plk, some g.pl) :: (x.id, some x.O) :: (g.obk, PReg.obO g.objs) :: (pgk', rowO 1 (g.pages.length + 1) (g.pages.map (fun n : Nat => I n) ++ [I n])) :: (x.wid, some x.W) :: (g.objs.flatMap PObj.ch ++ (poolC p r (u.set n true) ++ F))) := (Holds.of (h2) (fun k => by simp +arith only [HA, HB]) (fun k x => by simp only [HA, HC]; grind only))
    have f := H3.f3
    simp only [PReg.hd, PObj.O] at f
    simp -implicitDefEqProofs only [↓GP, GB, GL, Nat.reduceAdd, Nat.reduceSub, Nat.reduceEqDiff, Nat.reduceMul, Nat.reduceLeDiff, Int.reduceBNe, Int.reduceBEq, Nat.reduceLT, reduceCtorEq, f, w3]
    have H4 := ((H3.set0 (.cells [I g.life, I g.size, rowV pgk' (g.pages.length + 1), I g.fill, rowV g.obk g.objs.length, .map (some (.new g.plk))] none)).set2 (.cells [I (n * 32 : Nat), I x.b.kind, slN x.wid x.b.ws.length] none)).set0
      (.cells [I g.life, I g.size, rowV pgk' (g.pages.length + 1), I (x.b.ws.length + 1 : Nat), rowV g.obk g.objs.length, .map (some (.new g.plk))] none)
    refine s77_tail (F := (pgk', rowO 1 (g.pages.length + 1) (g.pages.map (fun n : Nat => I n) ++ [I n])) :: (x.wid, some x.W) :: (g.objs.flatMap PObj.ch ++ (poolC p r (u.set n true) ++ F))) (l := g.objs) (obk := g.obk) (plk := g.plk) (pl := g.pl) H4 hg (by omega) fun s' obk' pl' h' hm => ?_
    refine q s' pgk' obk' pl' (Holds.of (h') (fun k => by simp +arith only [PReg.lay, PObj.at, PReg.hd, PObj.O, PObj.W, PReg.obO, pagesO, List.length_append, List.length_cons, List.length_nil, Nat.zero_add, List.map_append, List.map_cons, List.map_nil, HA, HB]) (fun k x => by simp only [PReg.lay, PObj.at, PReg.hd, PObj.O, PObj.W, PReg.obO, pagesO, List.length_append, List.length_cons, List.length_nil, Nat.zero_add, List.map_append, List.map_cons, List.map_nil, HA, HC]; grind only)) ?_
    exact ok_add (g := g) (x := x.at (n * 32)) hg hf hm
  rcases hneed.2 with hp | hp
  · have h2 : ¬ ((0 : Int) > 0) := by omega
    rw [call_run F77]; simp -implicitDefEqProofs only [↓GP, GB, GL, Nat.reduceAdd, Nat.reduceSub, Nat.reduceEqDiff, Nat.reduceMul, Nat.reduceLeDiff, Int.reduceBNe, Int.reduceBEq, Nat.reduceLT, reduceCtorEq, c77, f, fh, w1, h1, h2, hp, rowV_zero, lenV_slice, Int.natCast_zero, List.length_nil]
    refine wp_in (s112 (F := g.ch ++ (x.ch ++ F)) H hu ht fun s1 h1 => ?_)
    simp -implicitDefEqProofs only [↓GP, GB, GL, Nat.reduceAdd, Nat.reduceSub, Nat.reduceEqDiff, Nat.reduceMul, Nat.reduceLeDiff, Int.reduceBNe, Int.reduceBEq, Nat.reduceLT, reduceCtorEq]
    exact fin s1 h1
  · have h3 : ¬ (((g.fill + (x.b.ws.length + 1) : Nat) : Int) ≤ 32) := by omega
    by_cases h2 : ((g.pages.length : Int) > 0)
    · rw [call_run F77]; simp -implicitDefEqProofs only [↓GP, GB, GL, Nat.reduceAdd, Nat.reduceSub, Nat.reduceEqDiff, Nat.reduceMul, Nat.reduceLeDiff, Int.reduceBNe, Int.reduceBEq, Nat.reduceLT, reduceCtorEq, c77, f, fh, w1, w2, h1, h2, h3]
      refine wp_in (s112 (F := g.ch ++ (x.ch ++ F)) H hu ht fun s1 h1 => ?_)
      simp -implicitDefEqProofs only [↓GP, GB, GL, Nat.reduceAdd, Nat.reduceSub, Nat.reduceEqDiff, Nat.reduceMul, Nat.reduceLeDiff, Int.reduceBNe, Int.reduceBEq, Nat.reduceLT, reduceCtorEq]
      exact fin s1 h1
    · rw [call_run F77]; simp -implicitDefEqProofs only [↓GP, GB, GL, Nat.reduceAdd, Nat.reduceSub, Nat.reduceEqDiff, Nat.reduceMul, Nat.reduceLeDiff, Int.reduceBNe, Int.reduceBEq, Nat.reduceLT, reduceCtorEq, c77, f, fh, w1, w2, h1, h2, h3]
      refine wp_in (s112 (F := g.ch ++ (x.ch ++ F)) H hu ht fun s1 h1 => ?_)
      simp -implicitDefEqProofs only [↓GP, GB, GL, Nat.reduceAdd, Nat.reduceSub, Nat.reduceEqDiff, Nat.reduceMul, Nat.reduceLeDiff, Int.reduceBNe, Int.reduceBEq, Nat.reduceLT, reduceCtorEq]
      exact fin s1 h1
end
end Go.Proofs.Ytoldkemimhebaaa
