/- The functions of layer 15's reference, on the ideal machine: placing, storing, writing. -/
import Derived.Test.YtoldkemimhebaaaPgF
set_option linter.unusedSimpArgs false
set_option linter.unusedVariables false
namespace Go.Proofs.Ytoldkemimhebaaa
open Go Go.IM

-- (*virgate/virgateref15.Heap).place

def j117_bbb : IC := (.seq (.region [oa 42 (.fieldAddr 2 (.t 7)), oa 43 (.load none (.t 42)), oa 44 (.fieldAddr 2 (.t 7)), oa 45 (.load none (.t 44)), oa 46 (.lenSlice (.t 45)), oa 47 (.bin .sub (.t 46) (ai 1)), oa 48 (.indexAddr 1 (.t 43) (.t 47)), oa 49 (.load none (.t 48)), oa 50 (.bin .mul (.t 49) (ai 32)), oa 51 (.fieldAddr 3 (.t 7)), oa 52 (.load none (.t 51)), oa 53 (.bin .add (.t 50) (.t 52)), oa 9 (.mov (.t 53))] (kp 67 [0,1,2,7,9]))
  (.seq (.region [oa 54 (.fieldAddr 3 (.t 7)), oa 55 (.load none (.t 54)), oa 56 (.mov (.t 2)), oa 57 (.bin .add (.t 55) (.t 56)), oa 58 (.fieldAddr 3 (.t 7)), ob (.store 1 (.t 58) (.t 57))] (kp 67 [0,1,7,9]))
  (.seq (.region [oa 59 (.mov (.t 0)), oa 60 (.nilCheck (.t 59)), oa 61 (.fieldAddr 1 (.t 60)), oa 62 (.load none (.t 61)), oa 63 (.mov (.t 1)), oa 64 (.load (some 5) (.t 7)), oa 65 (.indexAddr 5 (.t 62) (.t 63)), ob (.store 5 (.t 65) (.t 64))] (kp 67 [9]))
  (.seq (.region [oa 66 (.mov (.t 9)), oa 6 (.mov (.t 66))] (kp 67 [6]))
  (sr 67 [6])))))
def c117 : IFn := ⟨67, [(6, none)],
  (.seq (.region [oa 6 (.mov (ai 0))] (kp 67 [0,1,2]))
  (.seq (.region [oa 10 (.mov (.t 0)), oa 11 (.nilCheck (.t 10)), oa 12 (.fieldAddr 1 (.t 11)), oa 13 (.load none (.t 12)), oa 14 (.mov (.t 1)), oa 15 (.indexAddr 5 (.t 13) (.t 14)), oa 16 (.load (some 5) (.t 15)), oa 7 (.alloc [(.int .i64 (0)), (.int .i64 (0)), (.slice none 0 (some 0)), (.int .i64 (0)), (.slice none 0 (some 0))]), ob (.store 5 (.t 7) (.t 16))] (kp 67 [0,1,2,7]))
  (.seq (.seq (.region [oa 17 (.fieldAddr 2 (.t 7)), oa 18 (.load none (.t 17)), oa 19 (.lenSlice (.t 18)), oa 20 (.bin .eql (.t 19) (ai 0)), oa 21 (.mov (.t 20)), oc 22 (.fieldAddr 3 (.t 7)) 21 ff, oc 23 (.load none (.t 22)) 21 ff, oc 24 (.mov (.t 2)) 21 ff, oc 25 (.bin .add (.t 23) (.t 24)) 21 ff, oc 26 (.bin .gtr (.t 25) (ai 32)) 21 ff, oa 27 (.pick (.t 21) (.c (.bool true)) (.t 26))] (kp 67 [0,1,2,7,27]))
  (.cond (.t 27)
  (.seq (.region [oa 28 (.mov (.t 0)), oa 29 (.nilCheck (.t 28)), oa 30 (.fieldAddr 0 (.t 29)), oa 31 (.load none (.t 30)), oa 32 (.call 121 [(.t 31)]), oa 8 (.mov (.t 32))] (kp 67 [0,1,2,7,8]))
  (.seq (.seq (.region [oa 33 (.mov (.t 8)), oa 34 (.bin .lss (.t 33) (ai 0))] (kp 67 [0,1,2,7,8,34]))
  (.cond (.t 34)
  (.seq (.region [oa 6 (.mov (ai (-1)))] (kp 67 [6]))
  (sr 67 [6]))
  (sk 67 [0,1,2,7,8])))
  (.seq (.region [oa 35 (.fieldAddr 2 (.t 7)), oa 36 (.load none (.t 35)), oa 37 (.mov (.t 8)), oa 38 (.buildSlice 1 [(.int .i64 (0))] [(0, 1, (.t 37))]), oa 39 (.append 1 8 (.t 36) (.t 38)), oa 40 (.fieldAddr 2 (.t 7)), ob (.store 1 (.t 40) (.t 39))] (kp 67 [0,1,2,7]))
  (.region [oa 41 (.fieldAddr 3 (.t 7)), ob (.store 1 (.t 41) (ai 0))] (kp 67 [0,1,2,7])))))
  (sk 67 [0,1,2,7])))
  j117_bbb)))⟩
theorem F117 : shutF Try.prog 117 = some c117 := by kernel_rfl

-- (*virgate/virgateref15.Heap).Store

def j107_bbbbbb : IC := (.seq (.region [oa 68 (.mov (.t 0)), oa 69 (.nilCheck (.t 68)), oa 70 (.fieldAddr 1 (.t 69)), oa 71 (.load none (.t 70)), oa 72 (.mov (.t 1)), oa 73 (.mov (.t 0)), oa 74 (.nilCheck (.t 73)), oa 75 (.fieldAddr 1 (.t 74)), oa 76 (.load none (.t 75)), oa 77 (.mov (.t 1)), oa 78 (.indexAddr 5 (.t 76) (.t 77)), oa 79 (.fieldAddr 4 (.t 78)), oa 80 (.load none (.t 79)), oa 81 (.mov (.t 11)), oa 82 (.mov (.t 2)), oa 83 (.mov (.t 3)), oa 84 (.mkSlice 16 [(.int .i64 (0)), (.int .i64 (0))] (.t 83) (.t 83)), oa 85 (.build [(.int .i64 (0)), (.int .i64 (0)), (.slice none 0 (some 0))] [(0, 1, (.t 81)), (1, 1, (.t 82)), (2, 1, (.t 84))]), oa 86 (.buildSlice 1 [(.int .i64 (0)), (.int .i64 (0)), (.slice none 0 (some 0))] [(0, 3, (.t 85))]), oa 87 (.append 3 40 (.t 80) (.t 86)), ob (.again 71 (.load none (.t 70))), oa 88 (.indexAddr 5 (.t 71) (.t 72)), oa 89 (.fieldAddr 4 (.t 88)), ob (.store 1 (.t 89) (.t 87))] (kp 94 [8,10,11]))
  (.seq (.region [oa 90 (.mov (.t 11)), oa 91 (.fieldAddr 1 (.t 10)), oa 92 (.load none (.t 91)), oa 93 (.build [(.int .i64 (0)), (.int .i64 (0))] [(0, 1, (.t 90)), (1, 1, (.t 92))]), ob (.store 2 (.t 8) (.t 93)), oa 9 (.mov (ai 0))] (kp 94 [8,9]))
  (sr 94 [8,9])))
def c107 : IFn := ⟨94, [(8, (some (some 2))), (9, none)],
  (.seq (.region [oa 8 (.alloc [(.int .i64 (0)), (.int .i64 (0))]), oa 9 (.mov (ai 0))] (kp 94 [0,1,2,3,8]))
  (.seq (.seq (.region [oa 12 (.mov (.t 0)), oa 13 (.call 87 [(.t 12)])] (kp 94 [0,1,2,3,8,13]))
  (.cond (.t 13)
  (.seq (.region [oa 14 (.build [(.int .i64 (0)), (.int .i64 (0))] []), ob (.store 2 (.t 8) (.t 14)), oa 9 (.mov (ai 6))] (kp 94 [8,9]))
  (sr 94 [8,9]))
  (sk 94 [0,1,2,3,8])))
  (.seq (.seq (.region [oa 15 (.mov (.t 0)), oa 16 (.mov (.t 1)), oa 17 (.call 106 [(.t 15), (.t 16)]), oa 18 (.un .not (.t 17)), oa 19 (.mov (.t 18)), oc 20 (.mov (.t 2)) 19 ff, oc 21 (.bin .lss (.t 20) (ai 1)) 19 ff, oa 22 (.pick (.t 19) (.c (.bool true)) (.t 21)), oa 23 (.mov (.t 22)), oc 24 (.mov (.t 2)) 23 ff, oc 25 (.bin .gtr (.t 24) (ai 255)) 23 ff, oa 26 (.pick (.t 23) (.c (.bool true)) (.t 25)), oa 27 (.mov (.t 26)), oc 28 (.mov (.t 3)) 27 ff, oc 29 (.bin .lss (.t 28) (ai 1)) 27 ff, oa 30 (.pick (.t 27) (.c (.bool true)) (.t 29)), oa 31 (.mov (.t 30)), oc 32 (.mov (.t 3)) 31 ff, oc 33 (.bin .gtr (.t 32) (ai 31)) 31 ff, oa 34 (.pick (.t 31) (.c (.bool true)) (.t 33))] (kp 94 [0,1,2,3,8,34]))
  (.cond (.t 34)
  (.seq (.region [oa 35 (.build [(.int .i64 (0)), (.int .i64 (0))] []), ob (.store 2 (.t 8) (.t 35)), oa 9 (.mov (ai 2))] (kp 94 [8,9]))
  (sr 94 [8,9]))
  (sk 94 [0,1,2,3,8])))
  (.seq (.region [oa 36 (.mov (.t 0)), oa 37 (.nilCheck (.t 36)), oa 38 (.fieldAddr 1 (.t 37)), oa 39 (.load none (.t 38)), oa 40 (.mov (.t 1)), oa 41 (.indexAddr 5 (.t 39) (.t 40)), oa 42 (.load (some 5) (.t 41)), oa 10 (.alloc [(.int .i64 (0)), (.int .i64 (0)), (.slice none 0 (some 0)), (.int .i64 (0)), (.slice none 0 (some 0))]), ob (.store 5 (.t 10) (.t 42))] (kp 94 [0,1,2,3,8,10]))
  (.seq (.region [oa 43 (.fieldAddr 1 (.t 10)), oa 44 (.load none (.t 43)), oa 45 (.bin .add (ai 1000000) (.t 44)), oa 11 (.mov (.t 45))] (kp 94 [0,1,2,3,8,10,11]))
  (.seq (.seq (.region [oa 46 (.fieldAddr 0 (.t 10)), oa 47 (.load none (.t 46)), oa 48 (.bin .gtr (.t 47) (ai 0))] (kp 94 [0,1,2,3,8,10,11,48]))
  (.cond (.t 48)
  (.seq (.region [oa 49 (.mov (.t 3)), oa 50 (.fieldAddr 0 (.t 10)), oa 51 (.load none (.t 50)), oa 52 (.bin .gtr (.t 49) (.t 51)), oa 53 (.mov (.t 52)), oc 54 (.fieldAddr 4 (.t 10)) 53 ff, oc 55 (.load none (.t 54)) 53 ff, oc 56 (.lenSlice (.t 55)) 53 ff, oc 57 (.bin .gtr (.t 56) (ai 0)) 53 ff, oa 58 (.pick (.t 53) (.c (.bool true)) (.t 57))] (kp 94 [0,1,2,3,8,10,11,58]))
  (.cond (.t 58)
  (.seq (.region [oa 59 (.build [(.int .i64 (0)), (.int .i64 (0))] []), ob (.store 2 (.t 8) (.t 59)), oa 9 (.mov (ai 2))] (kp 94 [8,9]))
  (sr 94 [8,9]))
  (sk 94 [0,1,2,3,8,10,11])))
  (.seq (.region [oa 60 (.mov (.t 0)), oa 61 (.mov (.t 1)), oa 62 (.mov (.t 3)), oa 63 (.bin .add (.t 62) (ai 1)), oa 64 (.call 117 [(.t 60), (.t 61), (.t 63)]), oa 11 (.mov (.t 64))] (kp 94 [0,1,2,3,8,10,11]))
  (.seq (.region [oa 65 (.mov (.t 11)), oa 66 (.bin .lss (.t 65) (ai 0))] (kp 94 [0,1,2,3,8,10,11,66]))
  (.cond (.t 66)
  (.seq (.region [oa 67 (.build [(.int .i64 (0)), (.int .i64 (0))] []), ob (.store 2 (.t 8) (.t 67)), oa 9 (.mov (ai 81))] (kp 94 [8,9]))
  (sr 94 [8,9]))
  (sk 94 [0,1,2,3,8,10,11]))))))
  j107_bbbbbb))))))⟩
theorem F107 : shutF Try.prog 107 = some c107 := by kernel_rfl

-- (*virgate/virgateref15.Heap).Set

def c66 : IFn := ⟨68, [(8, none)],
  (.seq (.region [oa 5 (.box (.t 1)), oa 7 (.box (.t 3)), oa 8 (.mov (ai 0))] (kp 68 [0,2,5,7]))
  (.seq (.seq (.region [oa 11 (.mov (.t 0)), oa 12 (.call 87 [(.t 11)])] (kp 68 [0,2,5,7,12]))
  (.cond (.t 12)
  (.seq (.region [oa 8 (.mov (ai 6))] (kp 68 [8]))
  (sr 68 [8]))
  (sk 68 [0,2,5,7])))
  (.seq (.seq (.region [oa 13 (.fieldAddr 1 (.t 5)), oa 14 (.load none (.t 13)), oa 15 (.bin .lss (.t 14) (ai 1)), oa 16 (.mov (.t 15)), oc 17 (.fieldAddr 1 (.t 7)) 16 ff, oc 18 (.load none (.t 17)) 16 ff, oc 19 (.bin .lss (.t 18) (ai 0)) 16 ff, oa 20 (.pick (.t 16) (.c (.bool true)) (.t 19)), oa 21 (.mov (.t 20)), oc 22 (.fieldAddr 1 (.t 7)) 21 ff, oc 23 (.load none (.t 22)) 21 ff, oc 24 (.bin .gtr (.t 23) (ai 100000)) 21 ff, oa 25 (.pick (.t 21) (.c (.bool true)) (.t 24))] (kp 68 [0,2,5,7,25]))
  (.cond (.t 25)
  (.seq (.region [oa 8 (.mov (ai 2))] (kp 68 [8]))
  (sr 68 [8]))
  (sk 68 [0,2,5,7])))
  (.seq (.region [oa 27 (.mov (.t 0)), oa 28 (.load (some 2) (.t 5)), oa 29 (.call 103 [(.t 27), (.t 28)]), oa 26 (.mov (.t 29)), oa 30 (.extract (.t 26) 0), oa 31 (.extract (.t 26) 1), oa 9 (.mov (.t 30)), oa 10 (.mov (.t 31))] (kp 68 [0,2,7,9,10]))
  (.seq (.seq (.region [oa 32 (.mov (.t 9)), oa 33 (.bin .lss (.t 32) (ai 0))] (kp 68 [0,2,7,9,10,33]))
  (.cond (.t 33)
  (.seq (.region [oa 8 (.mov (ai 80))] (kp 68 [8]))
  (sr 68 [8]))
  (sk 68 [0,2,7,9,10])))
  (.seq (.seq (.region [oa 34 (.mov (.t 2)), oa 35 (.bin .lss (.t 34) (ai 0)), oa 36 (.mov (.t 35)), oc 37 (.mov (.t 2)) 36 ff, oc 38 (.mov (.t 0)) 36 ff, oc 39 (.nilCheck (.t 38)) 36 ff, oc 40 (.fieldAddr 1 (.t 39)) 36 ff, oc 41 (.load none (.t 40)) 36 ff, oc 42 (.mov (.t 9)) 36 ff, oc 43 (.indexAddr 5 (.t 41) (.t 42)) 36 ff, oc 44 (.fieldAddr 4 (.t 43)) 36 ff, oc 45 (.load none (.t 44)) 36 ff, oc 46 (.mov (.t 10)) 36 ff, oc 47 (.indexAddr 3 (.t 45) (.t 46)) 36 ff, oc 48 (.fieldAddr 2 (.t 47)) 36 ff, oc 49 (.load none (.t 48)) 36 ff, oc 50 (.lenSlice (.t 49)) 36 ff, oc 51 (.bin .geq (.t 37) (.t 50)) 36 ff, oa 52 (.pick (.t 36) (.c (.bool true)) (.t 51))] (kp 68 [0,2,7,9,10,52]))
  (.cond (.t 52)
  (.seq (.region [oa 8 (.mov (ai 2))] (kp 68 [8]))
  (sr 68 [8]))
  (sk 68 [0,2,7,9,10])))
  (.seq (.region [oa 53 (.mov (.t 0)), oa 54 (.nilCheck (.t 53)), oa 55 (.fieldAddr 1 (.t 54)), oa 56 (.load none (.t 55)), oa 57 (.mov (.t 9)), oa 58 (.indexAddr 5 (.t 56) (.t 57)), oa 59 (.fieldAddr 4 (.t 58)), oa 60 (.load none (.t 59)), oa 61 (.mov (.t 10)), oa 62 (.indexAddr 3 (.t 60) (.t 61)), oa 63 (.fieldAddr 2 (.t 62)), oa 64 (.load none (.t 63)), oa 65 (.mov (.t 2)), oa 66 (.load (some 2) (.t 7)), oa 67 (.indexAddr 2 (.t 64) (.t 65)), ob (.store 2 (.t 67) (.t 66))] (kp 68 []))
  (.seq (.region [oa 8 (.mov (ai 0))] (kp 68 [8]))
  (sr 68 [8])))))))))⟩
theorem F66 : shutF Try.prog 66 = some c66 := by kernel_rfl


section
variable {o : Nat → Option O} {s : St} {C F : Ch} {Q : V → St → Prop}
set_option maxRecDepth 10000
set_option maxHeartbeats 4000000

/-- A region as it is held in a cell of its own. -/
def RReg.O (g : RReg) : O := .cells g.enc none

theorem place_tail {v27 : V} {hr : RHeap} {p pg : Nat} {A B : List RReg} {g0 g : RReg} {t need : Nat} (hre : hr.regs = A ++ g0 :: B)
    (H : Holds o s ((t, some g.O) :: (hr.id, some (hr.hd p)) :: (hr.rowk, some hr.row) :: (g.pgk, pagesO g.pages) :: F)) (hpg : g.pages.getLast? = some pg) (hpg' : pg < 400) (hpl : g.pages.length ≤ 500) (hf : g.fill ≤ 32) (hn : need ≤ 32)
    (q : ∀ s', Holds o s' ((hr.id, some (RHeap.hd p { hr with regs := A ++ { g with fill := g.fill + need } :: B })) :: (hr.rowk, some (RHeap.row { hr with regs := A ++ { g with fill := g.fill + need } :: B })) :: (g.pgk, pagesO g.pages) :: F) → Q (I (pg * 32 + g.fill : Nat)) s') :
    WP (go (loop PF) (call PF) j117_bbb (sp 67 [(0, ptrN hr.id), (1, I A.length), (2, I need), (7, ptrN t), (27, v27)]) s (finR [(6, none)])) Q := by
  have hpos : 0 < g.pages.length := by
    cases hp : g.pages with
    | nil => rw [hp] at hpg; simp at hpg
    | cons a l => simp
  have f := H.f3
  have fp : s.new g.pgk = some (.cells (g.pages.map fun n : Nat => I n) (some 1)) ∧ g.pgk < s.next := by
    have h5 := H.tl.tl.tl
    unfold pagesO at h5
    rw [rowO_pos hpos] at h5
    exact h5.f1
  have fne : g.pgk ≠ t := by
    have h5 := H.r3
    unfold pagesO at h5
    rw [rowO_pos hpos] at h5
    exact h5.f2.2.2.1
  simp only [RReg.O, RReg.enc, RHeap.hd] at f
  have w3 := wrap_sub1 (a := g.pages.length) (by omega) hpos
  have w4 : wrapI .i64 ((pg : Int) * 32) = I ((pg * 32 : Nat) : Int) := wrap_nat (by omega) (by omega)
  have w5 : wrapI .i64 (((pg * 32 : Nat) : Int) + (g.fill : Int)) = I ((pg * 32 + g.fill : Nat) : Int) := wrap_add (by omega) (by omega)
  have w6 : wrapI .i64 ((g.fill : Int) + (need : Int)) = I ((g.fill + need : Nat) : Int) := wrap_add (by omega) (by omega)
  have hgl : (g.pages.map fun n : Nat => I n)[g.pages.length - 1]? = some (I pg) := by
    rw [List.getLast?_eq_getElem?] at hpg
    rw [List.getElem?_map, hpg]; rfl
  have hset := rset5 hre { g with fill := g.fill + need }
  simp only [RReg.enc] at hset
  have hg : hr.regs[A.length]? = some g0 := by rw [hre]; simp
  simp -implicitDefEqProofs only [↓GP, GB, GL, Nat.reduceAdd, Nat.reduceSub, Nat.reduceEqDiff, Nat.reduceMul, Nat.reduceLeDiff, Int.reduceBNe, Int.reduceBEq, Nat.reduceLT, reduceCtorEq, j117_bbb, f, fp, fne, w3, w4, w5, w6, hgl, ix_row (show g.pages.length - 1 < g.pages.length by omega), (rreg hg).1, hset]
  refine q _ (Holds.of (((H.set0 (.cells [I g.size, I g.life, rowV g.pgk g.pages.length, I (g.fill + need : Nat), rowV g.obk g.objs.length] none)).set2 (RHeap.row { hr with regs := A ++ { g with fill := g.fill + need } :: B })).tl) (fun k => by simp +arith only [RHeap.hd, RHeap.rv, hre, List.length_append, List.length_cons, HA, HB]) (fun k x => by simp only [RHeap.hd, RHeap.rv, hre, List.length_append, List.length_cons, HA, HC]; grind only))

theorem s117_none {hr : RHeap} {p r need : Nat} {u : List Bool} {A B : List RReg} {g : RReg} (H : Holds o s (poolC p r u ++ (hr.ch p ++ F))) (hre : hr.regs = A ++ g :: B) (hu : u.length ≤ 400) (hb : RegB u.length g.size g.life g.fill g.pages) (hn : need ≤ 32)
    (hput : putM u 0 g.life g.fill g.pages need = none) (q : ∀ s', Holds o s' (poolC p r u ++ (hr.ch p ++ F)) → Q (I (-1)) s') : WP (call PF 117 [ptrN hr.id, I A.length, I need] s) Q := by
  have hin : RIn (poolC p r u ++ (hr.ch p ++ F)) p hr := ⟨fun x hx => List.mem_append_right _ (List.mem_append_left _ hx)⟩
  have f := H.mem hin.id
  have fr := H.mem hin.row
  simp only [RHeap.hd] at f
  have hg : hr.regs[A.length]? = some g := by rw [hre]; simp
  have h1 := (H.alloc (.cells [I 0, I 0, .slice none 0 (some 0), I 0, .slice none 0 (some 0)] none)).set0 (.cells [I g.size, I g.life, rowV g.pgk g.pages.length, I g.fill, rowV g.obk g.objs.length] none)
  have h2 : Holds o ((s.alloc (.cells [I 0, I 0, .slice none 0 (some 0), I 0, .slice none 0 (some 0)] none)).set s.next (.cells [I g.size, I g.life, rowV g.pgk g.pages.length, I g.fill, rowV g.obk g.objs.length] none)) (poolC p r u ++ ((s.next, some (.cells [I g.size, I g.life, rowV g.pgk g.pages.length, I g.fill, rowV g.obk g.objs.length] none)) :: (hr.ch p ++ F))) := (Holds.of (h1) (fun k => by simp +arith only [HA, HB]) (fun k x => by simp only [HA, HC]; grind only))
  have hf := hb.fill
  have w1 : wrapI .i64 ((g.fill : Int) + (need : Int)) = I ((g.fill + need : Nat) : Int) := wrap_add (by omega) (by omega)
  have ht : takeP u = none ∧ (g.pages.length = 0 ∨ ¬ g.fill + need ≤ 32) := by
    unfold putM at hput
    rw [if_neg (by omega)] at hput
    split at hput
    · split at hput
      · cases hput
      · rename_i h; exact ⟨by simpa using hput, .inr h⟩
    · rename_i h; exact ⟨by simpa using hput, .inl (by rw [List.getLast?_eq_none_iff.1 h]; rfl)⟩
  have fin : ∀ s', Holds o s' (poolC p r u ++ ((s.next, some (.cells [I g.size, I g.life, rowV g.pgk g.pages.length, I g.fill, rowV g.obk g.objs.length] none)) :: (hr.ch p ++ F))) → Q (I (-1)) s' := fun s' h => q s' (Holds.of (h) (fun k => by simp +arith only [HA, HB]) (fun k x => by simp only [HA, HC]; grind only))
  by_cases h0 : g.pages.length = 0
  · have e0 : ((g.pages.length : Int) == 0) = true := by rw [h0]; rfl
    rw [call_run F117]; simp -implicitDefEqProofs only [↓GP, GB, GL, Nat.reduceAdd, Nat.reduceSub, Nat.reduceEqDiff, Nat.reduceMul, Nat.reduceLeDiff, Int.reduceBNe, Int.reduceBEq, Nat.reduceLT, reduceCtorEq, c117, f, fr, rreg hg, RReg.enc, e0]
    refine wp_in (s121 h2 hu (fun _ s1 h3 => ?_) fun n hn => by rw [ht.1] at hn; cases hn)
    simp -implicitDefEqProofs only [↓GP, GB, GL, Nat.reduceAdd, Nat.reduceSub, Nat.reduceEqDiff, Nat.reduceMul, Nat.reduceLeDiff, Int.reduceBNe, Int.reduceBEq, Nat.reduceLT, reduceCtorEq, Int.reduceNeg, Int.reduceLT]
    exact fin _ h3
  · have e0 : ((g.pages.length : Int) == 0) = false := by rw [beq_eq_false_iff_ne]; omega
    have e1 : (((g.fill + need : Nat) : Int) > 32) := by have := ht.2; omega
    rw [call_run F117]; simp -implicitDefEqProofs only [↓GP, GB, GL, Nat.reduceAdd, Nat.reduceSub, Nat.reduceEqDiff, Nat.reduceMul, Nat.reduceLeDiff, Int.reduceBNe, Int.reduceBEq, Nat.reduceLT, reduceCtorEq, c117, f, fr, rreg hg, RReg.enc, e0, w1, e1]
    refine wp_in (s121 h2 hu (fun _ s1 h3 => ?_) fun n hn => by rw [ht.1] at hn; cases hn)
    simp -implicitDefEqProofs only [↓GP, GB, GL, Nat.reduceAdd, Nat.reduceSub, Nat.reduceEqDiff, Nat.reduceMul, Nat.reduceLeDiff, Int.reduceBNe, Int.reduceBEq, Nat.reduceLT, reduceCtorEq, Int.reduceNeg, Int.reduceLT]
    exact fin _ h3

theorem s117 {hr : RHeap} {p r need : Nat} {u : List Bool} {A B : List RReg} {g : RReg} (H : Holds o s (poolC p r u ++ (hr.ch p ++ F))) (hre : hr.regs = A ++ g :: B) (hu : u.length ≤ 400) (hb : RegB u.length g.size g.life g.fill g.pages) (hn : need ≤ 32)
    {at_ fill' : Nat} {u' : List Bool} {pages' : List Nat} (hput : putM u 0 g.life g.fill g.pages need = some (at_, u', fill', pages'))
    (q : ∀ s' pgk, Holds o s' (poolC p r u' ++ (({ hr with regs := A ++ { g with pgk := pgk, fill := fill', pages := pages' } :: B } : RHeap).ch p ++ F)) → Q (I at_) s') : WP (call PF 117 [ptrN hr.id, I A.length, I need] s) Q := by
  have hin : RIn (poolC p r u ++ (hr.ch p ++ F)) p hr := ⟨fun x hx => List.mem_append_right _ (List.mem_append_left _ hx)⟩
  have f := H.mem hin.id
  have fr := H.mem hin.row
  simp only [RHeap.hd] at f
  have hg : hr.regs[A.length]? = some g := by rw [hre]; simp
  have h1 := (H.alloc (.cells [I 0, I 0, .slice none 0 (some 0), I 0, .slice none 0 (some 0)] none)).set0 (.cells [I g.size, I g.life, rowV g.pgk g.pages.length, I g.fill, rowV g.obk g.objs.length] none)
  have hf := hb.fill
  have hpl := hb.npages
  have w1 : wrapI .i64 ((g.fill : Int) + (need : Int)) = I ((g.fill + need : Nat) : Int) := wrap_add (by omega) (by omega)
  have cases3 : (∃ pg, g.pages.getLast? = some pg ∧ g.fill + need ≤ 32 ∧ at_ = pg * 32 + g.fill ∧ u' = u ∧ fill' = g.fill + need ∧ pages' = g.pages) ∨
      (∃ n, takeP u = some n ∧ (g.pages.length = 0 ∨ ¬ g.fill + need ≤ 32) ∧ at_ = n * 32 ∧ u' = u.set n true ∧ fill' = need ∧ pages' = g.pages ++ [n]) := by
    unfold putM at hput
    rw [if_neg (by omega)] at hput
    split at hput
    · rename_i pg hpg
      split at hput
      · rename_i h; cases hput; exact .inl ⟨pg, hpg, h, rfl, rfl, rfl, rfl⟩
      · rename_i h
        simp only [Option.map_eq_some_iff] at hput
        obtain ⟨n, h1, h2⟩ := hput
        cases h2
        exact .inr ⟨n, h1, .inr h, rfl, rfl, rfl, rfl⟩
    · rename_i h
      simp only [Option.map_eq_some_iff] at hput
      obtain ⟨n, h1, h2⟩ := hput
      cases h2
      exact .inr ⟨n, h1, .inl (by rw [List.getLast?_eq_none_iff.1 h]; rfl), rfl, rfl, rfl, rfl⟩
  rcases cases3 with ⟨pg, hpg, hfit, rfl, rfl, rfl, rfl⟩ | ⟨n, ht, hneed, rfl, rfl, e3, rfl⟩
  · have hpos : 0 < g.pages.length := by
      cases hp : g.pages with
      | nil => rw [hp] at hpg; simp at hpg
      | cons a l => simp
    have e0 : ((g.pages.length : Int) == 0) = false := by rw [beq_eq_false_iff_ne]; omega
    have e1 : ¬ (((g.fill + need : Nat) : Int) > 32) := by omega
    have hpg' := hb.pages pg (List.mem_of_getLast? hpg)
    rw [call_run F117]; simp -implicitDefEqProofs only [↓GP, GB, GL, Nat.reduceAdd, Nat.reduceSub, Nat.reduceEqDiff, Nat.reduceMul, Nat.reduceLeDiff, Int.reduceBNe, Int.reduceBEq, Nat.reduceLT, reduceCtorEq, c117, f, fr, rreg hg, RReg.enc, e0, w1, e1]
    generalize (s.alloc (.cells [I 0, I 0, .slice none 0 (some 0), I 0, .slice none 0 (some 0)] none)).set s.next (.cells [I g.size, I g.life, rowV g.pgk g.pages.length, I g.fill, rowV g.obk g.objs.length] none) = S at h1 ⊢
    refine place_tail (t := s.next) (p := p) (g := g) (pg := pg) (F := (g.obk, RReg.obO g.objs) :: (g.objs.flatMap RObj.ch ++ (poolC p r u' ++ (A.flatMap RReg.ch ++ (B.flatMap RReg.ch ++ F))))) hre (Holds.of (h1) (fun k => by simp +arith only [hre, RReg.O, RReg.enc, HA, HB]) (fun k x => by simp only [hre, RReg.O, RReg.enc, HA, HC]; grind only)) hpg (by omega) (by omega) hf hn fun s' h' => ?_
    exact q s' g.pgk (Holds.of (h') (fun k => by simp +arith only [RReg.ch, HA, HB]) (fun k x => by simp only [RReg.ch, HA, HC]; grind only))
  · have e3' := e3.symm
    subst e3'
    have hnl : n < u.length := takeP_lt ht
    have hneg : ¬ ((n : Int) < 0) := by omega
    have h2 : Holds o ((s.alloc (.cells [I 0, I 0, .slice none 0 (some 0), I 0, .slice none 0 (some 0)] none)).set s.next (.cells [I g.size, I g.life, rowV g.pgk g.pages.length, I g.fill, rowV g.obk g.objs.length] none)) (poolC p r u ++ ((s.next, some (.cells [I g.size, I g.life, rowV g.pgk g.pages.length, I g.fill, rowV g.obk g.objs.length] none)) :: (hr.ch p ++ F))) := (Holds.of (h1) (fun k => by simp +arith only [HA, HB]) (fun k x => by simp only [HA, HC]; grind only))
    have fin : ∀ s1, Holds o s1 (poolC p r (u.set n true) ++ ((s.next, some (.cells [I g.size, I g.life, rowV g.pgk g.pages.length, I g.fill, rowV g.obk g.objs.length] none)) :: (hr.ch p ++ F))) →
        Holds o s1 ((s.next, some (.cells [I g.size, I g.life, rowV g.pgk g.pages.length, I g.fill, rowV g.obk g.objs.length] none)) :: (g.pgk, pagesO g.pages) :: (hr.id, some (hr.hd p)) :: (hr.rowk, some hr.row) :: (g.obk, RReg.obO g.objs) :: (g.objs.flatMap RObj.ch ++ (poolC p r (u.set n true) ++ (A.flatMap RReg.ch ++ (B.flatMap RReg.ch ++ F))))) := fun s1 h => (Holds.of (h) (fun k => by simp +arith only [hre, HA, HB]) (fun k x => by simp only [hre, HA, HC]; grind only))
    have fin2 : ∀ s1 pgk, Holds o s1 ((pgk, rowO 1 (g.pages.length + 1) (g.pages.map (fun n : Nat => I n) ++ [I n])) :: (s.next, some (.cells [I g.size, I g.life, rowV pgk (g.pages.length + 1), I 0, rowV g.obk g.objs.length] none)) :: (hr.id, some (hr.hd p)) :: (hr.rowk, some hr.row) :: (g.obk, RReg.obO g.objs) :: (g.objs.flatMap RObj.ch ++ (poolC p r (u.set n true) ++ (A.flatMap RReg.ch ++ (B.flatMap RReg.ch ++ F))))) →
        WP (go (loop PF) (call PF) j117_bbb (sp 67 [(0, ptrN hr.id), (1, I A.length), (2, I need), (7, ptrN s.next)]) s1 (finR [(6, none)])) Q := by
      intro s1 pgk h
      refine place_tail (t := s.next) (p := p) (g := { g with pgk := pgk, fill := 0, pages := g.pages ++ [n] }) (pg := n) (F := (g.obk, RReg.obO g.objs) :: (g.objs.flatMap RObj.ch ++ (poolC p r (u.set n true) ++ (A.flatMap RReg.ch ++ (B.flatMap RReg.ch ++ F))))) hre
        (Holds.of (h) (fun k => by simp +arith only [RReg.O, RReg.enc, pagesO, List.length_append, List.length_cons, List.length_nil, Nat.zero_add, List.map_append, List.map_cons, List.map_nil, Int.natCast_zero, HA, HB]) (fun k x => by simp only [RReg.O, RReg.enc, pagesO, List.length_append, List.length_cons, List.length_nil, Nat.zero_add, List.map_append, List.map_cons, List.map_nil, Int.natCast_zero, HA, HC]; grind only)) (by simp) (by omega) (by simp; omega) (by simp) hn fun s' h' => ?_
      simp only [Nat.zero_add, Nat.add_zero] at h' ⊢
      exact q s' pgk (Holds.of (h') (fun k => by simp +arith only [RReg.ch, HA, HB]) (fun k x => by simp only [RReg.ch, HA, HC]; grind only))
    by_cases h0 : g.pages.length = 0
    · have e0 : ((g.pages.length : Int) == 0) = true := by rw [h0]; rfl
      rw [call_run F117]; simp -implicitDefEqProofs only [↓GP, GB, GL, Nat.reduceAdd, Nat.reduceSub, Nat.reduceEqDiff, Nat.reduceMul, Nat.reduceLeDiff, Int.reduceBNe, Int.reduceBEq, Nat.reduceLT, reduceCtorEq, c117, f, fr, rreg hg, RReg.enc, e0]
      refine wp_in (s121 h2 hu (fun hn => by rw [ht] at hn; cases hn) fun n' hn s1 h3 => ?_)
      rw [ht] at hn; cases hn
      have h4 := fin s1 h3
      simp -implicitDefEqProofs only [↓GP, GB, GL, Nat.reduceAdd, Nat.reduceSub, Nat.reduceEqDiff, Nat.reduceMul, Nat.reduceLeDiff, Int.reduceBNe, Int.reduceBEq, Nat.reduceLT, reduceCtorEq, h4.f1, hneg]
      refine wp_append (cs := g.pages.map (fun n : Nat => I n)) ((h4.alloc _).r2) (by simp) (new_cells' (alloc_new_same _ _) rfl) rfl rfl (by omega) (by unfold maxRow; omega) (by unfold maxRow; omega) fun pgk s2 h5 => ?_
      have h6 := h5.r1.tl
      simp -implicitDefEqProofs only [↓GP, GB, GL, Nat.reduceAdd, Nat.reduceSub, Nat.reduceEqDiff, Nat.reduceMul, Nat.reduceLeDiff, Int.reduceBNe, Int.reduceBEq, Nat.reduceLT, reduceCtorEq, h6.r1.f1]
      have h7 := (h6.set1 (.cells [I g.size, I g.life, rowV pgk (g.pages.length + 1), I g.fill, rowV g.obk g.objs.length] none)).set1 (.cells [I g.size, I g.life, rowV pgk (g.pages.length + 1), I 0, rowV g.obk g.objs.length] none)
      exact fin2 _ pgk h7
    · have e0 : ((g.pages.length : Int) == 0) = false := by rw [beq_eq_false_iff_ne]; omega
      have e1 : (((g.fill + need : Nat) : Int) > 32) := by omega
      rw [call_run F117]; simp -implicitDefEqProofs only [↓GP, GB, GL, Nat.reduceAdd, Nat.reduceSub, Nat.reduceEqDiff, Nat.reduceMul, Nat.reduceLeDiff, Int.reduceBNe, Int.reduceBEq, Nat.reduceLT, reduceCtorEq, c117, f, fr, rreg hg, RReg.enc, e0, w1, e1]
      refine wp_in (s121 h2 hu (fun hn => by rw [ht] at hn; cases hn) fun n' hn s1 h3 => ?_)
      rw [ht] at hn; cases hn
      have h4 := fin s1 h3
      simp -implicitDefEqProofs only [↓GP, GB, GL, Nat.reduceAdd, Nat.reduceSub, Nat.reduceEqDiff, Nat.reduceMul, Nat.reduceLeDiff, Int.reduceBNe, Int.reduceBEq, Nat.reduceLT, reduceCtorEq, h4.f1, hneg]
      refine wp_append (cs := g.pages.map (fun n : Nat => I n)) ((h4.alloc _).r2) (by simp) (new_cells' (alloc_new_same _ _) rfl) rfl rfl (by omega) (by unfold maxRow; omega) (by unfold maxRow; omega) fun pgk s2 h5 => ?_
      have h6 := h5.r1.tl
      simp -implicitDefEqProofs only [↓GP, GB, GL, Nat.reduceAdd, Nat.reduceSub, Nat.reduceEqDiff, Nat.reduceMul, Nat.reduceLeDiff, Int.reduceBNe, Int.reduceBEq, Nat.reduceLT, reduceCtorEq, h6.r1.f1]
      have h7 := (h6.set1 (.cells [I g.size, I g.life, rowV pgk (g.pages.length + 1), I g.fill, rowV g.obk g.objs.length] none)).set1 (.cells [I g.size, I g.life, rowV pgk (g.pages.length + 1), I 0, rowV g.obk g.objs.length] none)
      exact fin2 _ pgk h7

theorem s107_err (hC : Holds o s C) {hv : V} {n err kind words : Int} (e : RAtErr C hv n err) (q : ∀ s', Holds o s' C → Q (.tuple [.agg [I 0, I 0], I err]) s') : WP (call PF 107 [hv, I n, I kind, I words] s) Q := by
  have h1 := hC.alloc (.cells [I 0, I 0] none)
  have hs : ∀ x ∈ C, x ∈ (s.next, some (.cells [I 0, I 0] none)) :: C := fun x hx => List.mem_cons_of_mem _ hx
  rcases e with ⟨g, rfl⟩ | ⟨rfl, hr, p, rfl, hin, h0, hb⟩
  · have e := s87_gone h1 (g.mono hs)
    rw [call_run F107]; simp -implicitDefEqProofs only [↓GP, GB, GL, Nat.reduceAdd, Nat.reduceSub, Nat.reduceEqDiff, Nat.reduceMul, Nat.reduceLeDiff, Int.reduceBNe, Int.reduceBEq, Nat.reduceLT, reduceCtorEq, c107, e]
    exact q _ (h1.set0 _).tl
  · have e := s87 h1 (hin.mono hs) h0
    have e2 := s106 h1 (hin.mono hs) n
    rw [is_false hb] at e2
    rw [call_run F107]; simp -implicitDefEqProofs only [↓GP, GB, GL, Nat.reduceAdd, Nat.reduceSub, Nat.reduceEqDiff, Nat.reduceMul, Nat.reduceLeDiff, Int.reduceBNe, Int.reduceBEq, Nat.reduceLT, reduceCtorEq, c107, e, e2]
    exact q _ (h1.set0 _).tl

/-- What cannot be stored. -/
def RBadStore (g : RReg) (kind words : Int) : Prop := ¬ (1 ≤ kind ∧ kind ≤ 255) ∨ ¬ (1 ≤ words ∧ words ≤ 31) ∨ (0 < g.size ∧ ((g.size : Int) < words ∨ g.objs ≠ []))
theorem s107_bad (hC : Holds o s C) {hr : RHeap} {p i : Nat} {kind words : Int} (hin : RIn C p hr) {g : RReg} (hg : hr.regs[i]? = some g) (hl : g.life ≤ 100000) (hb : RBadStore g kind words) (q : ∀ s', Holds o s' C → Q (.tuple [.agg [I 0, I 0], I 2]) s') : WP (call PF 107 [ptrN hr.id, I i, I kind, I words] s) Q := by
  have hi := (List.getElem?_eq_some_iff.1 hg).1
  have h1 := hC.alloc (.cells [I 0, I 0] none)
  have e := s87 h1 (hin.cons _) (List.length_pos_iff.1 (by omega))
  have e2 := s106 h1 (hin.cons _) i
  rw [is_true hi] at e2
  have f := hC.mem hin.id
  have fr := hC.mem hin.row
  simp only [RHeap.hd] at f
  by_cases k1 : kind < 1
  · rw [call_run F107]; simp -implicitDefEqProofs only [↓GP, GB, GL, Nat.reduceAdd, Nat.reduceSub, Nat.reduceEqDiff, Nat.reduceMul, Nat.reduceLeDiff, Int.reduceBNe, Int.reduceBEq, Nat.reduceLT, reduceCtorEq, c107, e, e2, k1]; exact q _ (h1.set0 _).tl
  · by_cases k2 : (kind > 255)
    · rw [call_run F107]; simp -implicitDefEqProofs only [↓GP, GB, GL, Nat.reduceAdd, Nat.reduceSub, Nat.reduceEqDiff, Nat.reduceMul, Nat.reduceLeDiff, Int.reduceBNe, Int.reduceBEq, Nat.reduceLT, reduceCtorEq, c107, e, e2, k1, k2]; exact q _ (h1.set0 _).tl
    · by_cases k3 : words < 1
      · rw [call_run F107]; simp -implicitDefEqProofs only [↓GP, GB, GL, Nat.reduceAdd, Nat.reduceSub, Nat.reduceEqDiff, Nat.reduceMul, Nat.reduceLeDiff, Int.reduceBNe, Int.reduceBEq, Nat.reduceLT, reduceCtorEq, c107, e, e2, k1, k2, k3]; exact q _ (h1.set0 _).tl
      · by_cases k4 : (words > 31)
        · rw [call_run F107]; simp -implicitDefEqProofs only [↓GP, GB, GL, Nat.reduceAdd, Nat.reduceSub, Nat.reduceEqDiff, Nat.reduceMul, Nat.reduceLeDiff, Int.reduceBNe, Int.reduceBEq, Nat.reduceLT, reduceCtorEq, c107, e, e2, k1, k2, k3, k4]; exact q _ (h1.set0 _).tl
        · have hfin : 0 < g.size ∧ ((g.size : Int) < words ∨ g.objs ≠ []) := by
            rcases hb with h | h | h
            · omega
            · omega
            · exact h
          have k5 : ((g.size : Int) > 0) := by omega
          have w1 : wrapI .i64 (1000000 + (g.life : Int)) = I ((1000000 + g.life : Nat) : Int) := wrap_nat (by omega) (by omega)
          have h2 := (h1.alloc (.cells [I 0, I 0, .slice none 0 (some 0), I 0, .slice none 0 (some 0)] none)).set0 (.cells [I g.size, I g.life, rowV g.pgk g.pages.length, I g.fill, rowV g.obk g.objs.length] none)
          by_cases k6 : (words > (g.size : Int))
          · rw [call_run F107]; simp -implicitDefEqProofs only [↓GP, GB, GL, Nat.reduceAdd, Nat.reduceSub, Nat.reduceEqDiff, Nat.reduceMul, Nat.reduceLeDiff, Int.reduceBNe, Int.reduceBEq, Nat.reduceLT, reduceCtorEq, c107, e, e2, k1, k2, k3, k4, f, fr, rreg hg, RReg.enc, w1, k5, k6]
            exact q _ (h2.tl.set0 _).tl
          · have k7 : ((g.objs.length : Int) > 0) := by
              rcases hfin.2 with h | h
              · omega
              · have := List.length_pos_iff.2 h; omega
            rw [call_run F107]; simp -implicitDefEqProofs only [↓GP, GB, GL, Nat.reduceAdd, Nat.reduceSub, Nat.reduceEqDiff, Nat.reduceMul, Nat.reduceLeDiff, Int.reduceBNe, Int.reduceBEq, Nat.reduceLT, reduceCtorEq, c107, e, e2, k1, k2, k3, k4, f, fr, rreg hg, RReg.enc, w1, k5, k6, k7]
            exact q _ (h2.tl.set0 _).tl
def RGoodStore (g : RReg) (kind words : Nat) : Prop := 1 ≤ kind ∧ kind ≤ 255 ∧ 1 ≤ words ∧ words ≤ 31 ∧ (0 < g.size → words ≤ g.size ∧ g.objs = [])

theorem store_tail {hr : RHeap} {p at_ kind words t8 t10 life : Nat} {c0 : V} {rest : List V} {A B : List RReg} {g : RReg} (hre : hr.regs = A ++ g :: B) (hlf : g.life = life)
    (H : Holds o s ((t8, some (.cells [I 0, I 0] none)) :: (t10, some (.cells (c0 :: I life :: rest) none)) :: (hr.id, some (hr.hd p)) :: (hr.rowk, some hr.row) :: (g.obk, RReg.obO g.objs) :: F)) (hw : words ≤ 31) (hl : g.objs.length < 100000)
    (q : ∀ s' obk wid, Holds o s' ((hr.id, some (RHeap.hd p { hr with regs := A ++ { g with obk := obk, objs := g.objs ++ [⟨wid, ⟨at_, kind, List.replicate words (0, 0)⟩⟩] } :: B })) :: (hr.rowk, some (RHeap.row { hr with regs := A ++ { g with obk := obk, objs := g.objs ++ [⟨wid, ⟨at_, kind, List.replicate words (0, 0)⟩⟩] } :: B })) ::
      (obk, RReg.obO (g.objs ++ [⟨wid, ⟨at_, kind, List.replicate words (0, 0)⟩⟩])) :: (wid, some (.cells ((List.replicate words ((0 : Int), (0 : Int))).flatMap encW) none)) :: F) → Q (.tuple [.agg [I at_, I life], I 0]) s') :
    WP (go (loop PF) (call PF) j107_bbbbbb (sp 94 [(0, ptrN hr.id), (1, I A.length), (2, I kind), (3, I words), (8, ptrN t8), (10, ptrN t10), (11, I at_)]) s (finR [(8, some (some 2)), (9, none)])) Q := by
  have f := H.tl.tl.f2
  simp only [RHeap.hd] at f
  have hg : hr.regs[A.length]? = some g := by rw [hre]; simp
  have hm := fun s => mkV_int (s := s) (bytes := 16) (z := [I 0, I 0]) (k := .i64) (k' := .i64) (l := words) (c := words) (by omega) (by omega) (by omega) (by omega)
  simp only [Int.toNat_natCast] at hm
  simp -implicitDefEqProofs only [↓GP, GB, GL, Nat.reduceAdd, Nat.reduceSub, Nat.reduceEqDiff, Nat.reduceMul, Nat.reduceLeDiff, Int.reduceBNe, Int.reduceBEq, Nat.reduceLT, reduceCtorEq, j107_bbbbbb, f, rreg hg, hm]
  have h1 := (H.alloc (.cells (zeros [I 0, I 0] words) none)).alloc (.cells [I at_, I kind, slN s.next words] none)
  refine wp_append (F := (s.next + 1, some (.cells [I at_, I kind, slN s.next words] none)) :: (s.next, some (.cells (zeros [I 0, I 0] words) none)) :: (t8, some (.cells [I 0, I 0] none)) :: (t10, some (.cells (c0 :: I life :: rest) none)) :: (hr.id, some (hr.hd p)) :: (hr.rowk, some hr.row) :: F) (k := g.obk) (n := g.objs.length) (sz := 3) (cs := g.objs.flatMap RObj.enc)
    (Holds.of (h1) (fun k => by simp +arith only [RReg.obO, alloc_next, HA, HB]) (fun k x => by simp only [RReg.obO, alloc_next, HA, HC]; grind only)) (by rw [tab_len RObj.enc_len]) (new_cells' (alloc_new_same _ _) rfl) rfl rfl (by omega) (by unfold maxRow; omega) (by unfold maxRow; omega) fun obk s1 h2 => ?_
  have h3 : Holds o s1 ((t8, some (.cells [I 0, I 0] none)) :: (t10, some (.cells (c0 :: I life :: rest) none)) :: (hr.rowk, some hr.row) :: (hr.id, some (hr.hd p)) :: (s.next, some (.cells (zeros [I 0, I 0] words) none)) :: (obk, rowO 3 (g.objs.length + 1) (g.objs.flatMap RObj.enc ++ [I at_, I kind, slN s.next words])) :: F) := (Holds.of (h2) (fun k => by simp +arith only [HA, HB]) (fun k x => by simp only [HA, HC]; grind only))
  have f3 := h3.f4
  simp only [RHeap.hd] at f3
  have hset := rset1 hre (f := 4) (v := rowV obk (g.objs.length + 1)) (by omega) (rowV_one _ _) (g' := { g with obk := obk, objs := g.objs ++ [⟨s.next, ⟨at_, kind, List.replicate words (0, 0)⟩⟩] }) (by simp [RReg.enc])
  simp -implicitDefEqProofs only [↓GP, GB, GL, Nat.reduceAdd, Nat.reduceSub, Nat.reduceEqDiff, Nat.reduceMul, Nat.reduceLeDiff, Int.reduceBNe, Int.reduceBEq, Nat.reduceLT, reduceCtorEq, f3, hr.againV, (rreg hg).1, hset]
  have h4 := (h3.set2 (RHeap.row { hr with regs := A ++ { g with obk := obk, objs := g.objs ++ [⟨s.next, ⟨at_, kind, List.replicate words (0, 0)⟩⟩] } :: B })).set0 (.cells [I at_, I life] none)
  refine q _ obk s.next (Holds.of (h4.tl.tl) (fun k => by simp +arith only [RHeap.hd, RHeap.rv, hre, RReg.obO, RObj.enc, zeros_words, List.length_append, List.length_cons, List.length_nil, Nat.zero_add, List.length_replicate, HA, HB]) (fun k x => by simp only [RHeap.hd, RHeap.rv, hre, RReg.obO, RObj.enc, zeros_words, List.length_append, List.length_cons, List.length_nil, Nat.zero_add, List.length_replicate, HA, HC]; grind only))

theorem s107_full {hr : RHeap} {p r kind words : Nat} {u : List Bool} {A B : List RReg} {g : RReg} (H : Holds o s (poolC p r u ++ (hr.ch p ++ F))) (hre : hr.regs = A ++ g :: B) (hu : u.length ≤ 400) (hb : RegB u.length g.size g.life g.fill g.pages) (hgs : RGoodStore g kind words)
    (hput : putM u g.size g.life g.fill g.pages (words + 1) = none) (q : ∀ s', Holds o s' (poolC p r u ++ (hr.ch p ++ F)) → Q (.tuple [.agg [I 0, I 0], I 81]) s') : WP (call PF 107 [ptrN hr.id, I A.length, I kind, I words] s) Q := by
  obtain ⟨b1, b2, b3, b4, b5⟩ := hgs
  have hin : RIn (poolC p r u ++ (hr.ch p ++ F)) p hr := ⟨fun x hx => List.mem_append_right _ (List.mem_append_left _ hx)⟩
  have hi : A.length < hr.regs.length := by rw [hre]; simp
  have hg : hr.regs[A.length]? = some g := by rw [hre]; simp
  have h1 := H.alloc (.cells [I 0, I 0] none)
  have e := s87 h1 (hin.cons _) (by rw [hre]; simp)
  have e2 := s106 h1 (hin.cons _) A.length
  rw [is_true hi] at e2
  have f := H.mem hin.id
  have fr := H.mem hin.row
  simp only [RHeap.hd] at f
  have hl := hb.life
  have k1 : ¬ ((kind : Int) < 1) := by omega
  have k2 : ¬ ((kind : Int) > 255) := by omega
  have k3 : ¬ ((words : Int) < 1) := by omega
  have k4 : ¬ ((words : Int) > 31) := by omega
  have hs0 : g.size = 0 := by
    unfold putM at hput
    split at hput
    · cases hput
    · omega
  have k5 : ¬ ((g.size : Int) > 0) := by omega
  have w1 : wrapI .i64 (1000000 + (g.life : Int)) = I ((1000000 + g.life : Nat) : Int) := wrap_nat (by omega) (by omega)
  have w2 := wrap_add1 (a := words) (by omega)
  have h2 := (h1.alloc (.cells [I 0, I 0, .slice none 0 (some 0), I 0, .slice none 0 (some 0)] none)).set0 (.cells [I g.size, I g.life, rowV g.pgk g.pages.length, I g.fill, rowV g.obk g.objs.length] none)
  rw [call_run F107]; simp -implicitDefEqProofs only [↓GP, GB, GL, Nat.reduceAdd, Nat.reduceSub, Nat.reduceEqDiff, Nat.reduceMul, Nat.reduceLeDiff, Int.reduceBNe, Int.reduceBEq, Nat.reduceLT, reduceCtorEq, c107, e, e2, k1, k2, k3, k4, f, fr, rreg hg, RReg.enc, w1, k5, w2]
  refine wp_in (s117_none (hr := hr) (p := p) (r := r) (u := u) (A := A) (B := B) (g := g) (F := (s.next, some (.cells [I 0, I 0] none)) :: F) (Holds.of (h2) (fun k => by simp +arith only [HA, HB]) (fun k x => by simp only [HA, HC]; grind only)) hre hu hb (by omega) (by rw [← hput, hs0]) fun s1 h3 => ?_)
  have h4 : Holds o s1 ((s.next, some (.cells [I 0, I 0] none)) :: (poolC p r u ++ (hr.ch p ++ F))) := (Holds.of (h3) (fun k => by simp +arith only [HA, HB]) (fun k x => by simp only [HA, HC]; grind only))
  simp -implicitDefEqProofs only [↓GP, GB, GL, Nat.reduceAdd, Nat.reduceSub, Nat.reduceEqDiff, Nat.reduceMul, Nat.reduceLeDiff, Int.reduceBNe, Int.reduceBEq, Nat.reduceLT, reduceCtorEq, h4.f1, Int.reduceNeg, Int.reduceLT]
  exact q _ (h4.set0 _).tl

theorem s107 {hr : RHeap} {p r kind words : Nat} {u : List Bool} {A B : List RReg} {g : RReg} (H : Holds o s (poolC p r u ++ (hr.ch p ++ F))) (hre : hr.regs = A ++ g :: B) (hu : u.length ≤ 400) (hb : RegB u.length g.size g.life g.fill g.pages) (hgs : RGoodStore g kind words) (hol : g.objs.length < 100000)
    {at_ fill' : Nat} {u' : List Bool} {pages' : List Nat} (hput : putM u g.size g.life g.fill g.pages (words + 1) = some (at_, u', fill', pages'))
    (q : ∀ s' pgk obk wid, Holds o s' (poolC p r u' ++ (({ hr with regs := A ++ { g with pgk := pgk, obk := obk, fill := fill', pages := pages', objs := g.objs ++ [⟨wid, ⟨at_, kind, List.replicate words (0, 0)⟩⟩] } :: B } : RHeap).ch p ++ F)) →
      Q (.tuple [.agg [I at_, I g.life], I 0]) s') : WP (call PF 107 [ptrN hr.id, I A.length, I kind, I words] s) Q := by
  obtain ⟨b1, b2, b3, b4, b5⟩ := hgs
  have hin : RIn (poolC p r u ++ (hr.ch p ++ F)) p hr := ⟨fun x hx => List.mem_append_right _ (List.mem_append_left _ hx)⟩
  have hi : A.length < hr.regs.length := by rw [hre]; simp
  have hg : hr.regs[A.length]? = some g := by rw [hre]; simp
  have h1 := H.alloc (.cells [I 0, I 0] none)
  have e := s87 h1 (hin.cons _) (by rw [hre]; simp)
  have e2 := s106 h1 (hin.cons _) A.length
  rw [is_true hi] at e2
  have f := H.mem hin.id
  have fr := H.mem hin.row
  simp only [RHeap.hd] at f
  have hl := hb.life
  have k1 : ¬ ((kind : Int) < 1) := by omega
  have k2 : ¬ ((kind : Int) > 255) := by omega
  have k3 : ¬ ((words : Int) < 1) := by omega
  have k4 : ¬ ((words : Int) > 31) := by omega
  have w1 : wrapI .i64 (1000000 + (g.life : Int)) = I ((1000000 + g.life : Nat) : Int) := wrap_nat (by omega) (by omega)
  have w2 := wrap_add1 (a := words) (by omega)
  have h2 := (h1.alloc (.cells [I 0, I 0, .slice none 0 (some 0), I 0, .slice none 0 (some 0)] none)).set0 (.cells [I g.size, I g.life, rowV g.pgk g.pages.length, I g.fill, rowV g.obk g.objs.length] none)
  by_cases hs0 : 0 < g.size
  · obtain ⟨c1, c2⟩ := b5 hs0
    have k5 : ((g.size : Int) > 0) := by omega
    have k6 : ¬ ((words : Int) > (g.size : Int)) := by omega
    have k7 : ¬ ((g.objs.length : Int) > 0) := by rw [c2]; simp
    unfold putM at hput
    rw [if_pos hs0] at hput
    cases hput
    rw [call_run F107]; simp -implicitDefEqProofs only [↓GP, GB, GL, Nat.reduceAdd, Nat.reduceSub, Nat.reduceEqDiff, Nat.reduceMul, Nat.reduceLeDiff, Int.reduceBNe, Int.reduceBEq, Nat.reduceLT, reduceCtorEq, c107, e, e2, k1, k2, k3, k4, f, fr, rreg hg, RReg.enc, w1, k5, k6, k7]
    refine store_tail (hr := hr) (p := p) (at_ := 1000000 + g.life) (t8 := s.next) (t10 := s.next + 1) (c0 := I g.size) (life := g.life) (rest := [rowV g.pgk g.pages.length, I g.fill, rowV g.obk g.objs.length]) (F := (g.pgk, pagesO g.pages) :: (g.objs.flatMap RObj.ch ++ (poolC p r u ++ (A.flatMap RReg.ch ++ (B.flatMap RReg.ch ++ F))))) hre rfl (Holds.of (h2) (fun k => by simp +arith only [hre, alloc_next, HA, HB]) (fun k x => by simp only [hre, alloc_next, HA, HC]; grind only)) b4 hol fun s' obk wid h3 => ?_
    exact q s' g.pgk obk wid (Holds.of (h3) (fun k => by simp +arith only [List.flatMap_append, HA, HB]) (fun k x => by simp only [List.flatMap_append, HA, HC]; grind only))
  · have hs1 : g.size = 0 := by omega
    have k5 : ¬ ((g.size : Int) > 0) := by omega
    rw [call_run F107]; simp -implicitDefEqProofs only [↓GP, GB, GL, Nat.reduceAdd, Nat.reduceSub, Nat.reduceEqDiff, Nat.reduceMul, Nat.reduceLeDiff, Int.reduceBNe, Int.reduceBEq, Nat.reduceLT, reduceCtorEq, c107, e, e2, k1, k2, k3, k4, f, fr, rreg hg, RReg.enc, w1, k5, w2]
    refine wp_in (s117 (hr := hr) (p := p) (r := r) (u := u) (A := A) (B := B) (g := g) (F := (s.next, some (.cells [I 0, I 0] none)) :: (s.next + 1, some (.cells [I g.size, I g.life, rowV g.pgk g.pages.length, I g.fill, rowV g.obk g.objs.length] none)) :: F) (Holds.of (h2) (fun k => by simp +arith only [alloc_next, HA, HB]) (fun k x => by simp only [alloc_next, HA, HC]; grind only)) hre hu hb (by omega) (by rw [← hput, hs1]) fun s1 pgk h3 => ?_)
    have k8 : ¬ ((at_ : Int) < 0) := by omega
    simp -implicitDefEqProofs only [↓GP, GB, GL, Nat.reduceAdd, Nat.reduceSub, Nat.reduceEqDiff, Nat.reduceMul, Nat.reduceLeDiff, Int.reduceBNe, Int.reduceBEq, Nat.reduceLT, reduceCtorEq, k8]
    refine store_tail (hr := { hr with regs := A ++ { g with pgk := pgk, fill := fill', pages := pages' } :: B }) (g := { g with pgk := pgk, fill := fill', pages := pages' }) (A := A) (B := B) (p := p) (at_ := at_) (t8 := s.next) (t10 := s.next + 1) (c0 := I g.size) (life := g.life) (rest := [rowV g.pgk g.pages.length, I g.fill, rowV g.obk g.objs.length]) (F := (pgk, pagesO pages') :: (g.objs.flatMap RObj.ch ++ (poolC p r u' ++ (A.flatMap RReg.ch ++ (B.flatMap RReg.ch ++ F))))) rfl rfl (Holds.of (h3) (fun k => by simp +arith only [HA, HB]) (fun k x => by simp only [HA, HC]; grind only)) b4 hol fun s' obk wid h4 => ?_
    exact q s' pgk obk wid (Holds.of (h4) (fun k => by simp +arith only [List.flatMap_append, HA, HB]) (fun k x => by simp only [List.flatMap_append, HA, HC]; grind only))
end
end Go.Proofs.Ytoldkemimhebaaa
