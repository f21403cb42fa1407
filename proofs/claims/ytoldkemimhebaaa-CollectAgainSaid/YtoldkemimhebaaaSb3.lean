/- Texts PgE, Pg1, PgF, PgG, PgH, PgM. -/
import Derived.Test.YtoldkemimhebaaaSb2

set_option linter.unusedSimpArgs false
set_option linter.unusedVariables false
namespace Go.Proofs.Ytoldkemimhebaaa
open Go Go.IM
def c87 : IFn := ⟨13, [(2, none)],
  (.seq (.region [oa 2 (.mov (.c (.bool false)))] (kp 13 [0]))
  (.seq (.region [oa 3 (.mov (.t 0)), oa 4 (.eql false .ptr (.t 3) (.c (.ptr none))), oa 5 (.mov (.t 4)), oc 6 (.mov (.t 0)) 5 ff, oc 7 (.nilCheck (.t 6)) 5 ff, oc 8 (.fieldAddr 1 (.t 7)) 5 ff, oc 9 (.load none (.t 8)) 5 ff, oc 10 (.lenSlice (.t 9)) 5 ff, oc 11 (.bin .eql (.t 10) (ai 0)) 5 ff, oa 12 (.pick (.t 5) (.c (.bool true)) (.t 11)), oa 2 (.mov (.t 12))] (kp 13 [2]))
  (sr 13 [2])))⟩
theorem F87 : shutF Try.prog 87 = some c87 := by kernel_rfl
def c106 : IFn := ⟨16, [(4, none)],
  (.seq (.region [oa 4 (.mov (.c (.bool false)))] (kp 16 [0,1]))
  (.seq (.region [oa 5 (.mov (.t 1)), oa 6 (.bin .geq (.t 5) (ai 0)), oa 7 (.mov (.t 6)), oc 8 (.mov (.t 1)) 7 tt, oc 9 (.mov (.t 0)) 7 tt, oc 10 (.nilCheck (.t 9)) 7 tt, oc 11 (.fieldAddr 1 (.t 10)) 7 tt, oc 12 (.load none (.t 11)) 7 tt, oc 13 (.lenSlice (.t 12)) 7 tt, oc 14 (.bin .lss (.t 8) (.t 13)) 7 tt, oa 15 (.pick (.t 7) (.t 14) (.c (.bool false))), oa 4 (.mov (.t 15))] (kp 16 [4]))
  (sr 16 [4])))⟩
theorem F106 : shutF Try.prog 106 = some c106 := by kernel_rfl
def c113 : IFn := ⟨11, [(4, none)],
  (.seq (.region [oa 4 (.mov (ai 0))] (kp 11 [0,1]))
  (.seq (.seq (.region [oa 5 (.mov (.t 0)), oa 6 (.call 87 [(.t 5)])] (kp 11 [0,1,6]))
  (.cond (.t 6)
  (.seq (.region [oa 4 (.mov (ai 6))] (kp 11 [4]))
  (sr 11 [4]))
  (sk 11 [0,1])))
  (.seq (.seq (.region [oa 7 (.mov (.t 0)), oa 8 (.mov (.t 1)), oa 9 (.call 106 [(.t 7), (.t 8)]), oa 10 (.un .not (.t 9))] (kp 11 [10]))
  (.cond (.t 10)
  (.seq (.region [oa 4 (.mov (ai 2))] (kp 11 [4]))
  (sr 11 [4]))
  (sk 11 [])))
  (.seq (.region [oa 4 (.mov (ai 0))] (kp 11 [4]))
  (sr 11 [4])))))⟩
theorem F113 : shutF Try.prog 113 = some c113 := by kernel_rfl
def l81_0 : IC := (.seq (.seq (.seq (.region [oa 15 (.mov (.t 8)), oa 16 (.mov (.t 0)), oa 17 (.nilCheck (.t 16)), oa 18 (.fieldAddr 1 (.t 17)), oa 19 (.load none (.t 18)), oa 20 (.mov (.t 1)), oa 21 (.indexAddr 5 (.t 19) (.t 20)), oa 22 (.fieldAddr 4 (.t 21)), oa 23 (.load none (.t 22)), oa 24 (.lenSlice (.t 23)), oa 25 (.bin .lss (.t 15) (.t 24))] (kp 53 [0,1,7,8,25]))
  (.cond (.t 25)
  (sk 53 [0,1,7,8])
  (sx 53 [7] 0)))
  (.seq (.block 1
  (.region [oa 28 (.mov (.t 7)), oa 29 (.mov (.t 0)), oa 30 (.nilCheck (.t 29)), oa 31 (.fieldAddr 1 (.t 30)), oa 32 (.load none (.t 31)), oa 33 (.mov (.t 1)), oa 34 (.indexAddr 5 (.t 32) (.t 33)), oa 35 (.fieldAddr 4 (.t 34)), oa 36 (.load none (.t 35)), oa 37 (.mov (.t 8)), oa 38 (.indexAddr 3 (.t 36) (.t 37)), oa 39 (.fieldAddr 0 (.t 38)), oa 40 (.load none (.t 39)), oa 41 (.mov (.t 0)), oa 42 (.nilCheck (.t 41)), oa 43 (.fieldAddr 1 (.t 42)), oa 44 (.load none (.t 43)), oa 45 (.mov (.t 1)), oa 46 (.indexAddr 5 (.t 44) (.t 45)), oa 47 (.fieldAddr 1 (.t 46)), oa 48 (.load none (.t 47)), oa 49 (.build [(.int .i64 (0)), (.int .i64 (0))] [(0, 1, (.t 40)), (1, 1, (.t 48))]), oa 50 (.buildSlice 1 [(.int .i64 (0)), (.int .i64 (0))] [(0, 2, (.t 49))]), oa 51 (.append 2 16 (.t 28) (.t 50)), oa 7 (.mov (.t 51))] (kp 53 [0,1,7,8])))
  (.region [oa 26 (.mov (.t 8)), oa 27 (.bin .add (.t 26) (ai 1)), oa 8 (.mov (.t 27))] (kp 53 [0,1,7,8]))))
  (sk 53 [0,1,7,8]))
def c81 : IFn := ⟨53, [(4, none), (5, none)],
  (.seq (.region [oa 4 (.mov (.c (.slice none 0 (some 0)))), oa 5 (.mov (ai 0))] (kp 53 [0,1]))
  (.seq (.region [oa 9 (.mov (.t 0)), oa 10 (.mov (.t 1)), oa 11 (.call 113 [(.t 9), (.t 10)]), oa 6 (.mov (.t 11))] (kp 53 [0,1,6]))
  (.seq (.seq (.region [oa 12 (.mov (.t 6)), oa 13 (.bin .neq (.t 12) (ai 0))] (kp 53 [0,1,6,13]))
  (.cond (.t 13)
  (.seq (.region [oa 14 (.mov (.t 6)), oa 4 (.mov (.c (.slice none 0 (some 0)))), oa 5 (.mov (.t 14))] (kp 53 [4,5]))
  (sr 53 [4,5]))
  (sk 53 [0,1])))
  (.seq (.region [oa 7 (.mov (.c (.slice none 0 (some 0))))] (kp 53 [0,1,7]))
  (.seq (.seq (.region [oa 8 (.mov (ai 0))] (kp 53 [0,1,7,8]))
  (.block 0
  (.seq (sk 53 [0,1,7,8])
  (.loop l81_0))))
  (.seq (.region [oa 52 (.mov (.t 7)), oa 4 (.mov (.t 52)), oa 5 (.mov (ai 0))] (kp 53 [4,5]))
  (sr 53 [4,5])))))))⟩
theorem F81 : shutF Try.prog 81 = some c81 := by kernel_rfl
def l103_0 : IC := (.seq (.seq (.seq (.region [oa 33 (.mov (.t 7)), oa 34 (.mov (.t 0)), oa 35 (.nilCheck (.t 34)), oa 36 (.fieldAddr 1 (.t 35)), oa 37 (.load none (.t 36)), oa 38 (.mov (.t 6)), oa 39 (.indexAddr 5 (.t 37) (.t 38)), oa 40 (.fieldAddr 4 (.t 39)), oa 41 (.load none (.t 40)), oa 42 (.lenSlice (.t 41)), oa 43 (.bin .lss (.t 33) (.t 42))] (kp 63 [0,3,6,7,43]))
  (.cond (.t 43)
  (sk 63 [0,3,6,7])
  (sx 63 [0,3,6] 2)))
  (.seq (.block 3
  (.seq (.region [oa 46 (.mov (.t 0)), oa 47 (.nilCheck (.t 46)), oa 48 (.fieldAddr 1 (.t 47)), oa 49 (.load none (.t 48)), oa 50 (.mov (.t 6)), oa 51 (.indexAddr 5 (.t 49) (.t 50)), oa 52 (.fieldAddr 4 (.t 51)), oa 53 (.load none (.t 52)), oa 54 (.mov (.t 7)), oa 55 (.indexAddr 3 (.t 53) (.t 54)), oa 56 (.fieldAddr 0 (.t 55)), oa 57 (.load none (.t 56)), oa 58 (.fieldAddr 0 (.t 3)), oa 59 (.load none (.t 58)), oa 60 (.bin .eql (.t 57) (.t 59))] (kp 63 [0,3,6,7,60]))
  (.cond (.t 60)
  (.seq (.region [oa 61 (.mov (.t 6)), oa 62 (.mov (.t 7)), oa 4 (.mov (.t 61)), oa 5 (.mov (.t 62))] (kp 63 [4,5]))
  (sr 63 [4,5]))
  (sk 63 [0,3,6,7]))))
  (.region [oa 44 (.mov (.t 7)), oa 45 (.bin .add (.t 44) (ai 1)), oa 7 (.mov (.t 45))] (kp 63 [0,3,6,7]))))
  (sk 63 [0,3,6,7]))
def l103_1 : IC := (.seq (.seq (.seq (.region [oa 8 (.mov (.t 6)), oa 9 (.mov (.t 0)), oa 10 (.nilCheck (.t 9)), oa 11 (.fieldAddr 1 (.t 10)), oa 12 (.load none (.t 11)), oa 13 (.lenSlice (.t 12)), oa 14 (.bin .lss (.t 8) (.t 13))] (kp 63 [0,3,6,14]))
  (.cond (.t 14)
  (sk 63 [0,3,6])
  (sx 63 [] 0)))
  (.seq (.block 1
  (.seq (.seq (.region [oa 17 (.fieldAddr 1 (.t 3)), oa 18 (.load none (.t 17)), oa 19 (.bin .lss (.t 18) (ai 1)), oa 20 (.mov (.t 19)), oc 21 (.mov (.t 0)) 20 ff, oc 22 (.nilCheck (.t 21)) 20 ff, oc 23 (.fieldAddr 1 (.t 22)) 20 ff, oc 24 (.load none (.t 23)) 20 ff, oc 25 (.mov (.t 6)) 20 ff, oc 26 (.indexAddr 5 (.t 24) (.t 25)) 20 ff, oc 27 (.fieldAddr 1 (.t 26)) 20 ff, oc 28 (.load none (.t 27)) 20 ff, oc 29 (.fieldAddr 1 (.t 3)) 20 ff, oc 30 (.load none (.t 29)) 20 ff, oc 31 (.bin .neq (.t 28) (.t 30)) 20 ff, oa 32 (.pick (.t 20) (.c (.bool true)) (.t 31))] (kp 63 [0,3,6,32]))
  (.cond (.t 32)
  (sx 63 [0,3,6] 1)
  (sk 63 [0,3,6])))
  (.seq (.region [oa 7 (.mov (ai 0))] (kp 63 [0,3,6,7]))
  (.block 2
  (.seq (sk 63 [0,3,6,7])
  (.loop l103_0))))))
  (.region [oa 15 (.mov (.t 6)), oa 16 (.bin .add (.t 15) (ai 1)), oa 6 (.mov (.t 16))] (kp 63 [0,3,6]))))
  (sk 63 [0,3,6]))
def c103 : IFn := ⟨63, [(4, none), (5, none)],
  (.seq (.region [oa 3 (.box (.t 1)), oa 4 (.mov (ai 0)), oa 5 (.mov (ai 0))] (kp 63 [0,3]))
  (.seq (.seq (.region [oa 6 (.mov (ai 0))] (kp 63 [0,3,6]))
  (.block 0
  (.seq (sk 63 [0,3,6])
  (.loop l103_1))))
  (.seq (.region [oa 4 (.mov (ai (-1))), oa 5 (.mov (ai (-1)))] (kp 63 [4,5]))
  (sr 63 [4,5]))))⟩
theorem F103 : shutF Try.prog 103 = some c103 := by kernel_rfl
def c68 : IFn := ⟨61, [(6, (some (some 2))), (7, none)],
  (.seq (.region [oa 4 (.box (.t 1)), oa 6 (.alloc [(.int .i64 (0)), (.int .i64 (0))]), oa 7 (.mov (ai 0))] (kp 61 [0,2,4,6]))
  (.seq (.seq (.region [oa 10 (.mov (.t 0)), oa 11 (.call 87 [(.t 10)])] (kp 61 [0,2,4,6,11]))
  (.cond (.t 11)
  (.seq (.region [oa 12 (.build [(.int .i64 (0)), (.int .i64 (0))] []), ob (.store 2 (.t 6) (.t 12)), oa 7 (.mov (ai 6))] (kp 61 [6,7]))
  (sr 61 [6,7]))
  (sk 61 [0,2,4,6])))
  (.seq (.seq (.region [oa 13 (.fieldAddr 1 (.t 4)), oa 14 (.load none (.t 13)), oa 15 (.bin .lss (.t 14) (ai 1))] (kp 61 [0,2,4,6,15]))
  (.cond (.t 15)
  (.seq (.region [oa 16 (.build [(.int .i64 (0)), (.int .i64 (0))] []), ob (.store 2 (.t 6) (.t 16)), oa 7 (.mov (ai 2))] (kp 61 [6,7]))
  (sr 61 [6,7]))
  (sk 61 [0,2,4,6])))
  (.seq (.region [oa 18 (.mov (.t 0)), oa 19 (.load (some 2) (.t 4)), oa 20 (.call 103 [(.t 18), (.t 19)]), oa 17 (.mov (.t 20)), oa 21 (.extract (.t 17) 0), oa 22 (.extract (.t 17) 1), oa 8 (.mov (.t 21)), oa 9 (.mov (.t 22))] (kp 61 [0,2,6,8,9]))
  (.seq (.seq (.region [oa 23 (.mov (.t 8)), oa 24 (.bin .lss (.t 23) (ai 0))] (kp 61 [0,2,6,8,9,24]))
  (.cond (.t 24)
  (.seq (.region [oa 25 (.build [(.int .i64 (0)), (.int .i64 (0))] []), ob (.store 2 (.t 6) (.t 25)), oa 7 (.mov (ai 80))] (kp 61 [6,7]))
  (sr 61 [6,7]))
  (sk 61 [0,2,6,8,9])))
  (.seq (.seq (.region [oa 26 (.mov (.t 2)), oa 27 (.bin .lss (.t 26) (ai 0)), oa 28 (.mov (.t 27)), oc 29 (.mov (.t 2)) 28 ff, oc 30 (.mov (.t 0)) 28 ff, oc 31 (.nilCheck (.t 30)) 28 ff, oc 32 (.fieldAddr 1 (.t 31)) 28 ff, oc 33 (.load none (.t 32)) 28 ff, oc 34 (.mov (.t 8)) 28 ff, oc 35 (.indexAddr 5 (.t 33) (.t 34)) 28 ff, oc 36 (.fieldAddr 4 (.t 35)) 28 ff, oc 37 (.load none (.t 36)) 28 ff, oc 38 (.mov (.t 9)) 28 ff, oc 39 (.indexAddr 3 (.t 37) (.t 38)) 28 ff, oc 40 (.fieldAddr 2 (.t 39)) 28 ff, oc 41 (.load none (.t 40)) 28 ff, oc 42 (.lenSlice (.t 41)) 28 ff, oc 43 (.bin .geq (.t 29) (.t 42)) 28 ff, oa 44 (.pick (.t 28) (.c (.bool true)) (.t 43))] (kp 61 [0,2,6,8,9,44]))
  (.cond (.t 44)
  (.seq (.region [oa 45 (.build [(.int .i64 (0)), (.int .i64 (0))] []), ob (.store 2 (.t 6) (.t 45)), oa 7 (.mov (ai 2))] (kp 61 [6,7]))
  (sr 61 [6,7]))
  (sk 61 [0,2,6,8,9])))
  (.seq (.region [oa 46 (.mov (.t 0)), oa 47 (.nilCheck (.t 46)), oa 48 (.fieldAddr 1 (.t 47)), oa 49 (.load none (.t 48)), oa 50 (.mov (.t 8)), oa 51 (.indexAddr 5 (.t 49) (.t 50)), oa 52 (.fieldAddr 4 (.t 51)), oa 53 (.load none (.t 52)), oa 54 (.mov (.t 9)), oa 55 (.indexAddr 3 (.t 53) (.t 54)), oa 56 (.fieldAddr 2 (.t 55)), oa 57 (.load none (.t 56)), oa 58 (.mov (.t 2)), oa 59 (.indexAddr 2 (.t 57) (.t 58)), oa 60 (.load (some 2) (.t 59)), ob (.store 2 (.t 6) (.t 60)), oa 7 (.mov (ai 0))] (kp 61 [6,7]))
  (sr 61 [6,7]))))))))⟩
theorem F68 : shutF Try.prog 68 = some c68 := by kernel_rfl
def c69 : IFn := ⟨47, [(4, none), (5, none), (6, none)],
  (.seq (.region [oa 3 (.box (.t 1)), oa 4 (.mov (ai 0)), oa 5 (.mov (ai 0)), oa 6 (.mov (ai 0))] (kp 47 [0,3]))
  (.seq (.seq (.region [oa 9 (.mov (.t 0)), oa 10 (.call 87 [(.t 9)])] (kp 47 [0,3,10]))
  (.cond (.t 10)
  (.seq (.region [oa 4 (.mov (ai 0)), oa 5 (.mov (ai 0)), oa 6 (.mov (ai 6))] (kp 47 [4,5,6]))
  (sr 47 [4,5,6]))
  (sk 47 [0,3])))
  (.seq (.seq (.region [oa 11 (.fieldAddr 1 (.t 3)), oa 12 (.load none (.t 11)), oa 13 (.bin .lss (.t 12) (ai 1))] (kp 47 [0,3,13]))
  (.cond (.t 13)
  (.seq (.region [oa 4 (.mov (ai 0)), oa 5 (.mov (ai 0)), oa 6 (.mov (ai 2))] (kp 47 [4,5,6]))
  (sr 47 [4,5,6]))
  (sk 47 [0,3])))
  (.seq (.region [oa 15 (.mov (.t 0)), oa 16 (.load (some 2) (.t 3)), oa 17 (.call 103 [(.t 15), (.t 16)]), oa 14 (.mov (.t 17)), oa 18 (.extract (.t 14) 0), oa 19 (.extract (.t 14) 1), oa 7 (.mov (.t 18)), oa 8 (.mov (.t 19))] (kp 47 [0,7,8]))
  (.seq (.seq (.region [oa 20 (.mov (.t 7)), oa 21 (.bin .lss (.t 20) (ai 0))] (kp 47 [0,7,8,21]))
  (.cond (.t 21)
  (.seq (.region [oa 4 (.mov (ai 0)), oa 5 (.mov (ai 0)), oa 6 (.mov (ai 80))] (kp 47 [4,5,6]))
  (sr 47 [4,5,6]))
  (sk 47 [0,7,8])))
  (.seq (.region [oa 22 (.mov (.t 0)), oa 23 (.nilCheck (.t 22)), oa 24 (.fieldAddr 1 (.t 23)), oa 25 (.load none (.t 24)), oa 26 (.mov (.t 7)), oa 27 (.indexAddr 5 (.t 25) (.t 26)), oa 28 (.fieldAddr 4 (.t 27)), oa 29 (.load none (.t 28)), oa 30 (.mov (.t 8)), oa 31 (.indexAddr 3 (.t 29) (.t 30)), oa 32 (.fieldAddr 1 (.t 31)), oa 33 (.load none (.t 32)), oa 34 (.mov (.t 0)), oa 35 (.nilCheck (.t 34)), oa 36 (.fieldAddr 1 (.t 35)), oa 37 (.load none (.t 36)), oa 38 (.mov (.t 7)), oa 39 (.indexAddr 5 (.t 37) (.t 38)), oa 40 (.fieldAddr 4 (.t 39)), oa 41 (.load none (.t 40)), oa 42 (.mov (.t 8)), oa 43 (.indexAddr 3 (.t 41) (.t 42)), oa 44 (.fieldAddr 2 (.t 43)), oa 45 (.load none (.t 44)), oa 46 (.lenSlice (.t 45)), oa 4 (.mov (.t 33)), oa 5 (.mov (.t 46)), oa 6 (.mov (ai 0))] (kp 47 [4,5,6]))
  (sr 47 [4,5,6])))))))⟩
theorem F69 : shutF Try.prog 69 = some c69 := by kernel_rfl
theorem RHeap.rv_len (h : RHeap) : lenV h.rv = some (.int .i64 h.regs.length) := by unfold RHeap.rv; split; exact rowV_len _ _; rfl
theorem RReg.enc_len (r : RReg) : r.enc.length = 5 := rfl
theorem RReg.enc_one (r : RReg) : r.enc.all V.one = true := by simp only [RReg.enc, List.all_cons, List.all_nil, pgV_one, rowV_one, one_int, Bool.and_true]
theorem RObj.enc_len (r : RObj) : r.enc.length = 3 := rfl
theorem RObj.enc_one (r : RObj) : r.enc.all V.one = true := by simp only [RObj.enc, List.all_cons, List.all_nil, cV_one, one_int, Bool.and_true]
theorem rreg {h : RHeap} {i : Nat} {g : RReg} (hg : h.regs[i]? = some g) :
    (ixV 5 h.rv (.int .i64 (i : Int)) = some (.ptr (some ⟨.new h.rowk, i * 5⟩))) ∧ (ldC (i * 5) (some h.row) = some (I g.size)) ∧ (ldC (i * 5 + 1) (some h.row) = some (I g.life)) ∧ (ldC (i * 5 + 2) (some h.row) = some (pgV g.pgk g.pages.length)) ∧
    (ldC (i * 5 + 3) (some h.row) = some (I g.fill)) ∧ (ldC (i * 5 + 4) (some h.row) = some (rowV g.obk g.objs.length)) ∧ (ldN 5 (i * 5) (some h.row) = some (.agg g.enc)) := by
  have hi : i < h.regs.length := (List.getElem?_eq_some_iff.1 hg).1
  have t := fun f (hf : f < 5) => tab_get (enc := RReg.enc) (sz := 5) RReg.enc_len h.regs h.sl hg hf
  refine ⟨?_, ?_, ?_, ?_, ?_, ?_, ?_⟩
  · unfold RHeap.rv
    split
    · exact ix_row hi
    · rw [ix_cell hi, Nat.zero_add]
  · exact t 0 (by omega)
  · exact t 1 (by omega)
  · exact t 2 (by omega)
  · exact t 3 (by omega)
  · exact t 4 (by omega)
  · unfold RHeap.row; rw [ldN_some, tab_cut RReg.enc_len h.regs h.sl hg]; rfl
theorem robj {l : List RObj} {j : Nat} {x : RObj} (hx : l[j]? = some x) :
    (ldC (j * 3) (some (.cells (l.flatMap RObj.enc) (some 3))) = some (I x.b.at_)) ∧ (ldC (j * 3 + 1) (some (.cells (l.flatMap RObj.enc) (some 3))) = some (I x.b.kind)) ∧ (ldC (j * 3 + 2) (some (.cells (l.flatMap RObj.enc) (some 3))) = some (cV x.gr x.wid x.b.ws.length)) ∧
    (ldN 3 (j * 3) (some (.cells (l.flatMap RObj.enc) (some 3))) = some (.agg x.enc)) := by
  have t := fun f (hf : f < 3) => tab_get (enc := RObj.enc) (sz := 3) RObj.enc_len l [] hx hf
  simp only [List.append_nil] at t
  exact ⟨t 0 (by omega), t 1 (by omega), t 2 (by omega), ldN_tab RObj.enc_len l (some 3) hx⟩
section
variable {o : Nat → Option O} {s : St} {C F : Ch} {Q : V → St → Prop}
set_option maxRecDepth 10000
structure RIn (C : Ch) (p : Nat) (hr : RHeap) : Prop where
  sub : ∀ x ∈ hr.ch p, x ∈ C
theorem RIn.id {hr : RHeap} {p : Nat} (h : RIn C p hr) : (hr.id, some (hr.hd p)) ∈ C := h.sub _ (List.mem_cons_self ..)
theorem RIn.row {hr : RHeap} {p : Nat} (h : RIn C p hr) : (hr.rowk, some hr.row) ∈ C := h.sub _ (List.mem_cons_of_mem _ (List.mem_cons_self ..))
theorem RIn.reg {hr : RHeap} {p : Nat} (h : RIn C p hr) {g : RReg} (m : g ∈ hr.regs) {x : Nat × Option O} (hx : x ∈ g.ch) : x ∈ C := h.sub _ (List.mem_cons_of_mem _ (List.mem_cons_of_mem _ (List.mem_flatMap.2 ⟨g, m, hx⟩)))
theorem RIn.pg {hr : RHeap} {p : Nat} (h : RIn C p hr) {g : RReg} (m : g ∈ hr.regs) : (g.pgk, pagesO g.pages) ∈ C := h.reg m (List.mem_cons_self ..)
theorem RIn.ob {hr : RHeap} {p : Nat} (h : RIn C p hr) {g : RReg} (m : g ∈ hr.regs) : (g.obk, RReg.obO g.objs) ∈ C := h.reg m (by simp [RReg.ch])
theorem RIn.w {hr : RHeap} {p : Nat} (h : RIn C p hr) {g : RReg} (m : g ∈ hr.regs) {x : RObj} (mx : x ∈ g.objs) : (x.wid, some (.cells (x.b.ws.flatMap encW) (cG x.gr 2))) ∈ C := h.reg m (by simp [RReg.ch, RObj.ch]; exact .inr (.inr ⟨x, mx, rfl, rfl, rfl⟩))
theorem RIn.mono {D : Ch} {hr : RHeap} {p : Nat} (h : RIn C p hr) (hs : ∀ x ∈ C, x ∈ D) : RIn D p hr := ⟨fun x hx => hs x (h.sub x hx)⟩
theorem RIn.cons {hr : RHeap} {p : Nat} (h : RIn C p hr) (x : Nat × Option O) : RIn (x :: C) p hr := h.mono fun _ h => List.mem_cons_of_mem _ h
def RGone (C : Ch) (hv : V) : Prop := hv = .ptr none ∨ ∃ h c d, hv = ptrN h ∧ (h, some (.cells [c, .slice none 0 (some 0), d] none)) ∈ C
theorem RGone.mono {D : Ch} {hv : V} (h : RGone C hv) (hs : ∀ x ∈ C, x ∈ D) : RGone D hv := by
  rcases h with h | ⟨k, c, d, h, m⟩
  · exact .inl h
  · exact .inr ⟨k, c, d, h, hs _ m⟩
theorem s87_gone (hC : Holds o s C) {hv : V} (g : RGone C hv) : call PF 87 [hv] s = some (.bool true, s) := by
  rcases g with rfl | ⟨k, c, d, rfl, m⟩
  · rw [call_run F87]; simp -implicitDefEqProofs only [↓GP, GB, GL, Nat.reduceAdd, Nat.reduceSub, Nat.reduceEqDiff, Nat.reduceMul, Nat.reduceLeDiff, Int.reduceBNe, Int.reduceBEq, Nat.reduceLT, reduceCtorEq, c87]
  · have f := hC.mem m
    rw [call_run F87]; simp -implicitDefEqProofs only [↓GP, GB, GL, Nat.reduceAdd, Nat.reduceSub, Nat.reduceEqDiff, Nat.reduceMul, Nat.reduceLeDiff, Int.reduceBNe, Int.reduceBEq, Nat.reduceLT, reduceCtorEq, c87, f, Int.natCast_zero]
theorem s87 (hC : Holds o s C) {hr : RHeap} {p : Nat} (hin : RIn C p hr) (h0 : hr.regs ≠ []) : call PF 87 [ptrN hr.id] s = some (.bool false, s) := by
  have f := hC.mem hin.id
  simp only [RHeap.hd] at f
  have hb : ((hr.regs.length : Int) == 0) = false := by rw [beq_eq_false_iff_ne]; have := List.length_pos_iff.2 h0; omega
  rw [call_run F87]; simp -implicitDefEqProofs only [↓GP, GB, GL, Nat.reduceAdd, Nat.reduceSub, Nat.reduceEqDiff, Nat.reduceMul, Nat.reduceLeDiff, Int.reduceBNe, Int.reduceBEq, Nat.reduceLT, reduceCtorEq, c87, f, hr.rv_len, hb]
theorem s106 (hC : Holds o s C) {hr : RHeap} {p : Nat} (hin : RIn C p hr) (n : Int) : call PF 106 [ptrN hr.id, I n] s = some (.bool (decide (0 ≤ n) && decide (n < hr.regs.length)), s) := by
  have f := hC.mem hin.id
  simp only [RHeap.hd] at f
  by_cases h : (n ≥ 0)
  · have h' : (0 ≤ n) := h
    rw [call_run F106]; simp -implicitDefEqProofs only [↓GP, GB, GL, Nat.reduceAdd, Nat.reduceSub, Nat.reduceEqDiff, Nat.reduceMul, Nat.reduceLeDiff, Int.reduceBNe, Int.reduceBEq, Nat.reduceLT, reduceCtorEq, c106, f, hr.rv_len, h, h']
  · have h' : ¬ (0 ≤ n) := h
    rw [call_run F106]; simp -implicitDefEqProofs only [↓GP, GB, GL, Nat.reduceAdd, Nat.reduceSub, Nat.reduceEqDiff, Nat.reduceMul, Nat.reduceLeDiff, Int.reduceBNe, Int.reduceBEq, Nat.reduceLT, reduceCtorEq, c106, f, hr.rv_len, h, h']
def RAtErr (C : Ch) (hv : V) (n err : Int) : Prop := (RGone C hv ∧ err = 6) ∨ (err = 2 ∧ ∃ hr : RHeap, ∃ p, hv = ptrN hr.id ∧ RIn C p hr ∧ hr.regs ≠ [] ∧ ¬ (0 ≤ n ∧ n < hr.regs.length))
theorem RAtErr.ne {hv : V} {n err : Int} (h : RAtErr C hv n err) : err = 6 ∨ err = 2 := by
  rcases h with ⟨_, h⟩ | ⟨h, _⟩
  · exact .inl h
  · exact .inr h
theorem is_false {n : Int} {m : Nat} (h : ¬ (0 ≤ n ∧ n < m)) : (decide (0 ≤ n) && decide (n < m)) = false := by
  rw [Bool.and_eq_false_iff, decide_eq_false_iff_not, decide_eq_false_iff_not]; omega
theorem is_true {i m : Nat} (h : i < m) : (decide (0 ≤ (i : Int)) && decide ((i : Int) < (m : Int))) = true := by
  rw [Bool.and_eq_true, decide_eq_true_eq, decide_eq_true_eq]; omega
theorem s113_err (hC : Holds o s C) {hv : V} {n err : Int} (e : RAtErr C hv n err) : call PF 113 [hv, I n] s = some (I err, s) := by
  rcases e with ⟨g, rfl⟩ | ⟨rfl, hr, p, rfl, hin, h0, hb⟩
  · have e := s87_gone hC g
    rw [call_run F113]; simp -implicitDefEqProofs only [↓GP, GB, GL, Nat.reduceAdd, Nat.reduceSub, Nat.reduceEqDiff, Nat.reduceMul, Nat.reduceLeDiff, Int.reduceBNe, Int.reduceBEq, Nat.reduceLT, reduceCtorEq, c113, e]
  · have e := s87 hC hin h0
    have e2 := s106 hC hin n
    rw [is_false hb] at e2
    rw [call_run F113]; simp -implicitDefEqProofs only [↓GP, GB, GL, Nat.reduceAdd, Nat.reduceSub, Nat.reduceEqDiff, Nat.reduceMul, Nat.reduceLeDiff, Int.reduceBNe, Int.reduceBEq, Nat.reduceLT, reduceCtorEq, c113, e, e2]
theorem s113 (hC : Holds o s C) {hr : RHeap} {p i : Nat} (hin : RIn C p hr) (hi : i < hr.regs.length) : call PF 113 [ptrN hr.id, I i] s = some (I 0, s) := by
  have e := s87 hC hin (List.length_pos_iff.1 (by omega))
  have e2 := s106 hC hin i
  rw [is_true hi] at e2
  rw [call_run F113]; simp -implicitDefEqProofs only [↓GP, GB, GL, Nat.reduceAdd, Nat.reduceSub, Nat.reduceEqDiff, Nat.reduceMul, Nat.reduceLeDiff, Int.reduceBNe, Int.reduceBEq, Nat.reduceLT, reduceCtorEq, c113, e, e2]
def rencP (life : Nat) (x : RObj) : List V := [I x.b.at_, I life]
theorem objectsOf_loop {hr : RHeap} {p i : Nat} {g : RReg}  {K : Kt} (hin : RIn C p hr) (hg : hr.regs[i]? = some g) (hl : g.objs.length ≤ 100000) :
    ∀ (m j k : Nat) (s : St), j + m = g.objs.length → Holds o s ((k, rowO 2 j ((g.objs.take j).flatMap (rencP g.life))) :: C) →
    (∀ s' k', Holds o s' ((k', rowO 2 g.objs.length (g.objs.flatMap (rencP g.life))) :: C) → WP (K (.exit 0) (sp 53 [(7, rowV k' g.objs.length)]) s') Q) →
    WP (loop PF (.loop l81_0) (sp 53 [(0, ptrN hr.id), (1, I i), (7, rowV k j), (8, I j)]) s K) Q
  | 0, j, k, s, hj, H, q => by
    have hlt : ¬ ((j : Int) < (g.objs.length : Int)) := by omega
    have f := H.mem (List.mem_cons_of_mem _ hin.id)
    have fr := H.mem (List.mem_cons_of_mem _ hin.row)
    simp only [RHeap.hd] at f
    refine wp_round fun LL hLL => ?_
    simp -implicitDefEqProofs only [↓GP, GB, GL, Nat.reduceAdd, Nat.reduceSub, Nat.reduceEqDiff, Nat.reduceMul, Nat.reduceLeDiff, Int.reduceBNe, Int.reduceBEq, Nat.reduceLT, reduceCtorEq, l81_0, hlt, f, fr, rreg hg]
    have e : j = g.objs.length := by omega
    subst e
    rw [List.take_length] at H
    exact q s k H
  | m + 1, j, k, s, hj, H, q => by
    have hlt : ((j : Int) < (g.objs.length : Int)) := by omega
    have hj' : j < g.objs.length := by omega
    have f := H.mem (List.mem_cons_of_mem _ hin.id)
    have fr := H.mem (List.mem_cons_of_mem _ hin.row)
    simp only [RHeap.hd] at f
    have mg := List.mem_of_getElem? hg
    have mo := hin.ob mg
    unfold RReg.obO at mo
    rw [rowO_pos (by omega)] at mo
    have fo := H.mem (List.mem_cons_of_mem _ mo)
    have hx : g.objs[j]? = some g.objs[j] := by simp [hj']
    refine wp_round fun LL hLL => ?_
    simp -implicitDefEqProofs only [↓GP, GB, GL, Nat.reduceAdd, Nat.reduceSub, Nat.reduceEqDiff, Nat.reduceMul, Nat.reduceLeDiff, Int.reduceBNe, Int.reduceBEq, Nat.reduceLT, reduceCtorEq, l81_0, hlt, f, fr, fo, rreg hg, robj hx, ix_row hj']
    refine wp_append (cs := (g.objs.take j).flatMap (rencP g.life)) ((H.alloc _).r1) (by rw [tab_len (sz := 2) (fun _ => rfl)]; simp; omega) (new_cells' (alloc_new_same _ _) rfl) rfl rfl (by omega) (by unfold maxRow; omega) (by unfold maxRow; omega) fun k' s1 h1 => ?_
    have hw := wrap_add1 (a := j) (by omega)
    simp -implicitDefEqProofs only [↓GP, GB, GL, Nat.reduceAdd, Nat.reduceSub, Nat.reduceEqDiff, Nat.reduceMul, Nat.reduceLeDiff, Int.reduceBNe, Int.reduceBEq, Nat.reduceLT, reduceCtorEq, hw]
    rw [hLL]
    refine objectsOf_loop hin hg hl m (j + 1) k' s1 (by omega) ?_ q
    have e : (g.objs.take (j + 1)).flatMap (rencP g.life) = (g.objs.take j).flatMap (rencP g.life) ++ [I g.objs[j].b.at_, I g.life] := by
      rw [List.take_succ_eq_append_getElem hj', List.flatMap_append]; simp [rencP]
    rw [e]
    exact h1.r1.tl
theorem s81_err (hC : Holds o s C) {hv : V} {n err : Int} (e : RAtErr C hv n err) : call PF 81 [hv, I n] s = some (.tuple [.slice none 0 (some 0), I err], s) := by
  have e1 := s113_err hC e
  rcases e.ne with rfl | rfl
  · rw [call_run F81]; simp -implicitDefEqProofs only [↓GP, GB, GL, Nat.reduceAdd, Nat.reduceSub, Nat.reduceEqDiff, Nat.reduceMul, Nat.reduceLeDiff, Int.reduceBNe, Int.reduceBEq, Nat.reduceLT, reduceCtorEq, c81, e1, Int.reduceBNe]
  · rw [call_run F81]; simp -implicitDefEqProofs only [↓GP, GB, GL, Nat.reduceAdd, Nat.reduceSub, Nat.reduceEqDiff, Nat.reduceMul, Nat.reduceLeDiff, Int.reduceBNe, Int.reduceBEq, Nat.reduceLT, reduceCtorEq, c81, e1, Int.reduceBNe]
theorem s81 (hC : Holds o s C) {hr : RHeap} {p i : Nat} (hin : RIn C p hr) {g : RReg} (hg : hr.regs[i]? = some g) (hl : g.objs.length ≤ 100000)
    (q : ∀ s' k, Holds o s' ((k, rowO 2 g.objs.length (g.objs.flatMap (rencP g.life))) :: C) → Q (.tuple [rowV k g.objs.length, I 0]) s') : WP (call PF 81 [ptrN hr.id, I i] s) Q := by
  have e1 := s113 hC hin (List.getElem?_eq_some_iff.1 hg).1
  rw [call_run F81]; simp -implicitDefEqProofs only [↓GP, GB, GL, Nat.reduceAdd, Nat.reduceSub, Nat.reduceEqDiff, Nat.reduceMul, Nat.reduceLeDiff, Int.reduceBNe, Int.reduceBEq, Nat.reduceLT, reduceCtorEq, c81, e1, Int.reduceBNe]
  refine objectsOf_loop hin hg hl g.objs.length 0 0 s (by omega) (by simpa using hC.nilEntry 0) fun s1 k h1 => ?_
  simp -implicitDefEqProofs only [↓GP, GB, GL, Nat.reduceAdd, Nat.reduceSub, Nat.reduceEqDiff, Nat.reduceMul, Nat.reduceLeDiff, Int.reduceBNe, Int.reduceBEq, Nat.reduceLT, reduceCtorEq]
  exact q s1 k h1
def rfind (N L : Int) : List RReg → Nat → Option (Nat × Nat)
  | [], _ => none
  | g :: rs, i => if (g.life : Int) = L ∧ 1 ≤ L then match g.objs.findIdx? (fun x => decide ((x.b.at_ : Int) = N)) with
    | some k => some (i, k)
    | none => rfind N L rs (i + 1)
    else rfind N L rs (i + 1)
theorem find_inner {hr : RHeap} {p i t : Nat} {g : RReg} {N L : Int} {K : Kt} (hC : Holds o s C) (hin : RIn C p hr) (hg : hr.regs[i]? = some g) (hl : g.objs.length ≤ 100000) (mt : (t, some (.cells [I N, I L] none)) ∈ C) :
    ∀ (m j : Nat), j + m = g.objs.length →
    loop PF (.loop l103_0) (sp 63 [(0, ptrN hr.id), (3, ptrN t), (6, I i), (7, I j)]) s K =
      match (g.objs.drop j).findIdx? (fun x => decide ((x.b.at_ : Int) = N)) with
      | some k => K .ret (sp 63 [(4, I i), (5, I (j + k : Nat))]) s
      | none => K (.exit 2) (sp 63 [(0, ptrN hr.id), (3, ptrN t), (6, I i)]) s
  | 0, j, hj => by
    have hlt : ¬ ((j : Int) < (g.objs.length : Int)) := by omega
    have f := hC.mem hin.id
    have fr := hC.mem hin.row
    simp only [RHeap.hd] at f
    refine round fun LL hLL => ?_
    rw [List.drop_eq_nil_of_le (by omega)]
    have e : j = g.objs.length := by omega
    simp -implicitDefEqProofs only [↓GP, GB, GL, Nat.reduceAdd, Nat.reduceSub, Nat.reduceEqDiff, Nat.reduceMul, Nat.reduceLeDiff, Int.reduceBNe, Int.reduceBEq, Nat.reduceLT, reduceCtorEq, l103_0, hlt, f, fr, rreg hg]
    rw [e]
    rfl
  | m + 1, j, hj => by
    have hlt : ((j : Int) < (g.objs.length : Int)) := by omega
    have hj' : j < g.objs.length := by omega
    have f := hC.mem hin.id
    have fr := hC.mem hin.row
    have ft := hC.mem mt
    simp only [RHeap.hd] at f
    have mg := List.mem_of_getElem? hg
    have mo := hin.ob mg
    unfold RReg.obO at mo
    rw [rowO_pos (by omega)] at mo
    have fo := hC.mem mo
    have hx : g.objs[j]? = some g.objs[j] := by simp [hj']
    have hd : g.objs.drop j = g.objs[j] :: g.objs.drop (j + 1) := List.drop_eq_getElem_cons hj'
    have w3 := wrap_add1 (a := j) (by omega)
    rw [hd, List.findIdx?_cons]
    by_cases he : (g.objs[j].b.at_ : Int) = N
    · have hb : ((g.objs[j].b.at_ : Int) == N) = true := by simpa using he
      refine round fun LL hLL => ?_
      simp -implicitDefEqProofs only [↓GP, GB, GL, Nat.reduceAdd, Nat.reduceSub, Nat.reduceEqDiff, Nat.reduceMul, Nat.reduceLeDiff, Int.reduceBNe, Int.reduceBEq, Nat.reduceLT, reduceCtorEq, l103_0, hlt, f, fr, fo, ft, rreg hg, robj hx, ix_row hj', hb, he]
    · have hb : ((g.objs[j].b.at_ : Int) == N) = false := by simpa using he
      have ih := find_inner (K := K) hC hin hg hl mt m (j + 1) (by omega)
      refine round fun LL hLL => ?_
      simp -implicitDefEqProofs only [↓GP, GB, GL, Nat.reduceAdd, Nat.reduceSub, Nat.reduceEqDiff, Nat.reduceMul, Nat.reduceLeDiff, Int.reduceBNe, Int.reduceBEq, Nat.reduceLT, reduceCtorEq, l103_0, hlt, f, fr, fo, ft, rreg hg, robj hx, ix_row hj', hb, he, w3]
      rw [hLL, ih]
      cases (g.objs.drop (j + 1)).findIdx? (fun x => decide ((x.b.at_ : Int) = N)) with
      | none => rfl
      | some k => simp only [Option.map_some]; rw [show j + 1 + k = j + (k + 1) by omega]
theorem find_loop {hr : RHeap} {p t : Nat} {N L : Int}  {K : Kt} (hC : Holds o s C) (hin : RIn C p hr) (h0 : hr.regs.length ≤ 100000) (hl : ∀ g ∈ hr.regs, g.objs.length ≤ 100000) (mt : (t, some (.cells [I N, I L] none)) ∈ C) :
    ∀ (m i : Nat), i + m = hr.regs.length →
    loop PF (.loop l103_1) (sp 63 [(0, ptrN hr.id), (3, ptrN t), (6, I i)]) s K =
      match rfind N L (hr.regs.drop i) i with
      | some (a, b) => K .ret (sp 63 [(4, I a), (5, I b)]) s
      | none => K (.exit 0) (sp 63 []) s
  | 0, i, hi => by
    have hlt : ¬ ((i : Int) < (hr.regs.length : Int)) := by omega
    have f := hC.mem hin.id
    simp only [RHeap.hd] at f
    refine round fun LL hLL => ?_
    rw [List.drop_eq_nil_of_le (by omega)]
    simp -implicitDefEqProofs only [↓GP, GB, GL, Nat.reduceAdd, Nat.reduceSub, Nat.reduceEqDiff, Nat.reduceMul, Nat.reduceLeDiff, Int.reduceBNe, Int.reduceBEq, Nat.reduceLT, reduceCtorEq, l103_1, hlt, f, hr.rv_len]
    rfl
  | m + 1, i, hi => by
    have hlt : ((i : Int) < (hr.regs.length : Int)) := by omega
    have hi' : i < hr.regs.length := by omega
    have f := hC.mem hin.id
    have fr := hC.mem hin.row
    have ft := hC.mem mt
    simp only [RHeap.hd] at f
    have hg : hr.regs[i]? = some hr.regs[i] := by simp [hi']
    have hd : hr.regs.drop i = hr.regs[i] :: hr.regs.drop (i + 1) := List.drop_eq_getElem_cons hi'
    have w3 := wrap_add1 (a := i) (by omega)
    have ih := find_loop (K := K) hC hin h0 hl mt m (i + 1) (by omega)
    rw [hd, rfind]
    refine round fun LL hLL => ?_
    by_cases hL1 : L < 1
    · rw [if_neg (by omega)]
      simp -implicitDefEqProofs only [↓GP, GB, GL, Nat.reduceAdd, Nat.reduceSub, Nat.reduceEqDiff, Nat.reduceMul, Nat.reduceLeDiff, Int.reduceBNe, Int.reduceBEq, Nat.reduceLT, reduceCtorEq, l103_1, hlt, f, fr, ft, hr.rv_len, hL1, w3]
      rw [hLL, ih]
    · by_cases hL : (hr.regs[i].life : Int) = L
      · rw [if_pos ⟨hL, by omega⟩]
        have hb : ((hr.regs[i].life : Int) != L) = false := by simpa using hL
        have e := fun K => find_inner (K := K) hC hin hg (hl _ (List.getElem_mem hi')) mt hr.regs[i].objs.length 0 (by omega)
        simp only [List.drop_zero, Nat.zero_add, Int.natCast_zero] at e
        simp -implicitDefEqProofs only [↓GP, GB, GL, Nat.reduceAdd, Nat.reduceSub, Nat.reduceEqDiff, Nat.reduceMul, Nat.reduceLeDiff, Int.reduceBNe, Int.reduceBEq, Nat.reduceLT, reduceCtorEq, l103_1, hlt, f, fr, ft, hr.rv_len, rreg hg, hL1, hb]
        rw [e]
        cases hk : hr.regs[i].objs.findIdx? (fun x => decide ((x.b.at_ : Int) = N)) with
        | some k => simp -implicitDefEqProofs only [↓GP, GB, GL, Nat.reduceAdd, Nat.reduceSub, Nat.reduceEqDiff, Nat.reduceMul, Nat.reduceLeDiff, Int.reduceBNe, Int.reduceBEq, Nat.reduceLT, reduceCtorEq]
        | none =>
          simp -implicitDefEqProofs only [↓GP, GB, GL, Nat.reduceAdd, Nat.reduceSub, Nat.reduceEqDiff, Nat.reduceMul, Nat.reduceLeDiff, Int.reduceBNe, Int.reduceBEq, Nat.reduceLT, reduceCtorEq, w3]
          rw [hLL, ih]
      · rw [if_neg (fun h => hL h.1)]
        have hb : ((hr.regs[i].life : Int) != L) = true := by simpa using hL
        simp -implicitDefEqProofs only [↓GP, GB, GL, Nat.reduceAdd, Nat.reduceSub, Nat.reduceEqDiff, Nat.reduceMul, Nat.reduceLeDiff, Int.reduceBNe, Int.reduceBEq, Nat.reduceLT, reduceCtorEq, l103_1, hlt, f, fr, ft, hr.rv_len, rreg hg, hL1, hb, w3]
        rw [hLL, ih]
theorem s103 (hC : Holds o s C) {hr : RHeap} {p : Nat} {N L : Int} (hin : RIn C p hr) (h0 : hr.regs.length ≤ 100000) (hl : ∀ g ∈ hr.regs, g.objs.length ≤ 100000)
    (q : ∀ s', Holds o s' C → Q (match rfind N L hr.regs 0 with | some (a, b) => .tuple [I a, I b] | none => .tuple [I (-1), I (-1)]) s') : WP (call PF 103 [ptrN hr.id, .agg [I N, I L]] s) Q := by
  have h1 := hC.alloc (.cells [I N, I L] none)
  have e := fun K => find_loop (K := K) h1 (hin.cons _) h0 hl (List.mem_cons_self ..) hr.regs.length 0 (by omega)
  simp only [List.drop_zero, Int.natCast_zero] at e
  rw [call_run F103]; simp -implicitDefEqProofs only [↓GP, GB, GL, Nat.reduceAdd, Nat.reduceSub, Nat.reduceEqDiff, Nat.reduceMul, Nat.reduceLeDiff, Int.reduceBNe, Int.reduceBEq, Nat.reduceLT, reduceCtorEq, c103]
  rw [e]
  cases hf : rfind N L hr.regs 0 with
  | none =>
    rw [hf] at q
    simp -implicitDefEqProofs only [↓GP, GB, GL, Nat.reduceAdd, Nat.reduceSub, Nat.reduceEqDiff, Nat.reduceMul, Nat.reduceLeDiff, Int.reduceBNe, Int.reduceBEq, Nat.reduceLT, reduceCtorEq, Int.reduceNeg]
    exact q _ h1.tl
  | some ab =>
    obtain ⟨a, b⟩ := ab
    rw [hf] at q
    simp -implicitDefEqProofs only [↓GP, GB, GL, Nat.reduceAdd, Nat.reduceSub, Nat.reduceEqDiff, Nat.reduceMul, Nat.reduceLeDiff, Int.reduceBNe, Int.reduceBEq, Nat.reduceLT, reduceCtorEq]
    exact q _ h1.tl
theorem rfind_some {N L : Int} : ∀ {rs : List RReg} {i a b : Nat}, rfind N L rs i = some (a, b) → ∃ g x, i ≤ a ∧ rs[a - i]? = some g ∧ g.objs[b]? = some x ∧ (g.life : Int) = L ∧ (x.b.at_ : Int) = N ∧ ∀ k, k < b → ∀ y, g.objs[k]? = some y → (y.b.at_ : Int) ≠ N
  | [], _, _, _, h => by cases h
  | g :: rs, i, a, b, h => by
    rw [rfind] at h
    have rec' : rfind N L rs (i + 1) = some (a, b) → ∃ g' x, i ≤ a ∧ (g :: rs)[a - i]? = some g' ∧ g'.objs[b]? = some x ∧ (g'.life : Int) = L ∧ (x.b.at_ : Int) = N ∧ ∀ k, k < b → ∀ y, g'.objs[k]? = some y → (y.b.at_ : Int) ≠ N := fun h => by
      obtain ⟨g', x, h1, h2, h3⟩ := rfind_some h
      refine ⟨g', x, by omega, ?_, h3⟩
      rw [show a - i = (a - (i + 1)) + 1 by omega, List.getElem?_cons_succ]; exact h2
    split at h
    · rename_i hl
      split at h
      · rename_i k hk
        cases h
        obtain ⟨h1, h2, h3⟩ := List.findIdx?_eq_some_iff_getElem.1 hk
        refine ⟨g, g.objs[b], Nat.le_refl _, by simp, by simp [h1], hl.1, by simpa using h2, fun k hk y hy => ?_⟩
        have := h3 k hk
        rw [List.getElem?_eq_getElem (by omega)] at hy
        cases hy
        simpa using this
      · exact rec' h
    · exact rec' h
def RObjErr (C : Ch) (hv : V) (N L err : Int) : Prop := (RGone C hv ∧ err = 6) ∨
  ∃ hr : RHeap, ∃ p, hv = ptrN hr.id ∧ RIn C p hr ∧ hr.regs ≠ [] ∧ hr.regs.length ≤ 100000 ∧ (∀ g ∈ hr.regs, g.objs.length ≤ 100000) ∧ ((err = 2 ∧ L < 1) ∨ (err = 80 ∧ ¬ L < 1 ∧ rfind N L hr.regs 0 = none))
theorem RObjErr.mono {D : Ch} {hv : V} {N L err : Int} (h : RObjErr C hv N L err) (hs : ∀ x ∈ C, x ∈ D) : RObjErr D hv N L err := by
  rcases h with ⟨g, h⟩ | ⟨hp, p, h1, h2, h3⟩
  · exact .inl ⟨g.mono hs, h⟩
  · exact .inr ⟨hp, p, h1, h2.mono hs, h3⟩
theorem s69_err (hC : Holds o s C) {hv : V} {N L err : Int} (e : RObjErr C hv N L err) (q : ∀ s', Holds o s' C → Q (.tuple [I 0, I 0, I err]) s') : WP (call PF 69 [hv, .agg [I N, I L]] s) Q := by
  have h1 := hC.alloc (.cells [I N, I L] none)
  have hs : ∀ x ∈ C, x ∈ (s.next, some (.cells [I N, I L] none)) :: C := fun x hx => List.mem_cons_of_mem _ hx
  rcases e with ⟨g, rfl⟩ | ⟨hr, p, rfl, hin, h0, hlen, hl, h | h⟩
  · have e := s87_gone h1 (g.mono hs)
    rw [call_run F69]; simp -implicitDefEqProofs only [↓GP, GB, GL, Nat.reduceAdd, Nat.reduceSub, Nat.reduceEqDiff, Nat.reduceMul, Nat.reduceLeDiff, Int.reduceBNe, Int.reduceBEq, Nat.reduceLT, reduceCtorEq, c69, e]; exact q _ h1.tl
  · obtain ⟨rfl, hL⟩ := h
    have e := s87 h1 (hin.mono hs) h0
    rw [call_run F69]; simp -implicitDefEqProofs only [↓GP, GB, GL, Nat.reduceAdd, Nat.reduceSub, Nat.reduceEqDiff, Nat.reduceMul, Nat.reduceLeDiff, Int.reduceBNe, Int.reduceBEq, Nat.reduceLT, reduceCtorEq, c69, e, hL]; exact q _ h1.tl
  · obtain ⟨rfl, hL, hf⟩ := h
    have e := s87 h1 (hin.mono hs) h0
    rw [call_run F69]; simp -implicitDefEqProofs only [↓GP, GB, GL, Nat.reduceAdd, Nat.reduceSub, Nat.reduceEqDiff, Nat.reduceMul, Nat.reduceLeDiff, Int.reduceBNe, Int.reduceBEq, Nat.reduceLT, reduceCtorEq, c69, e, hL]
    refine wp_in (s103 h1 (hin.mono hs) hlen hl fun s1 h2 => ?_)
    rw [hf]
    simp -implicitDefEqProofs only [↓GP, GB, GL, Nat.reduceAdd, Nat.reduceSub, Nat.reduceEqDiff, Nat.reduceMul, Nat.reduceLeDiff, Int.reduceBNe, Int.reduceBEq, Nat.reduceLT, reduceCtorEq, Int.reduceNeg, Int.reduceLT]; exact q _ h2.tl
theorem s69 (hC : Holds o s C) {hr : RHeap} {p : Nat} {N L : Int} (hin : RIn C p hr) (h0 : hr.regs ≠ []) (hlen : hr.regs.length ≤ 100000) (hl : ∀ g ∈ hr.regs, g.objs.length ≤ 100000) (hL : ¬ L < 1) {a b : Nat} {g : RReg} {x : RObj} (hf : rfind N L hr.regs 0 = some (a, b)) (hg : hr.regs[a]? = some g) (hx : g.objs[b]? = some x)
    (q : ∀ s', Holds o s' C → Q (.tuple [I x.b.kind, I x.b.ws.length, I 0]) s') : WP (call PF 69 [ptrN hr.id, .agg [I N, I L]] s) Q := by
  have h1 := hC.alloc (.cells [I N, I L] none)
  have e := s87 h1 (hin.cons _) h0
  rw [call_run F69]; simp -implicitDefEqProofs only [↓GP, GB, GL, Nat.reduceAdd, Nat.reduceSub, Nat.reduceEqDiff, Nat.reduceMul, Nat.reduceLeDiff, Int.reduceBNe, Int.reduceBEq, Nat.reduceLT, reduceCtorEq, c69, e, hL]
  refine wp_in (s103 h1 (hin.cons _) hlen hl fun s1 h2 => ?_)
  rw [hf]
  have f := h2.mem (hin.cons _).id
  have fr := h2.mem (hin.cons _).row
  simp only [RHeap.hd] at f
  have mo := hin.ob (List.mem_of_getElem? hg)
  have hb := (List.getElem?_eq_some_iff.1 hx).1
  unfold RReg.obO at mo
  rw [rowO_pos (by omega)] at mo
  have fo := h2.mem (List.mem_cons_of_mem _ mo)
  have ha : ¬ ((a : Int) < 0) := by omega
  simp -implicitDefEqProofs only [↓GP, GB, GL, Nat.reduceAdd, Nat.reduceSub, Nat.reduceEqDiff, Nat.reduceMul, Nat.reduceLeDiff, Int.reduceBNe, Int.reduceBEq, Nat.reduceLT, reduceCtorEq, f, fr, fo, rreg hg, robj hx, ix_row hb, ha]
  exact q _ h2.tl
def RWordErr (C : Ch) (hv : V) (N L i err : Int) : Prop := RObjErr C hv N L err ∨
  (err = 2 ∧ ¬ L < 1 ∧ ∃ hr : RHeap, ∃ p a b g x, hv = ptrN hr.id ∧ RIn C p hr ∧ hr.regs ≠ [] ∧ hr.regs.length ≤ 100000 ∧ (∀ g ∈ hr.regs, g.objs.length ≤ 100000) ∧ rfind N L hr.regs 0 = some (a, b) ∧ hr.regs[a]? = some g ∧ g.objs[b]? = some x ∧ ¬ (0 ≤ i ∧ i < x.b.ws.length))
theorem s68_err (hC : Holds o s C) {hv : V} {N L i err : Int} (e : RWordErr C hv N L i err) (q : ∀ s', Holds o s' C → Q (.tuple [.agg [I 0, I 0], I err]) s') : WP (call PF 68 [hv, .agg [I N, I L], I i] s) Q := by
  have h1 := (hC.alloc (.cells [I N, I L] none)).alloc (.cells [I 0, I 0] none)
  have hs : ∀ x ∈ C, x ∈ (s.next + 1, some (.cells [I 0, I 0] none)) :: (s.next, some (.cells [I N, I L] none)) :: C := fun x hx => List.mem_cons_of_mem _ (List.mem_cons_of_mem _ hx)
  rcases e with e | ⟨rfl, hL, hr, p, a, b, g, x, rfl, hin, h0, hlen, hl, hf, hg, hx, hi⟩
  · rcases e with ⟨g, rfl⟩ | ⟨hr, p, rfl, hin, h0, hlen, hl, h | h⟩
    · have e := s87_gone h1 (g.mono hs)
      rw [call_run F68]; simp -implicitDefEqProofs only [↓GP, GB, GL, Nat.reduceAdd, Nat.reduceSub, Nat.reduceEqDiff, Nat.reduceMul, Nat.reduceLeDiff, Int.reduceBNe, Int.reduceBEq, Nat.reduceLT, reduceCtorEq, c68, e]; exact q _ (h1.set0 _).tl.tl
    · obtain ⟨rfl, hL⟩ := h
      have e := s87 h1 (hin.mono hs) h0
      rw [call_run F68]; simp -implicitDefEqProofs only [↓GP, GB, GL, Nat.reduceAdd, Nat.reduceSub, Nat.reduceEqDiff, Nat.reduceMul, Nat.reduceLeDiff, Int.reduceBNe, Int.reduceBEq, Nat.reduceLT, reduceCtorEq, c68, e, hL]; exact q _ (h1.set0 _).tl.tl
    · obtain ⟨rfl, hL, hf⟩ := h
      have e := s87 h1 (hin.mono hs) h0
      rw [call_run F68]; simp -implicitDefEqProofs only [↓GP, GB, GL, Nat.reduceAdd, Nat.reduceSub, Nat.reduceEqDiff, Nat.reduceMul, Nat.reduceLeDiff, Int.reduceBNe, Int.reduceBEq, Nat.reduceLT, reduceCtorEq, c68, e, hL]
      refine wp_in (s103 h1 (hin.mono hs) hlen hl fun s1 h2 => ?_)
      rw [hf]
      have f0 := h2.f1
      simp only [alloc_next] at f0
      simp -implicitDefEqProofs only [↓GP, GB, GL, Nat.reduceAdd, Nat.reduceSub, Nat.reduceEqDiff, Nat.reduceMul, Nat.reduceLeDiff, Int.reduceBNe, Int.reduceBEq, Nat.reduceLT, reduceCtorEq, f0, Int.reduceNeg, Int.reduceLT]; exact q _ (h2.set0 _).tl.tl
  · have e := s87 h1 (hin.mono hs) h0
    rw [call_run F68]; simp -implicitDefEqProofs only [↓GP, GB, GL, Nat.reduceAdd, Nat.reduceSub, Nat.reduceEqDiff, Nat.reduceMul, Nat.reduceLeDiff, Int.reduceBNe, Int.reduceBEq, Nat.reduceLT, reduceCtorEq, c68, e, hL]
    refine wp_in (s103 h1 (hin.mono hs) hlen hl fun s1 h2 => ?_)
    rw [hf]
    have f0 := h2.f1
    have f := h2.mem (hs _ hin.id)
    have fr := h2.mem (hs _ hin.row)
    simp only [alloc_next] at f0
    simp only [RHeap.hd] at f
    have mo := hin.ob (List.mem_of_getElem? hg)
    have hb := (List.getElem?_eq_some_iff.1 hx).1
    unfold RReg.obO at mo
    rw [rowO_pos (by omega)] at mo
    have fo := h2.mem (hs _ mo)
    have ha : ¬ ((a : Int) < 0) := by omega
    by_cases hi0 : i < 0
    · simp -implicitDefEqProofs only [↓GP, GB, GL, Nat.reduceAdd, Nat.reduceSub, Nat.reduceEqDiff, Nat.reduceMul, Nat.reduceLeDiff, Int.reduceBNe, Int.reduceBEq, Nat.reduceLT, reduceCtorEq, f0, hi0, ha]
      exact q _ (h2.set0 _).tl.tl
    · have hi1 : (i ≥ (x.b.ws.length : Int)) := by omega
      simp -implicitDefEqProofs only [↓GP, GB, GL, Nat.reduceAdd, Nat.reduceSub, Nat.reduceEqDiff, Nat.reduceMul, Nat.reduceLeDiff, Int.reduceBNe, Int.reduceBEq, Nat.reduceLT, reduceCtorEq, f0, f, fr, fo, rreg hg, robj hx, ix_row hb, hi0, hi1, ha]
      exact q _ (h2.set0 _).tl.tl
theorem s68 (hC : Holds o s C) {hr : RHeap} {p i : Nat} {N L : Int} (hin : RIn C p hr) (h0 : hr.regs ≠ []) (hlen : hr.regs.length ≤ 100000) (hl : ∀ g ∈ hr.regs, g.objs.length ≤ 100000) (hL : ¬ L < 1) {a b : Nat} {g : RReg} {x : RObj} (hf : rfind N L hr.regs 0 = some (a, b)) (hg : hr.regs[a]? = some g) (hx : g.objs[b]? = some x) {w : Int × Int} (hw : x.b.ws[i]? = some w)
    (q : ∀ s', Holds o s' C → Q (.tuple [.agg (encW w), I 0]) s') : WP (call PF 68 [ptrN hr.id, .agg [I N, I L], I i] s) Q := by
  have h1 := (hC.alloc (.cells [I N, I L] none)).alloc (.cells [I 0, I 0] none)
  have hs : ∀ x ∈ C, x ∈ (s.next + 1, some (.cells [I 0, I 0] none)) :: (s.next, some (.cells [I N, I L] none)) :: C := fun x hx => List.mem_cons_of_mem _ (List.mem_cons_of_mem _ hx)
  have e := s87 h1 (hin.mono hs) h0
  rw [call_run F68]; simp -implicitDefEqProofs only [↓GP, GB, GL, Nat.reduceAdd, Nat.reduceSub, Nat.reduceEqDiff, Nat.reduceMul, Nat.reduceLeDiff, Int.reduceBNe, Int.reduceBEq, Nat.reduceLT, reduceCtorEq, c68, e, hL]
  refine wp_in (s103 h1 (hin.mono hs) hlen hl fun s1 h2 => ?_)
  rw [hf]
  have f0 := h2.f1
  have f := h2.mem (hs _ hin.id)
  have fr := h2.mem (hs _ hin.row)
  simp only [alloc_next] at f0
  simp only [RHeap.hd] at f
  have mg := List.mem_of_getElem? hg
  have mo := hin.ob mg
  have hb := (List.getElem?_eq_some_iff.1 hx).1
  unfold RReg.obO at mo
  rw [rowO_pos (by omega)] at mo
  have fo := h2.mem (hs _ mo)
  have fw := h2.mem (hs _ (hin.w mg (List.mem_of_getElem? hx)))
  have hi := (List.getElem?_eq_some_iff.1 hw).1
  have ha : ¬ ((a : Int) < 0) := by omega
  have hi0 : ¬ ((i : Int) < 0) := by omega
  have hi1 : ¬ ((i : Int) ≥ (x.b.ws.length : Int)) := by omega
  have hld := ldN_tab encW_len x.b.ws (cG x.gr 2) hw
  simp -implicitDefEqProofs only [↓GP, GB, GL, Nat.reduceAdd, Nat.reduceSub, Nat.reduceEqDiff, Nat.reduceMul, Nat.reduceLeDiff, Int.reduceBNe, Int.reduceBEq, Nat.reduceLT, reduceCtorEq, f0, f, fr, fo, fw, rreg hg, robj hx, ix_row hb, ix_cV hi, hld, encW, hi0, hi1, ha]
  exact q _ (h2.set0 _).tl.tl
end
end Go.Proofs.Ytoldkemimhebaaa

set_option linter.unusedSimpArgs false
set_option linter.unusedVariables false
namespace Go.Proofs.Ytoldkemimhebaaa
open Go Go.IM
def l119_0 : IC := (.seq (.seq (.seq (.region [oa 16 (.mov (.t 7)), oa 17 (.mov (.t 0)), oa 18 (.nilCheck (.t 17)), oa 19 (.fieldAddr 4 (.t 18)), oa 20 (.load none (.t 19)), oa 21 (.lenSlice (.t 20)), oa 22 (.bin .lss (.t 16) (.t 21)), oa 23 (.mov (.t 22)), oc 24 (.mov (.t 0)) 23 tt, oc 25 (.nilCheck (.t 24)) 23 tt, oc 26 (.fieldAddr 4 (.t 25)) 23 tt, oc 27 (.load none (.t 26)) 23 tt, oc 28 (.mov (.t 7)) 23 tt, oc 29 (.indexAddr 1 (.t 27) (.t 28)) 23 tt, oc 30 (.load none (.t 29)) 23 tt, oc 31 (.nilCheck (.t 30)) 23 tt, oc 32 (.fieldAddr 0 (.t 31)) 23 tt, oc 33 (.load none (.t 32)) 23 tt, oc 34 (.fieldAddr 0 (.t 9)) 23 tt, oc 35 (.load none (.t 34)) 23 tt, oc 36 (.bin .neq (.t 33) (.t 35)) 23 tt, oa 37 (.pick (.t 23) (.t 36) (.c (.bool false)))] (kp 70 [0,6,7,9,10,11,12,37]))
  (.cond (.t 37)
  (sk 70 [0,6,7,9,10,11,12])
  (sx 70 [0,6,7,9,10,11,12] 2)))
  (.block 3
  (.region [oa 38 (.mov (.t 7)), oa 39 (.bin .add (.t 38) (ai 1)), oa 7 (.mov (.t 39))] (kp 70 [0,6,7,9,10,11,12]))))
  (sk 70 [0,6,7,9,10,11,12]))
def l119_1 : IC := (.seq (.seq (.region [oa 13 (.bin .lss (.t 12) (.t 11))] (kp 70 [0,6,7,10,11,12,13]))
  (.seq (.cond (.t 13)
  (sk 70 [0,6,7,10,11,12])
  (sx 70 [6] 0))
  (.seq (.block 1
  (.seq (.region [oa 14 (.indexAddr 2 (.t 10) (.t 12)), oa 15 (.load (some 2) (.t 14)), oa 9 (.alloc [(.int .i64 (0)), (.int .i64 (0))]), ob (.store 2 (.t 9) (.t 15))] (kp 70 [0,6,7,9,10,11,12]))
  (.seq (.block 2
  (.seq (sk 70 [0,6,7,9,10,11,12])
  (.loop l119_0)))
  (.seq (.seq (.region [oa 40 (.mov (.t 7)), oa 41 (.mov (.t 0)), oa 42 (.nilCheck (.t 41)), oa 43 (.fieldAddr 4 (.t 42)), oa 44 (.load none (.t 43)), oa 45 (.lenSlice (.t 44)), oa 46 (.bin .eql (.t 40) (.t 45)), oa 47 (.mov (.t 46)), oc 48 (.fieldAddr 1 (.t 9)) 47 ff, oc 49 (.load none (.t 48)) 47 ff, oc 50 (.mov (.t 0)) 47 ff, oc 51 (.nilCheck (.t 50)) 47 ff, oc 52 (.fieldAddr 0 (.t 51)) 47 ff, oc 53 (.load none (.t 52)) 47 ff, oc 54 (.bin .neq (.t 49) (.t 53)) 47 ff, oa 55 (.pick (.t 47) (.c (.bool true)) (.t 54))] (kp 70 [0,6,7,10,11,12,55]))
  (.cond (.t 55)
  (.seq (.region [oa 4 (.mov (.c (.slice none 0 (some 0)))), oa 5 (.mov (.c (.bool false)))] (kp 70 [4,5]))
  (sr 70 [4,5]))
  (sk 70 [0,6,7,10,11,12])))
  (.seq (.region [oa 56 (.mov (.t 6)), oa 57 (.mov (.t 0)), oa 58 (.nilCheck (.t 57)), oa 59 (.fieldAddr 4 (.t 58)), oa 60 (.load none (.t 59)), oa 61 (.mov (.t 7)), oa 62 (.indexAddr 1 (.t 60) (.t 61)), oa 63 (.load none (.t 62)), oa 64 (.buildSlice 1 [(.ptr none)] [(0, 1, (.t 63))]), oa 65 (.append 1 8 (.t 56) (.t 64)), oa 6 (.mov (.t 65))] (kp 70 [0,6,7,10,11,12]))
  (.region [oa 66 (.mov (.t 7)), oa 67 (.bin .add (.t 66) (ai 1)), oa 7 (.mov (.t 67))] (kp 70 [0,6,7,10,11,12])))))))
  (.region [oa 68 (.bin .add (.t 12) (ai 1)), oa 12 (.mov (.t 68))] (kp 70 [0,6,7,10,11,12])))))
  (sk 70 [0,6,7,10,11,12]))
def c119 : IFn := ⟨70, [(4, none), (5, none)],
  (.seq (.region [oa 4 (.mov (.c (.slice none 0 (some 0)))), oa 5 (.mov (.c (.bool false)))] (kp 70 [0,1]))
  (.seq (.region [oa 6 (.mov (.c (.slice none 0 (some 0))))] (kp 70 [0,1,6]))
  (.seq (.region [oa 7 (.mov (ai 0))] (kp 70 [0,1,6,7]))
  (.seq (.seq (.region [oa 10 (.mov (.t 1)), oa 11 (.lenSlice (.t 10)), oa 12 (.mov (ai 0))] (kp 70 [0,6,7,10,11,12]))
  (.block 0
  (.seq (sk 70 [0,6,7,10,11,12])
  (.loop l119_1))))
  (.seq (.region [oa 69 (.mov (.t 6)), oa 4 (.mov (.t 69)), oa 5 (.mov (.c (.bool true)))] (kp 70 [4,5]))
  (sr 70 [4,5]))))))⟩
theorem F119 : shutF Try.prog 119 = some c119 := by kernel_rfl
def l109_0 : IC := (.seq (.seq (.region [oa 44 (.bin .lss (.t 43) (.t 42))] (kp 55 [0,8,10,41,42,43,44]))
  (.seq (.cond (.t 44)
  (sk 55 [0,8,10,41,42,43])
  (sx 55 [8,10] 0))
  (.seq (.block 1
  (.seq (.region [oa 45 (.indexAddr 1 (.t 41) (.t 43)), oa 46 (.load none (.t 45)), oa 13 (.mov (.t 46))] (kp 55 [0,8,10,13,41,42,43]))
  (.region [oa 47 (.mov (.t 0)), oa 48 (.mov (.t 8)), oa 49 (.mov (.t 13)), oa 50 (.call 77 [(.t 47), (.t 48), (.t 49)])] (kp 55 [0,8,10,41,42,43]))))
  (.region [oa 51 (.bin .add (.t 43) (ai 1)), oa 43 (.mov (.t 51))] (kp 55 [0,8,10,41,42,43])))))
  (sk 55 [0,8,10,41,42,43]))
def c109 : IFn := ⟨55, [(6, none), (7, none)],
  (.seq (.region [oa 6 (.mov (.c (.slice none 0 (some 0)))), oa 7 (.mov (ai 0))] (kp 55 [0,1,2]))
  (.seq (.region [oa 15 (.mov (.t 0)), oa 16 (.mov (.t 1)), oa 17 (.call 72 [(.t 15), (.t 16)]), oa 14 (.mov (.t 17)), oa 18 (.extract (.t 14) 0), oa 19 (.extract (.t 14) 1), oa 8 (.mov (.t 18)), oa 9 (.mov (.t 19))] (kp 55 [0,2,8,9]))
  (.seq (.seq (.region [oa 20 (.mov (.t 9)), oa 21 (.bin .neq (.t 20) (ai 0))] (kp 55 [0,2,8,9,21]))
  (.cond (.t 21)
  (.seq (.region [oa 22 (.mov (.t 9)), oa 6 (.mov (.c (.slice none 0 (some 0)))), oa 7 (.mov (.t 22))] (kp 55 [6,7]))
  (sr 55 [6,7]))
  (sk 55 [0,2,8])))
  (.seq (.region [oa 24 (.mov (.t 8)), oa 25 (.mov (.t 2)), oa 26 (.call 119 [(.t 24), (.t 25)]), oa 23 (.mov (.t 26)), oa 27 (.extract (.t 23) 0), oa 28 (.extract (.t 23) 1), oa 10 (.mov (.t 27)), oa 11 (.mov (.t 28))] (kp 55 [0,8,10,11]))
  (.seq (.seq (.region [oa 29 (.mov (.t 8)), oa 30 (.nilCheck (.t 29)), oa 31 (.fieldAddr 1 (.t 30)), oa 32 (.load none (.t 31)), oa 33 (.bin .gtr (.t 32) (ai 0)), oa 34 (.mov (.t 33)), oc 35 (.mov (.t 11)) 34 ff, oc 36 (.un .not (.t 35)) 34 ff, oa 37 (.pick (.t 34) (.c (.bool true)) (.t 36))] (kp 55 [0,8,10,37]))
  (.cond (.t 37)
  (.seq (.region [oa 6 (.mov (.c (.slice none 0 (some 0)))), oa 7 (.mov (ai 2))] (kp 55 [6,7]))
  (sr 55 [6,7]))
  (sk 55 [0,8,10])))
  (.seq (.region [oa 38 (.mov (.t 0)), oa 39 (.mov (.t 8)), oa 40 (.call 76 [(.t 38), (.t 39)])] (kp 55 [0,8,10]))
  (.seq (.seq (.region [oa 41 (.mov (.t 10)), oa 42 (.lenSlice (.t 41)), oa 43 (.mov (ai 0))] (kp 55 [0,8,10,41,42,43]))
  (.block 0
  (.seq (sk 55 [0,8,10,41,42,43])
  (.loop l109_0))))
  (.seq (.region [oa 52 (.mov (.t 8)), oa 53 (.mov (.t 10)), oa 54 (.call 73 [(.t 52), (.t 53)]), oa 6 (.mov (.t 54)), oa 7 (.mov (ai 0))] (kp 55 [6,7]))
  (sr 55 [6,7])))))))))⟩
theorem F109 : shutF Try.prog 109 = some c109 := by kernel_rfl
section
variable {o : Nat → Option O} {s : St} {C F : Ch} {Q : V → St → Prop}
set_option maxRecDepth 10000
theorem pick_inner {t gid obk : Nat} {N L : Int} {l : List PObj} {c0 c1 c2 c3 c5 v6 v10 v11 v12 : V} {K : Kt} (hC : Holds o s C) (mt : (t, some (.cells [I N, I L] none)) ∈ C) (mg : (gid, some (.cells [c0, c1, c2, c3, rowV obk l.length, c5] none)) ∈ C)
    (mo : (obk, PReg.obO l) ∈ C) (mx : ∀ x ∈ l, (x.id, some x.O) ∈ C) (hl : l.length ≤ 100000) :
    ∀ (m a : Nat), a + m = l.length →
    loop PF (.loop l119_0) (sp 70 [(0, ptrN gid), (6, v6), (7, I a), (9, ptrN t), (10, v10), (11, v11), (12, v12)]) s K =
      K (.exit 2) (sp 70 [(0, ptrN gid), (6, v6), (7, I (a + (l.drop a).findIdx (fun x => decide ((x.b.at_ : Int) = N)) : Nat)), (9, ptrN t), (10, v10), (11, v11), (12, v12)]) s
  | 0, a, ha => by
    have hlt : ¬ ((a : Int) < (l.length : Int)) := by omega
    have fg := hC.mem mg
    refine round fun LL hLL => ?_
    simp -implicitDefEqProofs only [↓GP, GB, GL, Nat.reduceAdd, Nat.reduceSub, Nat.reduceEqDiff, Nat.reduceMul, Nat.reduceLeDiff, Int.reduceBNe, Int.reduceBEq, Nat.reduceLT, reduceCtorEq, l119_0, hlt, fg]
    rw [List.drop_eq_nil_of_le (by omega)]
    rfl
  | m + 1, a, ha => by
    have hlt : ((a : Int) < (l.length : Int)) := by omega
    have ha' : a < l.length := by omega
    have hd : l.drop a = l[a] :: l.drop (a + 1) := List.drop_eq_getElem_cons ha'
    have fg := hC.mem mg
    have ft := hC.mem mt
    have mo' := mo
    unfold PReg.obO at mo'
    rw [rowO_pos (by omega)] at mo'
    have fo := hC.mem mo'
    have fx := hC.mem (mx l[a] (List.getElem_mem ha'))
    simp only [PObj.O] at fx
    have hg : (l.map fun x => ptrN x.id)[a]? = some (ptrN l[a].id) := by simp [ha']
    have hw := wrap_add1 (a := a) (by omega)
    refine round fun LL hLL => ?_
    rw [hd, List.findIdx_cons]
    by_cases he : (l[a].b.at_ : Int) = N
    · have hb : ((l[a].b.at_ : Int) != N) = false := by simpa using he
      simp -implicitDefEqProofs only [↓GP, GB, GL, Nat.reduceAdd, Nat.reduceSub, Nat.reduceEqDiff, Nat.reduceMul, Nat.reduceLeDiff, Int.reduceBNe, Int.reduceBEq, Nat.reduceLT, reduceCtorEq, l119_0, hlt, ix_row ha', fg, fo, fx, ft, hg, hb, he, cond_true]
    · have hb : ((l[a].b.at_ : Int) != N) = true := by simpa using he
      simp -implicitDefEqProofs only [↓GP, GB, GL, Nat.reduceAdd, Nat.reduceSub, Nat.reduceEqDiff, Nat.reduceMul, Nat.reduceLeDiff, Int.reduceBNe, Int.reduceBEq, Nat.reduceLT, reduceCtorEq, l119_0, hlt, ix_row ha', fg, fo, fx, ft, hg, hb, hw]
      rw [hLL, pick_inner hC mt mg mo mx hl m (a + 1) (by omega)]
      simp only [he, decide_false, cond_false]
      rw [show a + 1 + List.findIdx (fun x => decide ((x.b.at_ : Int) = N)) (List.drop (a + 1) l) = a + (List.findIdx (fun x => decide ((x.b.at_ : Int) = N)) (List.drop (a + 1) l) + 1) by omega]
def pickM (life : Nat) : List PObj → List (Int × Int) → Option (List PObj)
  | _, [] => some []
  | os, w :: l =>
    match os.drop (os.findIdx fun x => decide ((x.b.at_ : Int) = w.1)) with
    | [] => none
    | x :: rest => if w.2 = life then (pickM life rest l).map (x :: ·) else none
theorem pick_loop {gid obk wk life : Nat} {l : List PObj} {ws : List (Int × Int)} {c1 c2 c3 c5 : V} {K : Kt} (mg : (gid, some (.cells [I life, c1, c2, c3, rowV obk l.length, c5] none)) ∈ C)
    (mo : (obk, PReg.obO l) ∈ C) (mx : ∀ x ∈ l, (x.id, some x.O) ∈ C) (mw : (wk, rowO 2 ws.length (ws.flatMap encW)) ∈ C) (hl : l.length ≤ 100000) (hwl : ws.length ≤ 100000) :
    ∀ (m i a k : Nat) (acc : List PObj) (s : St), i + m = ws.length → a ≤ l.length → acc.length = i → Holds o s ((k, rowO 1 acc.length (acc.map fun x => ptrN x.id)) :: C) →
    (∀ s', pickM life (l.drop a) (ws.drop i) = none → Holds o s' C → WP (K .ret (sp 70 [(4, .slice none 0 (some 0)), (5, .bool false)]) s') Q) →
    (∀ s' k' xs, pickM life (l.drop a) (ws.drop i) = some xs → Holds o s' ((k', rowO 1 (acc ++ xs).length ((acc ++ xs).map fun x => ptrN x.id)) :: C) → WP (K (.exit 0) (sp 70 [(6, rowV k' (acc ++ xs).length)]) s') Q) →
    WP (loop PF (.loop l119_1) (sp 70 [(0, ptrN gid), (6, rowV k acc.length), (7, I a), (10, rowV wk ws.length), (11, I ws.length), (12, I i)]) s K) Q
  | 0, i, a, k, acc, s, hi, ha, hacc, H, qn, qs => by
    have hlt : ¬ ((i : Int) < (ws.length : Int)) := by omega
    refine wp_round fun LL hLL => ?_
    simp -implicitDefEqProofs only [↓GP, GB, GL, Nat.reduceAdd, Nat.reduceSub, Nat.reduceEqDiff, Nat.reduceMul, Nat.reduceLeDiff, Int.reduceBNe, Int.reduceBEq, Nat.reduceLT, reduceCtorEq, l119_1, hlt]
    have := qs s k [] (by rw [List.drop_eq_nil_of_le (show ws.length ≤ i by omega)]; rfl) (by simpa using H)
    rw [List.append_nil] at this
    exact this
  | m + 1, i, a, k, acc, s, hi, ha, hacc, H, qn, qs => by
    have hlt : ((i : Int) < (ws.length : Int)) := by omega
    have hi' : i < ws.length := by omega
    have mw' := mw
    rw [rowO_pos (by omega)] at mw'
    have fw := H.mem (List.mem_cons_of_mem _ mw')
    have hld := ldN_tab encW_len ws (some 2) (show ws[i]? = some ws[i] by simp [hi'])
    have hd : ws.drop i = ws[i] :: ws.drop (i + 1) := List.drop_eq_getElem_cons hi'
    rw [hd] at qn qs
    simp only [pickM] at qn qs
    refine wp_round fun LL hLL => ?_
    simp -implicitDefEqProofs only [↓GP, GB, GL, Nat.reduceAdd, Nat.reduceSub, Nat.reduceEqDiff, Nat.reduceMul, Nat.reduceLeDiff, Int.reduceBNe, Int.reduceBEq, Nat.reduceLT, reduceCtorEq, l119_1, hlt, ix_row hi', fw, hld, encW]
    have h1 := (H.alloc (.cells [I 0, I 0] none)).set0 (.cells [I ws[i].1, I ws[i].2] none)
    have hs : ∀ x ∈ C, x ∈ (s.next, some (.cells [I ws[i].1, I ws[i].2] none)) :: (k, rowO 1 acc.length (acc.map fun x => ptrN x.id)) :: C := fun x hx => List.mem_cons_of_mem _ (List.mem_cons_of_mem _ hx)
    rw [pick_inner h1 (List.mem_cons_self ..) (hs _ mg) (hs _ mo) (fun x hx => hs _ (mx x hx)) hl (l.length - a) a (by omega)]
    generalize (s.alloc (O.cells [I 0, I 0] none)).set s.next (.cells [I ws[i].1, I ws[i].2] none) = S at h1 ⊢
    have hj : ∀ j, j = a + (l.drop a).findIdx (fun x => decide ((x.b.at_ : Int) = ws[i].1)) → j ≤ l.length := fun j hj => by
      have := List.findIdx_le_length (xs := l.drop a) (p := fun x => decide ((x.b.at_ : Int) = ws[i].1)); simp at this; omega
    rw [List.drop_drop] at qn qs
    generalize hje : a + (l.drop a).findIdx (fun x => decide ((x.b.at_ : Int) = ws[i].1)) = j at qn qs ⊢
    have hj' := hj j hje.symm
    have fg := h1.mem (hs _ mg)
    have ft := h1.f1
    by_cases hje2 : j = l.length
    · have hb : ((j : Int) == (l.length : Int)) = true := by simp; omega
      rw [List.drop_eq_nil_of_le (by omega)] at qn
      simp -implicitDefEqProofs only [↓GP, GB, GL, Nat.reduceAdd, Nat.reduceSub, Nat.reduceEqDiff, Nat.reduceMul, Nat.reduceLeDiff, Int.reduceBNe, Int.reduceBEq, Nat.reduceLT, reduceCtorEq, fg, ft, hb]
      exact qn _ rfl h1.tl.tl
    · have hjl : j < l.length := by omega
      have hb : ((j : Int) == (l.length : Int)) = false := by rw [beq_eq_false_iff_ne]; omega
      have hdj : l.drop j = l[j] :: l.drop (j + 1) := List.drop_eq_getElem_cons hjl
      rw [hdj] at qn qs
      simp only at qn qs
      by_cases hL : ws[i].2 = (life : Int)
      · rw [if_pos hL] at qn qs
        have hb2 : (ws[i].2 != (life : Int)) = false := by simpa using hL
        have mo' := mo
        unfold PReg.obO at mo'
        rw [rowO_pos (by omega)] at mo'
        have fo := h1.mem (hs _ mo')
        have hg : (l.map fun x => ptrN x.id)[j]? = some (ptrN l[j].id) := by simp [hjl]
        simp -implicitDefEqProofs only [↓GP, GB, GL, Nat.reduceAdd, Nat.reduceSub, Nat.reduceEqDiff, Nat.reduceMul, Nat.reduceLeDiff, Int.reduceBNe, Int.reduceBEq, Nat.reduceLT, reduceCtorEq, fg, ft, hb, hb2, fo, hg, ix_row hjl]
        refine wp_append (cs := acc.map fun x => ptrN x.id) ((h1.tl.alloc _).r1) (by simp) (new_cells' (alloc_new_same _ _) rfl) rfl rfl (by omega) (by unfold maxRow; omega) (by unfold maxRow; omega) fun k' s1 h2 => ?_
        have w1 := wrap_add1 (a := i) (by omega)
        have w2 := wrap_add1 (a := j) (by omega)
        simp -implicitDefEqProofs only [↓GP, GB, GL, Nat.reduceAdd, Nat.reduceSub, Nat.reduceEqDiff, Nat.reduceMul, Nat.reduceLeDiff, Int.reduceBNe, Int.reduceBEq, Nat.reduceLT, reduceCtorEq, w1, w2]
        rw [hLL]
        have hl1 : (acc ++ [l[j]]).length = acc.length + 1 := by simp
        have := pick_loop (K := K) mg mo mx mw hl hwl m (i + 1) (j + 1) k' (acc ++ [l[j]]) s1 (by omega) (by omega) (by simp; omega) (by simpa using h2.r1.tl) (fun s' hn h' => qn s' (by rw [hn]; rfl) h')
          (fun s' k' xs hx h' => by
            have := qs s' k' (l[j] :: xs) (by rw [hx]; rfl) (by simpa using h')
            simpa using this)
        rw [hl1] at this
        exact this
      · rw [if_neg hL] at qn
        have hb2 : (ws[i].2 != (life : Int)) = true := by simpa using hL
        simp -implicitDefEqProofs only [↓GP, GB, GL, Nat.reduceAdd, Nat.reduceSub, Nat.reduceEqDiff, Nat.reduceMul, Nat.reduceLeDiff, Int.reduceBNe, Int.reduceBEq, Nat.reduceLT, reduceCtorEq, fg, ft, hb, hb2]
        exact qn _ rfl h1.tl.tl
theorem s119 (hC : Holds o s C) {gid obk wk life : Nat} {l : List PObj} {ws : List (Int × Int)} {c1 c2 c3 c5 : V} (mg : (gid, some (.cells [I life, c1, c2, c3, rowV obk l.length, c5] none)) ∈ C)
    (mo : (obk, PReg.obO l) ∈ C) (mx : ∀ x ∈ l, (x.id, some x.O) ∈ C) (mw : (wk, rowO 2 ws.length (ws.flatMap encW)) ∈ C) (hl : l.length ≤ 100000) (hwl : ws.length ≤ 100000)
    (qn : pickM life l ws = none → ∀ s', Holds o s' C → Q (.tuple [.slice none 0 (some 0), .bool false]) s')
    (qs : ∀ xs, pickM life l ws = some xs → ∀ s' k, Holds o s' ((k, rowO 1 xs.length (xs.map fun x => ptrN x.id)) :: C) → Q (.tuple [rowV k xs.length, .bool true]) s') : WP (call PF 119 [ptrN gid, rowV wk ws.length] s) Q := by
  rw [call_run F119]; simp -implicitDefEqProofs only [↓GP, GB, GL, Nat.reduceAdd, Nat.reduceSub, Nat.reduceEqDiff, Nat.reduceMul, Nat.reduceLeDiff, Int.reduceBNe, Int.reduceBEq, Nat.reduceLT, reduceCtorEq, c119]
  refine pick_loop (life := life) mg mo mx mw hl hwl ws.length 0 0 0 [] s (by omega) (by omega) rfl (hC.nilEntry 0) (fun s1 hn h1 => ?_) fun s1 k xs hx h1 => ?_
  · simp -implicitDefEqProofs only [↓GP, GB, GL, Nat.reduceAdd, Nat.reduceSub, Nat.reduceEqDiff, Nat.reduceMul, Nat.reduceLeDiff, Int.reduceBNe, Int.reduceBEq, Nat.reduceLT, reduceCtorEq]
    exact qn hn s1 h1
  · simp -implicitDefEqProofs only [↓GP, GB, GL, Nat.reduceAdd, Nat.reduceSub, Nat.reduceEqDiff, Nat.reduceMul, Nat.reduceLeDiff, Int.reduceBNe, Int.reduceBEq, Nat.reduceLT, reduceCtorEq]
    exact qs xs hx s1 k h1
def layM (size life : Nat) : List Nat → List Bool → Nat → List Nat → Option (List Nat × List Bool × Nat × List Nat)
  | [], u, fill, pages => some ([], u, fill, pages)
  | n :: ns, u, fill, pages => (putM u size life fill pages n).bind fun p => (layM size life ns p.2.1 p.2.2.1 p.2.2.2).map fun q => (p.1 :: q.1, q.2)
def relay (xs : List PObj) (ats : List Nat) : List PObj := List.zipWith PObj.at xs ats
theorem relay_id : ∀ (xs : List PObj) (ats : List Nat), ats.length = xs.length → (relay xs ats).map (fun x => ptrN x.id) = xs.map fun x => ptrN x.id
  | [], _, _ => rfl
  | x :: xs, [], h => by simp at h
  | x :: xs, a :: ats, h => by simp only [relay, List.zipWith_cons_cons, List.map_cons]; rw [show (x.at a).id = x.id from rfl]; congr 1; exact relay_id xs ats (by simpa using h)
theorem layM_len {size life : Nat} : ∀ {ns : List Nat} {u : List Bool} {fill : Nat} {pages : List Nat} {r : List Nat × List Bool × Nat × List Nat}, layM size life ns u fill pages = some r → r.1.length = ns.length
  | [], _, _, _, _, h => by cases h; rfl
  | n :: ns, u, fill, pages, r, h => by
    simp only [layM, Option.bind_eq_some_iff, Option.map_eq_some_iff] at h
    obtain ⟨p, _, q, h2, rfl⟩ := h
    simp [layM_len h2]
theorem putM_len {u : List Bool} {size life fill need : Nat} {pages : List Nat} {at_ fill' : Nat} {u' : List Bool} {pages' : List Nat} (h : putM u size life fill pages need = some (at_, u', fill', pages')) : u'.length = u.length := by
  unfold putM at h
  split at h
  · cases h; rfl
  · split at h
    · split at h
      · cases h; rfl
      · simp only [Option.map_eq_some_iff] at h; obtain ⟨n, _, e⟩ := h; cases e; simp
    · simp only [Option.map_eq_some_iff] at h; obtain ⟨n, _, e⟩ := h; cases e; simp
theorem takeP_lt {u : List Bool} {n : Nat} (h : takeP u = some n) : n < u.length := (List.findIdx?_eq_some_iff_getElem.1 h).1
theorem putM_pages {u : List Bool} {size life fill need : Nat} {pages : List Nat} {at_ fill' : Nat} {u' : List Bool} {pages' : List Nat} (h : putM u size life fill pages need = some (at_, u', fill', pages')) : pages' = pages ∨ ∃ n, takeP u = some n ∧ pages' = pages ++ [n] := by
  unfold putM at h
  split at h
  · cases h; exact .inl rfl
  · split at h
    · split at h
      · cases h; exact .inl rfl
      · simp only [Option.map_eq_some_iff] at h; obtain ⟨n, hn, e⟩ := h; cases e; exact .inr ⟨n, hn, rfl⟩
    · simp only [Option.map_eq_some_iff] at h; obtain ⟨n, hn, e⟩ := h; cases e; exact .inr ⟨n, hn, rfl⟩
theorem putM_fill {u : List Bool} {size life fill need : Nat} {pages : List Nat} {at_ fill' : Nat} {u' : List Bool} {pages' : List Nat} (h : putM u size life fill pages need = some (at_, u', fill', pages')) (hf : fill ≤ 32) (hn : need ≤ 32) : fill' ≤ 32 := by
  unfold putM at h
  split at h
  · cases h; exact hf
  · split at h
    · split at h
      · cases h; assumption
      · simp only [Option.map_eq_some_iff] at h; obtain ⟨n, _, e⟩ := h; cases e; exact hn
    · simp only [Option.map_eq_some_iff] at h; obtain ⟨n, _, e⟩ := h; cases e; exact hn
theorem putM_b {u : List Bool} {size life fill need : Nat} {pages : List Nat} {at_ fill' : Nat} {u' : List Bool} {pages' : List Nat} (h : putM u size life fill pages need = some (at_, u', fill', pages')) (hb : RegB u.length size life fill pages) (hn : need ≤ 32) (hl : pages'.length ≤ 400) : RegB u'.length size life fill' pages' := by
  refine ⟨hb.size, hb.life, putM_fill h hb.fill hn, ?_, hl⟩
  rw [putM_len h]
  rcases putM_pages h with e | ⟨n, h1, e⟩
  · rw [e]; exact hb.pages
  · rw [e]
    intro p hp
    rcases List.mem_append.1 hp with hp | hp
    · exact hb.pages p hp
    · simp at hp; subst hp; exact takeP_lt h1
theorem layM_pages {size life : Nat} : ∀ {ns : List Nat} {u : List Bool} {fill : Nat} {pages : List Nat} {r : List Nat × List Bool × Nat × List Nat}, layM size life ns u fill pages = some r → pages.length ≤ r.2.2.2.length ∧ r.2.1.length = u.length
  | [], _, _, _, _, h => by cases h; exact ⟨Nat.le_refl _, rfl⟩
  | n :: ns, u, fill, pages, r, h => by
    simp only [layM, Option.bind_eq_some_iff, Option.map_eq_some_iff] at h
    obtain ⟨p, h1, q, h2, rfl⟩ := h
    obtain ⟨at_, u', fill', pages'⟩ := p
    obtain ⟨k1, k2⟩ := layM_pages h2
    refine ⟨?_, k2.trans (putM_len h1)⟩
    simp only at k1 ⊢
    rcases putM_pages h1 with e | ⟨n, _, e⟩
    · rw [e] at k1; exact k1
    · rw [e] at k1; simp at k1; omega
theorem turn_loop {h p r kk : Nat} {xs : List PObj} {c d : V} {K : Kt} {gid : Nat} (hxl : xs.length ≤ 10000) (mh : (h, some (.cells [ptrN p, c, d] none)) ∈ C) (mk : (kk, rowO 1 xs.length (xs.map fun x => ptrN x.id)) ∈ C) (hw : ∀ x ∈ xs, x.b.ws.length ≤ 31) :
    ∀ (m j : Nat) (s : St) (u : List Bool) (g : PReg) (ats : List Nat) (u' : List Bool) (fill' : Nat) (pages' : List Nat), g.id = gid → j + m = xs.length → u.length ≤ 400 → g.ok → RegB u.length g.size g.life g.fill g.pages → pages'.length ≤ 400 → g.objs.length + m ≤ 10000 →
    layM g.size g.life ((xs.drop j).map fun x => x.b.ws.length + 1) u g.fill g.pages = some (ats, u', fill', pages') → (g.objs.map (fun x => x.b.at_) ++ ats).Nodup →
    Holds o s (poolC p r u ++ (g.ch ++ ((xs.drop j).flatMap PObj.ch ++ C))) →
    (∀ s' pgk obk pl, PReg.ok { g with pgk := pgk, obk := obk, pl := pl, fill := fill', pages := pages', objs := g.objs ++ relay (xs.drop j) ats } →
      Holds o s' (poolC p r u' ++ (PReg.ch { g with pgk := pgk, obk := obk, pl := pl, fill := fill', pages := pages', objs := g.objs ++ relay (xs.drop j) ats } ++ C)) → WP (K (.exit 0) (sp 55 [(8, ptrN gid), (10, rowV kk xs.length)]) s') Q) →
    WP (loop PF (.loop l109_0) (sp 55 [(0, ptrN h), (8, ptrN gid), (10, rowV kk xs.length), (41, rowV kk xs.length), (42, I xs.length), (43, I j)]) s K) Q
  | 0, j, s, u, g, ats, u', fill', pages', hid, hj, hu, hok, hb, hpl, hol, hlay, hnd, H, q => by
    have hlt : ¬ ((j : Int) < (xs.length : Int)) := by omega
    refine wp_round fun LL hLL => ?_
    simp -implicitDefEqProofs only [↓GP, GB, GL, Nat.reduceAdd, Nat.reduceSub, Nat.reduceEqDiff, Nat.reduceMul, Nat.reduceLeDiff, Int.reduceBNe, Int.reduceBEq, Nat.reduceLT, reduceCtorEq, l109_0, hlt]
    have hd : xs.drop j = [] := List.drop_eq_nil_of_le (by omega)
    rw [hd] at hlay H q
    cases hlay
    exact q s g.pgk g.obk g.pl (by simpa [relay] using hok) (by simpa [relay] using H)
  | m + 1, j, s, u, g, ats, u', fill', pages', hid, hj, hu, hok, hb, hpl, hol, hlay, hnd, H, q => by
    have hlt : ((j : Int) < (xs.length : Int)) := by omega
    have hj' : j < xs.length := by omega
    have hd : xs.drop j = xs[j] :: xs.drop (j + 1) := List.drop_eq_getElem_cons hj'
    have mk' := mk
    rw [rowO_pos (by omega)] at mk'
    have fk := H.mem (List.mem_append_right _ (List.mem_append_right _ (List.mem_append_right _ mk')))
    have hg : (xs.map fun x => ptrN x.id)[j]? = some (ptrN xs[j].id) := by simp [hj']
    have hw' := hw xs[j] (List.getElem_mem hj')
    rw [hd] at hlay H q
    rw [List.map_cons] at hlay
    simp only [layM, Option.bind_eq_some_iff, Option.map_eq_some_iff] at hlay
    obtain ⟨⟨at_, u1, fill1, pages1⟩, hput, ⟨ats1, r2⟩, hlay, e⟩ := hlay
    cases e
    have hpl1 := (layM_pages hlay).1
    have hu1 := putM_len hput
    simp only at hpl1 hlay
    have hf : ∀ y ∈ g.objs, y.b.at_ ≠ at_ := by
      intro y hy e
      rw [List.nodup_append] at hnd
      exact hnd.2.2 y.b.at_ (List.mem_map.2 ⟨y, hy, rfl⟩) at_ (List.mem_cons_self ..) e
    refine wp_round fun LL hLL => ?_
    simp -implicitDefEqProofs only [↓GP, GB, GL, Nat.reduceAdd, Nat.reduceSub, Nat.reduceEqDiff, Nat.reduceMul, Nat.reduceLeDiff, Int.reduceBNe, Int.reduceBEq, Nat.reduceLT, reduceCtorEq, l109_0, hlt, ix_row hj', fk, hg]
    rw [← hid]
    refine wp_in (s77 (p := p) (r := r) (u := u) (g := g) (x := xs[j]) (c := c) (d := d) (F := (xs.drop (j + 1)).flatMap PObj.ch ++ C) (Holds.of (H) (fun k => by simp +arith only [HA, HB]) (fun k x => by simp only [HA, HC]; grind only)) (List.mem_append_right _ mh) hu hok hb (by omega) hw' hput hf fun s1 pgk obk pl h1 ok1 => ?_)
    have w := wrap_add1 (a := j) (by omega)
    simp -implicitDefEqProofs only [↓GP, GB, GL, Nat.reduceAdd, Nat.reduceSub, Nat.reduceEqDiff, Nat.reduceMul, Nat.reduceLeDiff, Int.reduceBNe, Int.reduceBEq, Nat.reduceLT, reduceCtorEq, w]
    rw [hLL, hid]
    refine turn_loop hxl mh mk hw m (j + 1) s1 u1 (({ g with pgk := pgk, pages := pages1, fill := fill1 } : PReg).lay obk pl (xs[j].at at_)) ats1 u' fill' pages' hid (by omega) (by omega) ok1 (putM_b hput hb (by omega) (show pages1.length ≤ 400 by omega)) hpl (by simp [PReg.lay]; omega) hlay
      (by simpa [PReg.lay, PObj.at] using hnd) h1 fun s2 pgk2 obk2 pl2 ok2 h2 => ?_
    have er : g.objs ++ relay (xs[j] :: xs.drop (j + 1)) (at_ :: ats1) = (g.objs ++ [xs[j].at at_]) ++ relay (xs.drop (j + 1)) ats1 := by simp only [relay, List.zipWith_cons_cons, List.append_assoc, List.cons_append, List.nil_append]
    refine q s2 pgk2 obk2 pl2 ?_ ?_
    · rw [er]; exact ok2
    · rw [er]; exact h2
theorem pickM_sublist {life : Nat} : ∀ {ws : List (Int × Int)} {os xs : List PObj}, pickM life os ws = some xs → xs.Sublist os ∧ xs.length = ws.length
  | [], os, xs, h => by cases h; exact ⟨List.nil_sublist _, rfl⟩
  | w :: ws, os, xs, h => by
    simp only [pickM] at h
    split at h
    · cases h
    · rename_i x rest he
      split at h
      · simp only [Option.map_eq_some_iff] at h
        obtain ⟨ys, h1, rfl⟩ := h
        obtain ⟨k1, k2⟩ := pickM_sublist h1
        refine ⟨(List.Sublist.cons_cons x k1).trans ?_, by simp [k2]⟩
        rw [← he]; exact List.drop_sublist _ _
      · cases h
theorem s109_err (hC : Holds o s C) {hv wv : V} {n err : Int} (e : AtErr C hv n err) (hone : hv.one = true) (hcl : hv.cells = [hv]) (q : ∀ s', Holds o s' C → Q (.tuple [.slice none 0 (some 0), I err]) s') : WP (call PF 109 [hv, I n, wv] s) Q := by
  rw [call_run F109]; simp -implicitDefEqProofs only [↓GP, GB, GL, Nat.reduceAdd, Nat.reduceSub, Nat.reduceEqDiff, Nat.reduceMul, Nat.reduceLeDiff, Int.reduceBNe, Int.reduceBEq, Nat.reduceLT, reduceCtorEq, c109]
  refine wp_in (s72_err hC e hone hcl fun s1 h1 => ?_)
  rcases e.ne with rfl | rfl
  · simp -implicitDefEqProofs only [↓GP, GB, GL, Nat.reduceAdd, Nat.reduceSub, Nat.reduceEqDiff, Nat.reduceMul, Nat.reduceLeDiff, Int.reduceBNe, Int.reduceBEq, Nat.reduceLT, reduceCtorEq, Int.reduceBNe]; exact q _ h1
  · simp -implicitDefEqProofs only [↓GP, GB, GL, Nat.reduceAdd, Nat.reduceSub, Nat.reduceEqDiff, Nat.reduceMul, Nat.reduceLeDiff, Int.reduceBNe, Int.reduceBEq, Nat.reduceLT, reduceCtorEq, Int.reduceBNe]; exact q _ h1
theorem s109_bad (hC : Holds o s C) {hp : PHeap} {p i wk : Nat} {ws : List (Int × Int)} (hin : In C p hp) (hlen : hp.regs.length ≤ 100000) {g : PReg} (hr : hp.regs[i]? = some g) (hol : g.objs.length ≤ 100000) (hwl : ws.length ≤ 100000) (mw : (wk, rowO 2 ws.length (ws.flatMap encW)) ∈ C)
    (hb : 0 < g.size ∨ pickM g.life g.objs ws = none) (q : ∀ s', Holds o s' C → Q (.tuple [.slice none 0 (some 0), I 2]) s') : WP (call PF 109 [ptrN hp.id, I i, rowV wk ws.length] s) Q := by
  have mg := List.mem_of_getElem? hr
  rw [call_run F109]; simp -implicitDefEqProofs only [↓GP, GB, GL, Nat.reduceAdd, Nat.reduceSub, Nat.reduceEqDiff, Nat.reduceMul, Nat.reduceLeDiff, Int.reduceBNe, Int.reduceBEq, Nat.reduceLT, reduceCtorEq, c109]
  refine wp_in (s72 hC hin.id hin.row (by omega) hr fun s1 h1 => ?_)
  simp -implicitDefEqProofs only [↓GP, GB, GL, Nat.reduceAdd, Nat.reduceSub, Nat.reduceEqDiff, Nat.reduceMul, Nat.reduceLeDiff, Int.reduceBNe, Int.reduceBEq, Nat.reduceLT, reduceCtorEq, Int.reduceBNe]
  have mgh := hin.hd mg
  simp only [PReg.hd] at mgh
  refine wp_in (s119 h1 mgh (hin.ob mg) (fun x hx => hin.obj mg hx) mw hol hwl (fun hn s2 h2 => ?_) fun xs hxs s2 k h2 => ?_)
  · have f := h2.mem mgh
    by_cases hs : ((g.size : Int) > 0)
    · simp -implicitDefEqProofs only [↓GP, GB, GL, Nat.reduceAdd, Nat.reduceSub, Nat.reduceEqDiff, Nat.reduceMul, Nat.reduceLeDiff, Int.reduceBNe, Int.reduceBEq, Nat.reduceLT, reduceCtorEq, f, hs]; exact q _ h2
    · simp -implicitDefEqProofs only [↓GP, GB, GL, Nat.reduceAdd, Nat.reduceSub, Nat.reduceEqDiff, Nat.reduceMul, Nat.reduceLeDiff, Int.reduceBNe, Int.reduceBEq, Nat.reduceLT, reduceCtorEq, f, hs]; exact q _ h2
  · have f := h2.mem (List.mem_cons_of_mem _ mgh)
    have hs : ((g.size : Int) > 0) := by
      rcases hb with h | h
      · omega
      · rw [hxs] at h; cases h
    simp -implicitDefEqProofs only [↓GP, GB, GL, Nat.reduceAdd, Nat.reduceSub, Nat.reduceEqDiff, Nat.reduceMul, Nat.reduceLeDiff, Int.reduceBNe, Int.reduceBEq, Nat.reduceLT, reduceCtorEq, f, hs]; exact q _ h2.tl
theorem s109 {hp : PHeap} {p r wk : Nat} {u : List Bool} {A B : List PReg} {g : PReg} {ws : List (Int × Int)} {xs : List PObj} {ats : List Nat} {u' : List Bool} {fill' : Nat} {pages' : List Nat} (H : Holds o s (poolC p r u ++ (hp.ch p ++ F))) (hr : hp.regs = A ++ g :: B)
    (hlen : hp.regs.length ≤ 100000) (hu : u.length ≤ 400) (hok : RegOk u.length g.m) (hol : g.objs.length ≤ 5000) (hwl : ws.length ≤ 5000) (mw : (wk, rowO 2 ws.length (ws.flatMap encW)) ∈ F) (hs0 : g.size = 0) (hpick : pickM g.life g.objs ws = some xs)
    (hlay : layM 0 g.life (xs.map fun x => x.b.ws.length + 1) (freeP u g.pages) 0 [] = some (ats, u', fill', pages')) (hnd : ats.Nodup) (hpl : pages'.length ≤ 400)
    (q : ∀ s' pgk obk plk pl kk, PReg.ok { g with pgk := pgk, obk := obk, plk := plk, pl := pl, fill := fill', pages := pages', objs := relay xs ats } →
      Holds o s' ((kk, rowO 2 ws.length ((relay xs ats).flatMap (encP g.life))) :: (poolC p r u' ++ (({ hp with regs := A ++ { g with pgk := pgk, obk := obk, plk := plk, pl := pl, fill := fill', pages := pages', objs := relay xs ats } :: B } : PHeap).ch p ++ F))) →
      Q (.tuple [rowV kk ws.length, I 0]) s') : WP (call PF 109 [ptrN hp.id, I A.length, rowV wk ws.length] s) Q := by
  have hin : In (poolC p r u ++ (hp.ch p ++ F)) p hp := ⟨fun x hx => List.mem_append_right _ (List.mem_append_left _ hx)⟩
  have hg : hp.regs[A.length]? = some g := by rw [hr]; simp
  have mg := List.mem_of_getElem? hg
  have hw31 := hok.ws
  simp only [PReg.m] at hw31
  obtain ⟨hsub, hxl⟩ := pickM_sublist hpick
  have hal : ats.length = xs.length := by have := layM_len hlay; simpa using this
  rw [call_run F109]; simp -implicitDefEqProofs only [↓GP, GB, GL, Nat.reduceAdd, Nat.reduceSub, Nat.reduceEqDiff, Nat.reduceMul, Nat.reduceLeDiff, Int.reduceBNe, Int.reduceBEq, Nat.reduceLT, reduceCtorEq, c109]
  refine wp_in (s72 H hin.id hin.row (by omega) hg fun s1 h1 => ?_)
  simp -implicitDefEqProofs only [↓GP, GB, GL, Nat.reduceAdd, Nat.reduceSub, Nat.reduceEqDiff, Nat.reduceMul, Nat.reduceLeDiff, Int.reduceBNe, Int.reduceBEq, Nat.reduceLT, reduceCtorEq, Int.reduceBNe]
  have mgh := hin.hd mg
  simp only [PReg.hd] at mgh
  refine wp_in (s119 h1 mgh (hin.ob mg) (fun x hx => hin.obj mg hx) (List.mem_append_right _ (List.mem_append_right _ mw)) (by omega) (by omega) (fun hn s2 h2 => by rw [hpick] at hn; cases hn) fun xs' hxs s2 k h2 => ?_)
  rw [hpick] at hxs
  cases hxs
  have f := h2.mem (List.mem_cons_of_mem _ mgh)
  have hs : ¬ ((g.size : Int) > 0) := by omega
  simp -implicitDefEqProofs only [↓GP, GB, GL, Nat.reduceAdd, Nat.reduceSub, Nat.reduceEqDiff, Nat.reduceMul, Nat.reduceLeDiff, Int.reduceBNe, Int.reduceBEq, Nat.reduceLT, reduceCtorEq, f, hs]
  refine wp_in (s76 (p := p) (r := r) (u := u) (g := g) (c := rowV hp.rowk hp.regs.length) (d := I hp.lives) (F := (hp.id, some (hp.hd p)) :: (k, rowO 1 xs.length (xs.map fun x => ptrN x.id)) :: (hp.rowk, hp.row) :: (A.flatMap PReg.ch ++ (B.flatMap PReg.ch ++ F))) (Holds.of (h2) (fun k => by simp +arith only [hr, HA, HB]) (fun k x => by simp only [hr, HA, HC]; grind only)) hu (by simp [PHeap.hd]) hok.pages hok.npages fun s3 plk h3 => ?_)
  have h4 : Holds o s3 (xs.flatMap PObj.ch ++ (poolC p r (freeP u g.pages) ++ (({ g with fill := 0, pages := [], objs := [], plk := plk, pl := .map [] 0 } : PReg).ch ++ ((hp.id, some (hp.hd p)) :: (k, rowO 1 xs.length (xs.map fun x => ptrN x.id)) :: (hp.rowk, hp.row) :: (A.flatMap PReg.ch ++ (B.flatMap PReg.ch ++ F)))))) :=
    Holds.subl (X := g.objs.flatMap PObj.ch) (Holds.of (h3) (fun k => by simp +arith only [HA, HB]) (fun k x => by simp only [HA, HC]; grind only)) (flatMap_sublist _ hsub)
  simp -implicitDefEqProofs only [↓GP, GB, GL, Nat.reduceAdd, Nat.reduceSub, Nat.reduceEqDiff, Nat.reduceMul, Nat.reduceLeDiff, Int.reduceBNe, Int.reduceBEq, Nat.reduceLT, reduceCtorEq]
  have hfl : (freeP u g.pages).length = u.length := freeP_len _ _
  refine turn_loop (p := p) (r := r) (h := hp.id) (c := rowV hp.rowk hp.regs.length) (d := I hp.lives) (C := (hp.id, some (hp.hd p)) :: (k, rowO 1 xs.length (xs.map fun x => ptrN x.id)) :: (hp.rowk, hp.row) :: (A.flatMap PReg.ch ++ (B.flatMap PReg.ch ++ F))) (by omega) (by simp [PHeap.hd]) (by simp)
    (fun x hx => hw31 x.b (List.mem_map.2 ⟨x, hsub.subset hx, rfl⟩)) xs.length 0 s3 (freeP u g.pages) { g with fill := 0, pages := [], objs := [], plk := plk, pl := .map [] 0 } ats u' fill' pages' rfl (by omega) (by omega) ?_ ⟨(show g.size ≤ 31 by omega), hok.life, (show 0 ≤ 32 by omega), by simp, by simp⟩ hpl (by simp; omega) (by rw [List.drop_zero]; simpa [hs0] using hlay) (by simpa using hnd) (by rw [List.drop_zero]; exact (Holds.of (h4) (fun k => by simp +arith only [HA, HB]) (fun k x => by simp only [HA, HC]; grind only))) fun s4 pgk obk pl ok4 h5 => ?_
  · exact mapIs_nil
  · rw [List.drop_zero] at ok4 h5
    simp only [List.nil_append] at ok4 h5
    simp -implicitDefEqProofs only [↓GP, GB, GL, Nat.reduceAdd, Nat.reduceSub, Nat.reduceEqDiff, Nat.reduceMul, Nat.reduceLeDiff, Int.reduceBNe, Int.reduceBEq, Nat.reduceLT, reduceCtorEq]
    have hrl : (relay xs ats).length = xs.length := by simp [relay]; omega
    have e1 := relay_id xs ats hal
    refine wp_in ?_
    rw [show rowV k xs.length = rowV k (relay xs ats).length by rw [hrl]]
    refine s73 (life := g.life) (rest := [I g.size, rowV pgk pages'.length, I fill', rowV obk (relay xs ats).length, .map (some (.new plk))]) h5 (by simp [PReg.ch, PReg.hd]) (by rw [hrl, e1]; simp) (fun x hx => ?_) (by omega) fun s5 kk h6 => ?_
    · simp only [PReg.ch, List.mem_append, List.mem_cons, List.mem_flatMap]
      exact .inr (.inl (.inr (.inr (.inr (.inr ⟨x, hx, by simp [PObj.ch]⟩)))))
    · simp -implicitDefEqProofs only [↓GP, GB, GL, Nat.reduceAdd, Nat.reduceSub, Nat.reduceEqDiff, Nat.reduceMul, Nat.reduceLeDiff, Int.reduceBNe, Int.reduceBEq, Nat.reduceLT, reduceCtorEq]
      rw [show (relay xs ats).length = ws.length by omega] at h6 ⊢
      refine q s5 pgk obk plk pl kk ok4 ?_
      have hrl' : (relay xs ats).length = ws.length := by omega
      exact (Holds.of (h6) (fun k => by simp +arith only [PHeap.hd, PHeap.row, hr, PReg.hd, PReg.obO, List.length_append, List.length_cons, List.map_append, List.map_cons, HA, HB]) (fun k x => by simp only [PHeap.hd, PHeap.row, hr, PReg.hd, PReg.obO, List.length_append, List.length_cons, List.map_append, List.map_cons, HA, HC]; grind only))
end
end Go.Proofs.Ytoldkemimhebaaa

set_option linter.unusedSimpArgs false
set_option linter.unusedVariables false
namespace Go.Proofs.Ytoldkemimhebaaa
open Go Go.IM
def l121_0 : IC := (.seq (.seq (.seq (.region [oa 4 (.mov (.t 3)), oa 5 (.mov (.t 0)), oa 6 (.nilCheck (.t 5)), oa 7 (.fieldAddr 0 (.t 6)), oa 8 (.load none (.t 7)), oa 9 (.lenSlice (.t 8)), oa 10 (.bin .lss (.t 4) (.t 9))] (kp 28 [0,3,10]))
  (.cond (.t 10)
  (sk 28 [0,3])
  (sx 28 [] 0)))
  (.seq (.block 1
  (.seq (.region [oa 13 (.mov (.t 0)), oa 14 (.nilCheck (.t 13)), oa 15 (.fieldAddr 0 (.t 14)), oa 16 (.load none (.t 15)), oa 17 (.mov (.t 3)), oa 18 (.indexAddr 1 (.t 16) (.t 17)), oa 19 (.load none (.t 18)), oa 20 (.un .not (.t 19))] (kp 28 [0,3,20]))
  (.cond (.t 20)
  (.seq (.region [oa 21 (.mov (.t 0)), oa 22 (.nilCheck (.t 21)), oa 23 (.fieldAddr 0 (.t 22)), oa 24 (.load none (.t 23)), oa 25 (.mov (.t 3)), oa 26 (.indexAddr 1 (.t 24) (.t 25)), ob (.store 1 (.t 26) (.c (.bool true)))] (kp 28 [3]))
  (.seq (.region [oa 27 (.mov (.t 3)), oa 2 (.mov (.t 27))] (kp 28 [2]))
  (sr 28 [2])))
  (sk 28 [0,3]))))
  (.region [oa 11 (.mov (.t 3)), oa 12 (.bin .add (.t 11) (ai 1)), oa 3 (.mov (.t 12))] (kp 28 [0,3]))))
  (sk 28 [0,3]))
def c121 : IFn := ⟨28, [(2, none)],
  (.seq (.region [oa 2 (.mov (ai 0))] (kp 28 [0]))
  (.seq (.seq (.region [oa 3 (.mov (ai 0))] (kp 28 [0,3]))
  (.block 0
  (.seq (sk 28 [0,3])
  (.loop l121_0))))
  (.seq (.region [oa 2 (.mov (ai (-1)))] (kp 28 [2]))
  (sr 28 [2]))))⟩
theorem F121 : shutF Try.prog 121 = some c121 := by kernel_rfl
def c58 : IFn := ⟨19, [(2, none), (3, none)],
  (.seq (.region [oa 2 (.mov (.c (.ptr none))), oa 3 (.mov (ai 0))] (kp 19 [0]))
  (.seq (.seq (.region [oa 4 (.mov (.t 0)), oa 5 (.eql false .ptr (.t 4) (.c (.ptr none))), oa 6 (.mov (.t 5)), oc 7 (.mov (.t 0)) 6 ff, oc 8 (.nilCheck (.t 7)) 6 ff, oc 9 (.fieldAddr 0 (.t 8)) 6 ff, oc 10 (.load none (.t 9)) 6 ff, oc 11 (.lenSlice (.t 10)) 6 ff, oc 12 (.bin .eql (.t 11) (ai 0)) 6 ff, oa 13 (.pick (.t 6) (.c (.bool true)) (.t 12))] (kp 19 [0,13]))
  (.cond (.t 13)
  (.seq (.region [oa 2 (.mov (.c (.ptr none))), oa 3 (.mov (ai 6))] (kp 19 [2,3]))
  (sr 19 [2,3]))
  (sk 19 [0])))
  (.seq (.region [oa 14 (.mov (.t 0)), oa 15 (.build [(.int .i64 (0)), (.int .i64 (0)), (.slice none 0 (some 0)), (.int .i64 (0)), (.slice none 0 (some 0))] [(1, 1, (ai 1))]), oa 16 (.buildSlice 1 [(.int .i64 (0)), (.int .i64 (0)), (.slice none 0 (some 0)), (.int .i64 (0)), (.slice none 0 (some 0))] [(0, 5, (.t 15))]), oa 17 (.build [(.ptr none), (.slice none 0 (some 0)), (.int .i64 (0))] [(0, 1, (.t 14)), (1, 1, (.t 16)), (2, 1, (ai 1))]), oa 18 (.box (.t 17)), oa 2 (.mov (.t 18)), oa 3 (.mov (ai 0))] (kp 19 [2,3]))
  (sr 19 [2,3]))))⟩
theorem F58 : shutF Try.prog 58 = some c58 := by kernel_rfl
def c60 : IFn := ⟨47, [(4, none), (5, none)],
  (.seq (.region [oa 4 (.mov (ai 0)), oa 5 (.mov (ai 0))] (kp 47 [0,1]))
  (.seq (.seq (.region [oa 6 (.mov (.t 0)), oa 7 (.call 87 [(.t 6)])] (kp 47 [0,1,7]))
  (.cond (.t 7)
  (.seq (.region [oa 4 (.mov (ai 0)), oa 5 (.mov (ai 6))] (kp 47 [4,5]))
  (sr 47 [4,5]))
  (sk 47 [0,1])))
  (.seq (.seq (.region [oa 8 (.mov (.t 1)), oa 9 (.bin .lss (.t 8) (ai 0)), oa 10 (.mov (.t 9)), oc 11 (.mov (.t 1)) 10 ff, oc 12 (.bin .gtr (.t 11) (ai 31)) 10 ff, oa 13 (.pick (.t 10) (.c (.bool true)) (.t 12))] (kp 47 [0,1,13]))
  (.cond (.t 13)
  (.seq (.region [oa 4 (.mov (ai 0)), oa 5 (.mov (ai 2))] (kp 47 [4,5]))
  (sr 47 [4,5]))
  (sk 47 [0,1])))
  (.seq (.seq (.region [oa 14 (.mov (.t 0)), oa 15 (.nilCheck (.t 14)), oa 16 (.fieldAddr 2 (.t 15)), oa 17 (.load none (.t 16)), oa 18 (.bin .geq (.t 17) (ai 100000))] (kp 47 [0,1,18]))
  (.cond (.t 18)
  (.seq (.region [oa 4 (.mov (ai 0)), oa 5 (.mov (ai 4))] (kp 47 [4,5]))
  (sr 47 [4,5]))
  (sk 47 [0,1])))
  (.seq (.region [oa 19 (.mov (.t 0)), oa 20 (.nilCheck (.t 19)), oa 21 (.fieldAddr 2 (.t 20)), oa 22 (.load none (.t 21)), oa 23 (.bin .add (.t 22) (ai 1)), oa 24 (.nilCheck (.t 19)), oa 25 (.fieldAddr 2 (.t 24)), ob (.store 1 (.t 25) (.t 23))] (kp 47 [0,1]))
  (.seq (.region [oa 26 (.mov (.t 0)), oa 27 (.mov (.t 0)), oa 28 (.nilCheck (.t 27)), oa 29 (.fieldAddr 1 (.t 28)), oa 30 (.load none (.t 29)), oa 31 (.mov (.t 1)), oa 32 (.mov (.t 0)), oa 33 (.nilCheck (.t 32)), oa 34 (.fieldAddr 2 (.t 33)), oa 35 (.load none (.t 34)), oa 36 (.build [(.int .i64 (0)), (.int .i64 (0)), (.slice none 0 (some 0)), (.int .i64 (0)), (.slice none 0 (some 0))] [(0, 1, (.t 31)), (1, 1, (.t 35))]), oa 37 (.buildSlice 1 [(.int .i64 (0)), (.int .i64 (0)), (.slice none 0 (some 0)), (.int .i64 (0)), (.slice none 0 (some 0))] [(0, 5, (.t 36))]), oa 38 (.append 5 72 (.t 30) (.t 37)), oa 39 (.nilCheck (.t 26)), oa 40 (.fieldAddr 1 (.t 39)), ob (.store 1 (.t 40) (.t 38))] (kp 47 [0]))
  (.seq (.region [oa 41 (.mov (.t 0)), oa 42 (.nilCheck (.t 41)), oa 43 (.fieldAddr 1 (.t 42)), oa 44 (.load none (.t 43)), oa 45 (.lenSlice (.t 44)), oa 46 (.bin .sub (.t 45) (ai 1)), oa 4 (.mov (.t 46)), oa 5 (.mov (ai 0))] (kp 47 [4,5]))
  (sr 47 [4,5]))))))))⟩
theorem F60 : shutF Try.prog 60 = some c60 := by kernel_rfl
def l88_0 : IC := (.seq (.seq (.seq (.region [oa 14 (.mov (.t 6)), oa 15 (.fieldAddr 2 (.t 5)), oa 16 (.load none (.t 15)), oa 17 (.lenSlice (.t 16)), oa 18 (.bin .lss (.t 14) (.t 17))] (kp 48 [0,1,5,6,18]))
  (.cond (.t 18)
  (sk 48 [0,1,5,6])
  (sx 48 [0,1,5] 0)))
  (.seq (.block 1
  (.region [oa 21 (.mov (.t 0)), oa 22 (.nilCheck (.t 21)), oa 23 (.fieldAddr 0 (.t 22)), oa 24 (.load none (.t 23)), oa 25 (.nilCheck (.t 24)), oa 26 (.fieldAddr 0 (.t 25)), oa 27 (.load none (.t 26)), oa 28 (.fieldAddr 2 (.t 5)), oa 29 (.load none (.t 28)), oa 30 (.mov (.t 6)), oa 31 (.indexAddr 1 (.t 29) (.t 30)), oa 32 (.load none (.t 31)), oa 33 (.indexAddr 1 (.t 27) (.t 32)), ob (.store 1 (.t 33) (.c (.bool false)))] (kp 48 [0,1,5,6])))
  (.region [oa 19 (.mov (.t 6)), oa 20 (.bin .add (.t 19) (ai 1)), oa 6 (.mov (.t 20))] (kp 48 [0,1,5,6]))))
  (sk 48 [0,1,5,6]))
def c88 : IFn := ⟨48, [(4, none)],
  (.seq (.region [oa 4 (.mov (ai 0))] (kp 48 [0,1]))
  (.seq (.region [oa 7 (.mov (.t 0)), oa 8 (.nilCheck (.t 7)), oa 9 (.fieldAddr 1 (.t 8)), oa 10 (.load none (.t 9)), oa 11 (.mov (.t 1)), oa 12 (.indexAddr 5 (.t 10) (.t 11)), oa 13 (.load (some 5) (.t 12)), oa 5 (.alloc [(.int .i64 (0)), (.int .i64 (0)), (.slice none 0 (some 0)), (.int .i64 (0)), (.slice none 0 (some 0))]), ob (.store 5 (.t 5) (.t 13))] (kp 48 [0,1,5]))
  (.seq (.seq (.region [oa 6 (.mov (ai 0))] (kp 48 [0,1,5,6]))
  (.block 0
  (.seq (sk 48 [0,1,5,6])
  (.loop l88_0))))
  (.seq (.region [oa 34 (.mov (.t 0)), oa 35 (.nilCheck (.t 34)), oa 36 (.fieldAddr 1 (.t 35)), oa 37 (.load none (.t 36)), oa 38 (.mov (.t 1)), oa 39 (.fieldAddr 0 (.t 5)), oa 40 (.load none (.t 39)), oa 41 (.fieldAddr 1 (.t 5)), oa 42 (.load none (.t 41)), oa 43 (.build [(.int .i64 (0)), (.int .i64 (0)), (.slice none 0 (some 0)), (.int .i64 (0)), (.slice none 0 (some 0))] [(0, 1, (.t 40)), (1, 1, (.t 42))]), oa 44 (.indexAddr 5 (.t 37) (.t 38)), ob (.store 5 (.t 44) (.t 43))] (kp 48 [5]))
  (.seq (.region [oa 45 (.fieldAddr 2 (.t 5)), oa 46 (.load none (.t 45)), oa 47 (.lenSlice (.t 46)), oa 4 (.mov (.t 47))] (kp 48 [4]))
  (sr 48 [4]))))))⟩
theorem F88 : shutF Try.prog 88 = some c88 := by kernel_rfl
def c61 : IFn := ⟨29, [(2, none), (3, none)],
  (.seq (.region [oa 2 (.mov (ai 0)), oa 3 (.mov (ai 0))] (kp 29 [0]))
  (.seq (.seq (.region [oa 6 (.mov (.t 0)), oa 7 (.call 87 [(.t 6)])] (kp 29 [0,7]))
  (.cond (.t 7)
  (.seq (.region [oa 2 (.mov (ai 0)), oa 3 (.mov (ai 6))] (kp 29 [2,3]))
  (sr 29 [2,3]))
  (sk 29 [0])))
  (.seq (.region [oa 8 (.mov (.t 0)), oa 9 (.nilCheck (.t 8)), oa 10 (.fieldAddr 1 (.t 9)), oa 11 (.load none (.t 10)), oa 12 (.lenSlice (.t 11)), oa 13 (.bin .sub (.t 12) (ai 1)), oa 4 (.mov (.t 13))] (kp 29 [0,4]))
  (.seq (.seq (.region [oa 14 (.mov (.t 4)), oa 15 (.bin .eql (.t 14) (ai 0))] (kp 29 [0,4,15]))
  (.cond (.t 15)
  (.seq (.region [oa 2 (.mov (ai 0)), oa 3 (.mov (ai 5))] (kp 29 [2,3]))
  (sr 29 [2,3]))
  (sk 29 [0,4])))
  (.seq (.region [oa 16 (.mov (.t 0)), oa 17 (.mov (.t 4)), oa 18 (.call 88 [(.t 16), (.t 17)]), oa 5 (.mov (.t 18))] (kp 29 [0,4,5]))
  (.seq (.region [oa 19 (.mov (.t 0)), oa 20 (.mov (.t 0)), oa 21 (.nilCheck (.t 20)), oa 22 (.fieldAddr 1 (.t 21)), oa 23 (.load none (.t 22)), oa 24 (.mov (.t 4)), oa 25 (.slice 5 (.t 23) none (some (.t 24)) none), oa 26 (.nilCheck (.t 19)), oa 27 (.fieldAddr 1 (.t 26)), ob (.store 1 (.t 27) (.t 25))] (kp 29 [5]))
  (.seq (.region [oa 28 (.mov (.t 5)), oa 2 (.mov (.t 28)), oa 3 (.mov (ai 0))] (kp 29 [2,3]))
  (sr 29 [2,3]))))))))⟩
theorem F61 : shutF Try.prog 61 = some c61 := by kernel_rfl
def c62 : IFn := ⟨42, [(4, none), (5, none)],
  (.seq (.region [oa 4 (.mov (ai 0)), oa 5 (.mov (ai 0))] (kp 42 [0,1]))
  (.seq (.seq (.region [oa 6 (.mov (.t 0)), oa 7 (.call 87 [(.t 6)])] (kp 42 [0,1,7]))
  (.cond (.t 7)
  (.seq (.region [oa 4 (.mov (ai 0)), oa 5 (.mov (ai 6))] (kp 42 [4,5]))
  (sr 42 [4,5]))
  (sk 42 [0,1])))
  (.seq (.seq (.region [oa 8 (.mov (.t 0)), oa 9 (.mov (.t 1)), oa 10 (.call 106 [(.t 8), (.t 9)]), oa 11 (.un .not (.t 10))] (kp 42 [0,1,11]))
  (.cond (.t 11)
  (.seq (.region [oa 4 (.mov (ai 0)), oa 5 (.mov (ai 2))] (kp 42 [4,5]))
  (sr 42 [4,5]))
  (sk 42 [0,1])))
  (.seq (.seq (.region [oa 12 (.mov (.t 0)), oa 13 (.nilCheck (.t 12)), oa 14 (.fieldAddr 2 (.t 13)), oa 15 (.load none (.t 14)), oa 16 (.bin .geq (.t 15) (ai 100000))] (kp 42 [0,1,16]))
  (.cond (.t 16)
  (.seq (.region [oa 4 (.mov (ai 0)), oa 5 (.mov (ai 4))] (kp 42 [4,5]))
  (sr 42 [4,5]))
  (sk 42 [0,1])))
  (.seq (.region [oa 17 (.mov (.t 0)), oa 18 (.mov (.t 1)), oa 19 (.call 88 [(.t 17), (.t 18)])] (kp 42 [0,1]))
  (.seq (.region [oa 20 (.mov (.t 0)), oa 21 (.nilCheck (.t 20)), oa 22 (.fieldAddr 2 (.t 21)), oa 23 (.load none (.t 22)), oa 24 (.bin .add (.t 23) (ai 1)), oa 25 (.nilCheck (.t 20)), oa 26 (.fieldAddr 2 (.t 25)), ob (.store 1 (.t 26) (.t 24))] (kp 42 [0,1]))
  (.seq (.region [oa 27 (.mov (.t 0)), oa 28 (.nilCheck (.t 27)), oa 29 (.fieldAddr 1 (.t 28)), oa 30 (.load none (.t 29)), oa 31 (.mov (.t 1)), oa 32 (.mov (.t 0)), oa 33 (.nilCheck (.t 32)), oa 34 (.fieldAddr 2 (.t 33)), oa 35 (.load none (.t 34)), oa 36 (.indexAddr 5 (.t 30) (.t 31)), oa 37 (.fieldAddr 1 (.t 36)), ob (.store 1 (.t 37) (.t 35))] (kp 42 [0]))
  (.seq (.region [oa 38 (.mov (.t 0)), oa 39 (.nilCheck (.t 38)), oa 40 (.fieldAddr 2 (.t 39)), oa 41 (.load none (.t 40)), oa 4 (.mov (.t 41)), oa 5 (.mov (ai 0))] (kp 42 [4,5]))
  (sr 42 [4,5])))))))))⟩
theorem F62 : shutF Try.prog 62 = some c62 := by kernel_rfl
theorem RHeap.againV (h : RHeap) (s : St) : againV h.rv h.rv s = some (.any, s) := by unfold RHeap.rv; split; exact againV_row _ _ _; exact againV_slice _ _ _ _
theorem set_mid {α : Type} (A B : List α) (x y : α) : (A ++ x :: B).set A.length y = A ++ y :: B := by simp
theorem rset5 {h : RHeap} {A B : List RReg} {g : RReg} (hr : h.regs = A ++ g :: B) (g' : RReg) (s : St) : stC 5 h.rowk (A.length * 5) (.agg g'.enc) s (some h.row) = some (s.set h.rowk ({ h with regs := A ++ g' :: B } : RHeap).row) := by
  have h1 := tab_set RReg.enc_len h.sl g' h.regs A.length 0 g'.enc g (by rw [hr]; simp) (Nat.le_refl _) (by
    unfold over; simp [RReg.enc])
  rw [Nat.add_zero, hr, set_mid] at h1
  have hle : A.length * 5 + 5 ≤ ((A ++ g :: B).flatMap RReg.enc ++ h.sl).length := by
    rw [List.length_append, tab_len RReg.enc_len]; simp; omega
  unfold RHeap.row
  rw [stC_some, cells_agg, hr, if_pos ⟨rfl, hle, RReg.enc_one g'⟩, h1]
theorem rset1 {h : RHeap} {A B : List RReg} {g : RReg} (hr : h.regs = A ++ g :: B) {f : Nat} {v : V} (hf : f < 5) (hv : v.one = true) {g' : RReg} (he : g.enc.set f v = g'.enc) (s : St) : stC1 h.rowk (A.length * 5 + f) [v] s (some h.row) = some (s.set h.rowk ({ h with regs := A ++ g' :: B } : RHeap).row) := by
  have h1 := tab_set RReg.enc_len h.sl g' h.regs A.length f [v] g (by rw [hr]; simp) (by simp; omega) (by rw [over_one _ _ _ (by rw [RReg.enc_len]; exact hf), he])
  rw [hr, set_mid] at h1
  have hle : A.length * 5 + f < ((A ++ g :: B).flatMap RReg.enc ++ h.sl).length := by
    rw [List.length_append, tab_len RReg.enc_len]; simp; omega
  unfold RHeap.row
  rw [stC1_some, hr, if_pos ⟨hle, hv⟩, ← over_one _ _ _ hle, h1]
section
variable {o : Nat → Option O} {s : St} {C F : Ch} {Q : V → St → Prop}
set_option maxRecDepth 10000
theorem rtake_loop {gr : Bool} {p r : Nat} {u : List Bool}  {K : Kt} (hb : u.length ≤ 400) :
    ∀ (m i : Nat) (s : St), i + m = u.length → Holds o s (poolG gr p r u ++ C) →
    (((u.drop i).findIdx? (! ·)) = none → WP (K (.exit 0) (sp 28 []) s) Q) →
    (∀ j, ((u.drop i).findIdx? (! ·)) = some j → ∀ s', Holds o s' (poolG gr p r (u.set (i + j) true) ++ C) → WP (K .ret (sp 28 [(2, I (i + j : Nat))]) s') Q) →
    WP (loop PF (.loop l121_0) (sp 28 [(0, ptrN p), (3, I i)]) s K) Q
  | 0, i, s, hi, H, qn, qs => by
    have hlt : ¬ ((i : Int) < (u.length : Int)) := by omega
    have f := Holds.f2 H
    refine wp_round fun LL hLL => ?_
    simp -implicitDefEqProofs only [↓GP, GB, GL, Nat.reduceAdd, Nat.reduceSub, Nat.reduceEqDiff, Nat.reduceMul, Nat.reduceLeDiff, Int.reduceBNe, Int.reduceBEq, Nat.reduceLT, reduceCtorEq, l121_0, hlt, f]
    exact qn (by rw [List.drop_eq_nil_of_le (by omega)]; rfl)
  | m + 1, i, s, hi, H, qn, qs => by
    have hlt : ((i : Int) < (u.length : Int)) := by omega
    have hi' : i < u.length := by omega
    have hd : u.drop i = u[i] :: u.drop (i + 1) := List.drop_eq_getElem_cons hi'
    have f := Holds.f2 H
    have hix := ix_cV (gr := gr) (sz := 1) (k := r) (kk := .i64) hi'
    have hg : (u.map V.bool)[i]? = some (.bool u[i]) := by simp [hi']
    have hw := wrap_add1 (a := i) (by omega)
    have hl : i < (u.map V.bool).length := by simpa using hi'
    rw [hd, List.findIdx?_cons] at qn qs
    refine wp_round fun LL hLL => ?_
    cases hbi : u[i] with
    | false =>
      rw [hbi] at hg qs
      simp -implicitDefEqProofs only [↓GP, GB, GL, Nat.reduceAdd, Nat.reduceSub, Nat.reduceEqDiff, Nat.reduceMul, Nat.reduceLeDiff, Int.reduceBNe, Int.reduceBEq, Nat.reduceLT, reduceCtorEq, l121_0, hlt, f, hix, hg, hl, set_map]
      refine qs 0 (by simp) _ ?_
      have := Holds.set1 H (.cells ((u.set i true).map .bool) (cG gr 1))
      simpa [poolG] using this
    | true =>
      rw [hbi] at hg qn qs
      simp -implicitDefEqProofs only [↓GP, GB, GL, Nat.reduceAdd, Nat.reduceSub, Nat.reduceEqDiff, Nat.reduceMul, Nat.reduceLeDiff, Int.reduceBNe, Int.reduceBEq, Nat.reduceLT, reduceCtorEq, l121_0, hlt, f, hix, hg, hw]
      rw [hLL]
      refine rtake_loop hb m (i + 1) s (by omega) H (fun h => qn (by simp [h])) fun j hj s' h' => ?_
      have := qs (j + 1) (by simp [hj]) s' (by rw [show i + (j + 1) = i + 1 + j by omega]; exact h')
      rw [show i + 1 + j = i + (j + 1) by omega]
      exact this
theorem s121 {gr : Bool} {p r : Nat} {u : List Bool} (H : Holds o s (poolG gr p r u ++ F)) (hb : u.length ≤ 400)
    (qn : takeP u = none → ∀ s', Holds o s' (poolG gr p r u ++ F) → Q (I (-1)) s')
    (qs : ∀ n, takeP u = some n → ∀ s', Holds o s' (poolG gr p r (u.set n true) ++ F) → Q (I n) s') : WP (call PF 121 [ptrN p] s) Q := by
  rw [call_run F121]; simp -implicitDefEqProofs only [↓GP, GB, GL, Nat.reduceAdd, Nat.reduceSub, Nat.reduceEqDiff, Nat.reduceMul, Nat.reduceLeDiff, Int.reduceBNe, Int.reduceBEq, Nat.reduceLT, reduceCtorEq, c121]
  refine rtake_loop hb u.length 0 s (by omega) H (fun h => ?_) fun j hj s' h' => ?_
  · simp -implicitDefEqProofs only [↓GP, GB, GL, Nat.reduceAdd, Nat.reduceSub, Nat.reduceEqDiff, Nat.reduceMul, Nat.reduceLeDiff, Int.reduceBNe, Int.reduceBEq, Nat.reduceLT, reduceCtorEq]
    exact qn (by rw [List.drop_zero] at h; exact h) s H
  · simp -implicitDefEqProofs only [↓GP, GB, GL, Nat.reduceAdd, Nat.reduceSub, Nat.reduceEqDiff, Nat.reduceMul, Nat.reduceLeDiff, Int.reduceBNe, Int.reduceBEq, Nat.reduceLT, reduceCtorEq]
    rw [List.drop_zero] at hj
    rw [Nat.zero_add] at h'
    exact qs j hj s' h'
theorem s58 {p r : Nat} {u : List Bool} (H : Holds o s (poolC p r u ++ F)) (h0 : 0 < u.length)
    (q : ∀ s' id rk, Holds o s' (poolC p r u ++ (RHeap.ch p ⟨id, rk, false, 1, [⟨0, 0, 0, 1, 0, [], []⟩], []⟩ ++ F)) → Q (.tuple [ptrN id, I 0]) s') : WP (call PF 58 [ptrN p] s) Q := by
  have f := Holds.f2 H
  have hz : ((u.length : Int) == 0) = false := by rw [beq_eq_false_iff_ne]; omega
  rw [call_run F58]; simp -implicitDefEqProofs only [↓GP, GB, GL, Nat.reduceAdd, Nat.reduceSub, Nat.reduceEqDiff, Nat.reduceMul, Nat.reduceLeDiff, Int.reduceBNe, Int.reduceBEq, Nat.reduceLT, reduceCtorEq, c58, f, hz]
  have h1 := (H.alloc (.cells [I 0, I 1, .slice none 0 (some 0), I 0, .slice none 0 (some 0)] none)).alloc (.cells [ptrN p, slN s.next 1, I 1] none)
  refine q _ (s.next + 1) s.next (Holds.of (h1) (fun k => by simp +arith only [RHeap.hd, RHeap.row, RHeap.rv, RReg.enc, rowV_zero, pgV_zero, List.length_nil, List.length_cons, Int.natCast_zero, Nat.zero_add, alloc_next, Bool.false_eq_true, if_false, Int.cast_ofNat_Int, HA, HB]) (fun k x => by simp only [RHeap.hd, RHeap.row, RHeap.rv, RReg.enc, rowV_zero, pgV_zero, List.length_nil, List.length_cons, Int.natCast_zero, Nat.zero_add, alloc_next, Bool.false_eq_true, if_false, Int.cast_ofNat_Int, HA, HC]; grind only))
theorem s60_bad (hC : Holds o s C) {hr : RHeap} {p : Nat} {n : Int} (hin : RIn C p hr) (h0 : hr.regs ≠ []) (hb : ¬ (0 ≤ n ∧ n ≤ 31)) : call PF 60 [ptrN hr.id, I n] s = some (.tuple [I 0, I 2], s) := by
  have e := s87 hC hin h0
  by_cases h1 : n < 0
  · rw [call_run F60]; simp -implicitDefEqProofs only [↓GP, GB, GL, Nat.reduceAdd, Nat.reduceSub, Nat.reduceEqDiff, Nat.reduceMul, Nat.reduceLeDiff, Int.reduceBNe, Int.reduceBEq, Nat.reduceLT, reduceCtorEq, c60, e, h1]
  · have h2 : (n > 31) := by omega
    rw [call_run F60]; simp -implicitDefEqProofs only [↓GP, GB, GL, Nat.reduceAdd, Nat.reduceSub, Nat.reduceEqDiff, Nat.reduceMul, Nat.reduceLeDiff, Int.reduceBNe, Int.reduceBEq, Nat.reduceLT, reduceCtorEq, c60, e, h1, h2]
theorem s60_full (hC : Holds o s C) {hr : RHeap} {p : Nat} {n : Int} (hin : RIn C p hr) (h0 : hr.regs ≠ []) (hb : 0 ≤ n ∧ n ≤ 31) (hl : 100000 ≤ hr.lives) : call PF 60 [ptrN hr.id, I n] s = some (.tuple [I 0, I 4], s) := by
  have e := s87 hC hin h0
  have f := hC.mem hin.id
  simp only [RHeap.hd] at f
  have h1 : ¬ n < 0 := by omega
  have h2 : ¬ (n > 31) := by omega
  have h3 : ((hr.lives : Int) ≥ 100000) := by omega
  rw [call_run F60]; simp -implicitDefEqProofs only [↓GP, GB, GL, Nat.reduceAdd, Nat.reduceSub, Nat.reduceEqDiff, Nat.reduceMul, Nat.reduceLeDiff, Int.reduceBNe, Int.reduceBEq, Nat.reduceLT, reduceCtorEq, c60, e, f, h1, h2, h3]
def RGrown (hr : RHeap) : Prop := (hr.grown = false → hr.sl = []) ∧ ∃ j, hr.sl.length = j * 5
theorem s60 {hr : RHeap} {p words : Nat} (H : Holds o s (hr.ch p ++ F)) (h0 : hr.regs ≠ []) (hg : RGrown hr) (hlen : hr.regs.length < 100000) (hb : words ≤ 31) (hl : hr.lives < 100000)
    (q : ∀ s' rk sl, RGrown { hr with rowk := rk, grown := true, lives := hr.lives + 1, regs := hr.regs ++ [⟨0, 0, words, hr.lives + 1, 0, [], []⟩], sl := sl } →
      Holds o s' (({ hr with rowk := rk, grown := true, lives := hr.lives + 1, regs := hr.regs ++ [⟨0, 0, words, hr.lives + 1, 0, [], []⟩], sl := sl } : RHeap).ch p ++ F) → Q (.tuple [I hr.regs.length, I 0]) s') : WP (call PF 60 [ptrN hr.id, I words] s) Q := by
  have hin : RIn (hr.ch p ++ F) p hr := ⟨fun x hx => List.mem_append_left _ hx⟩
  have e := s87 H hin h0
  have f := H.mem hin.id
  simp only [RHeap.hd] at f
  have h1 : ¬ ((words : Int) < 0) := by omega
  have h2 : ¬ ((words : Int) > 31) := by omega
  have h3 : ¬ ((hr.lives : Int) ≥ 100000) := by omega
  have w1 := wrap_add1 (a := hr.lives) (by omega)
  have w2 : wrapI .i64 (((hr.regs.length + 1 : Nat) : Int) - 1) = I (hr.regs.length : Nat) := by rw [wrap_sub1 (by omega) (by omega)]; rfl
  have H1 : Holds o s ((hr.id, some (.cells [ptrN p, hr.rv, I hr.lives] none)) :: (hr.rowk, some hr.row) :: (hr.regs.flatMap RReg.ch ++ F)) := H
  have H2 := (H1.set0 (.cells [ptrN p, hr.rv, I (hr.lives + 1 : Nat)] none)).alloc (.cells [I words, I (hr.lives + 1 : Nat), .slice none 0 (some 0), I 0, .slice none 0 (some 0)] none)
  rw [call_run F60]; simp -implicitDefEqProofs only [↓GP, GB, GL, Nat.reduceAdd, Nat.reduceSub, Nat.reduceEqDiff, Nat.reduceMul, Nat.reduceLeDiff, Int.reduceBNe, Int.reduceBEq, Nat.reduceLT, reduceCtorEq, c60, e, f, h1, h2, h3, w1]
  have fin : ∀ rv rk s1 sl, (∃ j, sl.length = j * 5) → Holds o s1 ((rk, some (.cells ((hr.regs.flatMap RReg.enc ++ [I words, I (hr.lives + 1 : Nat), .slice none 0 (some 0), I 0, .slice none 0 (some 0)]) ++ sl) (some 5))) :: (hr.id, some (.cells [ptrN p, rv, I (hr.lives + 1 : Nat)] none)) :: (hr.regs.flatMap RReg.ch ++ F)) →
      Holds o (s1.set hr.id (.cells [ptrN p, rowV rk (hr.regs.length + 1), I (hr.lives + 1 : Nat)] none)) (({ hr with rowk := rk, grown := true, lives := hr.lives + 1, regs := hr.regs ++ [⟨0, 0, words, hr.lives + 1, 0, [], []⟩], sl := sl } : RHeap).ch p ++ F) ∧ RGrown { hr with rowk := rk, grown := true, lives := hr.lives + 1, regs := hr.regs ++ [⟨0, 0, words, hr.lives + 1, 0, [], []⟩], sl := sl } := by
    intro rv rk s1 sl hj h
    refine ⟨?_, (fun h => by cases h), hj⟩
    have h2 := h.set1 (.cells [ptrN p, rowV rk (hr.regs.length + 1), I (hr.lives + 1 : Nat)] none)
    exact (Holds.of (h2) (fun k => by simp +arith only [RHeap.hd, RHeap.row, RHeap.rv, RReg.enc, rowV_zero, pgV_zero, List.length_nil, List.length_cons, List.length_append, Int.natCast_zero, Nat.zero_add, if_true, HA, HB]) (fun k x => by simp only [RHeap.hd, RHeap.row, RHeap.rv, RReg.enc, rowV_zero, pgV_zero, List.length_nil, List.length_cons, List.length_append, Int.natCast_zero, Nat.zero_add, if_true, HA, HC]; grind only))
  cases hgr : hr.grown with
  | false =>
    have hsl := hg.1 hgr
    have hrv : hr.rv = slN hr.rowk hr.regs.length := by unfold RHeap.rv; rw [hgr]; rfl
    have hrow : hr.row = .cells (hr.regs.flatMap RReg.enc) none := by unfold RHeap.row; rw [hgr, hsl]; simp
    rw [hrow] at H2
    rw [hrv] at H2 ⊢
    refine wp_append_cap (cs := hr.regs.flatMap RReg.enc) (H2.r2) (by rw [tab_len RReg.enc_len]) (new_cells' (alloc_new_same _ _) rfl) (by omega) (by omega) (by unfold maxRow; omega) (by unfold maxRow; omega) fun rk s1 h => ?_
    have f := h.r2.f1
    simp -implicitDefEqProofs only [↓GP, GB, GL, Nat.reduceAdd, Nat.reduceSub, Nat.reduceEqDiff, Nat.reduceMul, Nat.reduceLeDiff, Int.reduceBNe, Int.reduceBEq, Nat.reduceLT, reduceCtorEq, f, w2]
    obtain ⟨k1, k2⟩ := fin _ rk s1 [] ⟨0, by simp⟩ (by rw [List.append_nil]; exact h.r1.tl)
    exact q _ rk [] k2 k1
  | true =>
    have hrv : hr.rv = rowV hr.rowk hr.regs.length := by unfold RHeap.rv; rw [hgr]; rfl
    have hrow : some hr.row = rowO 5 hr.regs.length (hr.regs.flatMap RReg.enc ++ hr.sl) := by unfold RHeap.row; rw [hgr, rowO_pos (List.length_pos_iff.2 h0)]; rfl
    rw [hrow] at H2
    rw [hrv] at H2 ⊢
    refine wp_append1 (cs := hr.regs.flatMap RReg.enc) (sl := hr.sl) (H2.r2) (by rw [tab_len RReg.enc_len]) hg.2 (fun h => absurd (List.length_eq_zero_iff.1 h) h0) (new_cells' (alloc_new_same _ _) rfl) rfl rfl (by omega) (by unfold maxRow; omega) (by unfold maxRow; omega) fun rk s1 sl hj h => ?_
    rw [rowO_pos (by omega)] at h
    have f := h.r2.f1
    simp -implicitDefEqProofs only [↓GP, GB, GL, Nat.reduceAdd, Nat.reduceSub, Nat.reduceEqDiff, Nat.reduceMul, Nat.reduceLeDiff, Int.reduceBNe, Int.reduceBEq, Nat.reduceLT, reduceCtorEq, f, w2]
    obtain ⟨k1, k2⟩ := fin _ rk s1 sl hj h.r1.tl
    exact q _ rk sl k2 k1
theorem release_loop {gr : Bool} {h p r t pgk : Nat} {pages : List Nat} {c d a0 a1 a3 a4 : V} {K : Kt} (mh : (h, some (.cells [ptrN p, c, d] none)) ∈ C) (mt : (t, some (.cells [a0, a1, pgV pgk pages.length, a3, a4] none)) ∈ C) (mp : (pgk, pagesO pages) ∈ C) (hpl : pages.length ≤ 400) {n : V} :
    ∀ (m i : Nat) (u : List Bool) (s : St), i + m = pages.length → u.length ≤ 400 → (∀ x ∈ pages, x < u.length) → Holds o s (poolG gr p r u ++ C) →
    (∀ s', Holds o s' (poolG gr p r (freeP u (pages.drop i)) ++ C) → WP (K (.exit 0) (sp 48 [(0, ptrN h), (1, n), (5, ptrN t)]) s') Q) →
    WP (loop PF (.loop l88_0) (sp 48 [(0, ptrN h), (1, n), (5, ptrN t), (6, I i)]) s K) Q
  | 0, i, u, s, hi, hu, hx, H, q => by
    have hlt : ¬ ((i : Int) < (pages.length : Int)) := by omega
    have ft := H.mem (List.mem_append_right _ mt)
    refine wp_round fun LL hLL => ?_
    simp -implicitDefEqProofs only [↓GP, GB, GL, Nat.reduceAdd, Nat.reduceSub, Nat.reduceEqDiff, Nat.reduceMul, Nat.reduceLeDiff, Int.reduceBNe, Int.reduceBEq, Nat.reduceLT, reduceCtorEq, l88_0, hlt, ft]
    refine q _ ?_
    rw [List.drop_eq_nil_of_le (by omega)]
    exact H
  | m + 1, i, u, s, hi, hu, hx, H, q => by
    have hlt : ((i : Int) < (pages.length : Int)) := by omega
    have hi' : i < pages.length := by omega
    have fh := H.mem (List.mem_append_right _ mh)
    have ft := H.mem (List.mem_append_right _ mt)
    rw [pagesO, rowO_pos (by omega)] at mp
    have fp := H.mem (List.mem_append_right _ mp)
    have f := Holds.f2 H
    have hpi : pages[i] < u.length := hx _ (List.getElem_mem hi')
    have hl : pages[i] < (u.map V.bool).length := by simpa using hpi
    have hw := wrap_add1 (a := i) (by omega)
    refine wp_round fun LL hLL => ?_
    simp -implicitDefEqProofs only [↓GP, GB, GL, Nat.reduceAdd, Nat.reduceSub, Nat.reduceEqDiff, Nat.reduceMul, Nat.reduceLeDiff, Int.reduceBNe, Int.reduceBEq, Nat.reduceLT, reduceCtorEq, l88_0, hlt, ix_pg hi', fp, fh, ft, f, pages_get hi', ix_cV hpi, hl, set_map, hw]
    rw [hLL]
    refine release_loop (gr := gr) (r := r) mh mt (by rw [pagesO, rowO_pos (by omega)]; exact mp) hpl m (i + 1) (u.set pages[i] false) _ (by omega) (by simpa using hu) (by simpa using hx) ?_ fun s' h' => q s' ?_
    · have := Holds.set1 H (.cells ((u.set pages[i] false).map .bool) (cG gr 1))
      simpa [poolG] using this
    · rw [List.drop_eq_getElem_cons hi']; exact h'
theorem s88 {gr : Bool} {hr : RHeap} {p r : Nat} {u : List Bool} {A B : List RReg} {g : RReg} (H : Holds o s (poolG gr p r u ++ (hr.ch p ++ F))) (hre : hr.regs = A ++ g :: B) (hu : u.length ≤ 400) (hp : ∀ x ∈ g.pages, x < u.length) (hpl : g.pages.length ≤ 400)
    (q : ∀ s', Holds o s' (poolG gr p r (freeP u g.pages) ++ (({ hr with regs := A ++ { g with pgk := 0, fill := 0, pages := [], objs := [] } :: B } : RHeap).ch p ++ (g.objs.flatMap RObj.ch ++ F))) → Q (I g.pages.length) s') : WP (call PF 88 [ptrN hr.id, I A.length] s) Q := by
  have hin : RIn (poolG gr p r u ++ (hr.ch p ++ F)) p hr := ⟨fun x hx => List.mem_append_right _ (List.mem_append_left _ hx)⟩
  have f := H.mem hin.id
  have fr := H.mem hin.row
  simp only [RHeap.hd] at f
  have hg : hr.regs[A.length]? = some g := by rw [hre]; simp
  rw [call_run F88]; simp -implicitDefEqProofs only [↓GP, GB, GL, Nat.reduceAdd, Nat.reduceSub, Nat.reduceEqDiff, Nat.reduceMul, Nat.reduceLeDiff, Int.reduceBNe, Int.reduceBEq, Nat.reduceLT, reduceCtorEq, c88, f, fr, rreg hg, RReg.enc]
  have h1 := (H.alloc (.cells [I 0, I 0, .slice none 0 (some 0), I 0, .slice none 0 (some 0)] none)).set0 (.cells [I g.size, I g.life, pgV g.pgk g.pages.length, I g.fill, rowV g.obk g.objs.length] none)
  generalize (s.alloc (.cells [I 0, I 0, .slice none 0 (some 0), I 0, .slice none 0 (some 0)] none)).set s.next (.cells [I g.size, I g.life, pgV g.pgk g.pages.length, I g.fill, rowV g.obk g.objs.length] none) = S at h1 ⊢
  have h2 : Holds o S (poolG gr p r u ++ ((s.next, some (.cells [I g.size, I g.life, pgV g.pgk g.pages.length, I g.fill, rowV g.obk g.objs.length] none)) :: (hr.ch p ++ F))) := (Holds.of (h1) (fun k => by simp +arith only [HA, HB]) (fun k x => by simp only [HA, HC]; grind only))
  refine release_loop (r := r) (u := u) (c := hr.rv) (d := I hr.lives) (h := hr.id) (by simp [RHeap.ch, RHeap.hd]) (List.mem_cons_self ..) (by simp [RHeap.ch, hre, RReg.ch]) hpl g.pages.length 0 S (by omega) hu hp h2 fun s1 h3 => ?_
  rw [List.drop_zero] at h3
  have h4 : Holds o s1 ((s.next, some (.cells [I g.size, I g.life, pgV g.pgk g.pages.length, I g.fill, rowV g.obk g.objs.length] none)) :: (hr.rowk, some hr.row) :: (hr.id, some (hr.hd p)) :: (poolG gr p r (freeP u g.pages) ++ (hr.regs.flatMap RReg.ch ++ F))) := (Holds.of (h3) (fun k => by simp +arith only [HA, HB]) (fun k x => by simp only [HA, HC]; grind only))
  have f := h4.f3
  simp only [RHeap.hd] at f
  have hset := rset5 hre { g with pgk := 0, fill := 0, pages := [], objs := [] }
  simp only [RReg.enc, List.length_nil, rowV_zero, pgV_zero, Int.natCast_zero] at hset
  simp -implicitDefEqProofs only [↓GP, GB, GL, Nat.reduceAdd, Nat.reduceSub, Nat.reduceEqDiff, Nat.reduceMul, Nat.reduceLeDiff, Int.reduceBNe, Int.reduceBEq, Nat.reduceLT, reduceCtorEq, f, rreg hg, hset]
  refine q _ (Holds.of (h4.set1 _) (fun k => by simp +arith only [RHeap.hd, RHeap.rv, RHeap.row, hre, List.length_append, List.length_cons, HA, HB]) (fun k x => by simp only [RHeap.hd, RHeap.rv, RHeap.row, hre, List.length_append, List.length_cons, HA, HC]; grind only))
theorem s61_one (hC : Holds o s C) {hr : RHeap} {p : Nat} (hin : RIn C p hr) (h1 : hr.regs.length = 1) : call PF 61 [ptrN hr.id] s = some (.tuple [I 0, I 5], s) := by
  have e := s87 hC hin (List.length_pos_iff.1 (by omega))
  have f := hC.mem hin.id
  simp only [RHeap.hd] at f
  have w : wrapI .i64 (((1 : Nat) : Int) - 1) = I 0 := by rw [wrap64 (by omega) (by omega)]; rfl
  have w' : wrapI .i64 ((1 : Int) - 1) = I 0 := by rw [wrap64 (by omega) (by omega)]; rfl
  rw [call_run F61]; simp -implicitDefEqProofs only [↓GP, GB, GL, Nat.reduceAdd, Nat.reduceSub, Nat.reduceEqDiff, Nat.reduceMul, Nat.reduceLeDiff, Int.reduceBNe, Int.reduceBEq, Nat.reduceLT, reduceCtorEq, c61, e, f, hr.rv_len, h1, w, w', Int.cast_ofNat_Int]
theorem s61 {hr : RHeap} {p r : Nat} {u : List Bool} {A : List RReg} {g : RReg} (H : Holds o s (poolC p r u ++ (hr.ch p ++ F))) (hre : hr.regs = A ++ [g]) (hA : A ≠ []) (hgr : hr.grown = true) (hlen : hr.regs.length ≤ 100000) (hu : u.length ≤ 400)
    (hp : ∀ x ∈ g.pages, x < u.length) (hpl : g.pages.length ≤ 400)
    (q : ∀ s' sl, (∃ j, sl.length = hr.sl.length + j * 5) → Holds o s' (poolC p r (freeP u g.pages) ++ (({ hr with regs := A, sl := sl } : RHeap).ch p ++ F)) → Q (.tuple [I g.pages.length, I 0]) s') : WP (call PF 61 [ptrN hr.id] s) Q := by
  have hin : RIn (poolC p r u ++ (hr.ch p ++ F)) p hr := ⟨fun x hx => List.mem_append_right _ (List.mem_append_left _ hx)⟩
  have e := s87 H hin (by rw [hre]; simp)
  have f := H.mem hin.id
  have hrl : hr.regs.length = A.length + 1 := by rw [hre]; simp
  have hApos : 0 < A.length := List.length_pos_iff.2 hA
  simp only [RHeap.hd] at f
  have hw : wrapI .i64 (((A.length + 1 : Nat) : Int) - 1) = I (A.length : Nat) := by rw [wrap_sub1 (by omega) (by omega)]; rfl
  have hne : ((A.length : Int) == 0) = false := by rw [beq_eq_false_iff_ne]; omega
  rw [call_run F61]; simp -implicitDefEqProofs only [↓GP, GB, GL, Nat.reduceAdd, Nat.reduceSub, Nat.reduceEqDiff, Nat.reduceMul, Nat.reduceLeDiff, Int.reduceBNe, Int.reduceBEq, Nat.reduceLT, reduceCtorEq, c61, e, f, hr.rv_len, hrl, hw, hne]
  refine wp_in (s88 (gr := false) (g := g) (B := []) (A := A) H hre hu hp hpl fun s1 h1 => ?_)
  have hrv : RHeap.rv { hr with regs := A ++ [{ g with pgk := 0, fill := 0, pages := [], objs := [] }] } = rowV hr.rowk (A.length + 1) := by unfold RHeap.rv; simp [hgr]
  have h2 : Holds o s1 ((hr.id, some (.cells [ptrN p, rowV hr.rowk (A.length + 1), I hr.lives] none)) :: (poolC p r (freeP u g.pages) ++ ((hr.rowk, some (.cells (A.flatMap RReg.enc ++ ([I g.size, I g.life, .slice none 0 (some 0), I 0, .slice none 0 (some 0)] ++ hr.sl)) (some 5))) :: (A.flatMap RReg.ch ++ F)))) :=
    (Holds.of (h1) (fun k => by simp +arith only [RHeap.hd, hrv, RHeap.row, RReg.enc, hgr, if_true, List.length_nil, rowV_zero, pgV_zero, Int.natCast_zero, HA, HB]) (fun k x => by simp only [RHeap.hd, hrv, RHeap.row, RReg.enc, hgr, if_true, List.length_nil, rowV_zero, pgV_zero, Int.natCast_zero, HA, HC]; grind only))
  have f := h2.f1
  simp -implicitDefEqProofs only [↓GP, GB, GL, Nat.reduceAdd, Nat.reduceSub, Nat.reduceEqDiff, Nat.reduceMul, Nat.reduceLeDiff, Int.reduceBNe, Int.reduceBEq, Nat.reduceLT, reduceCtorEq, f, slice_row hApos (show A.length ≤ A.length + 1 by omega), Option.map_none]
  refine q _ ([I g.size, I g.life, .slice none 0 (some 0), I 0, .slice none 0 (some 0)] ++ hr.sl) ⟨1, by simp only [List.length_append, List.length_cons, List.length_nil]; omega⟩ (Holds.of (h2.set0 (.cells [ptrN p, rowV hr.rowk A.length, I hr.lives] none)) (fun k => by simp +arith only [RHeap.hd, RHeap.rv, RHeap.row, hgr, if_true, HA, HB]) (fun k x => by simp only [RHeap.hd, RHeap.rv, RHeap.row, hgr, if_true, HA, HC]; grind only))
theorem s62_err (hC : Holds o s C) {hv : V} {n err : Int} (e : RAtErr C hv n err) : call PF 62 [hv, I n] s = some (.tuple [I 0, I err], s) := by
  rcases e with ⟨g, rfl⟩ | ⟨rfl, hr, p, rfl, hin, h0, hb⟩
  · have e := s87_gone hC g
    rw [call_run F62]; simp -implicitDefEqProofs only [↓GP, GB, GL, Nat.reduceAdd, Nat.reduceSub, Nat.reduceEqDiff, Nat.reduceMul, Nat.reduceLeDiff, Int.reduceBNe, Int.reduceBEq, Nat.reduceLT, reduceCtorEq, c62, e]
  · have e := s87 hC hin h0
    have e2 := s106 hC hin n
    rw [is_false hb] at e2
    rw [call_run F62]; simp -implicitDefEqProofs only [↓GP, GB, GL, Nat.reduceAdd, Nat.reduceSub, Nat.reduceEqDiff, Nat.reduceMul, Nat.reduceLeDiff, Int.reduceBNe, Int.reduceBEq, Nat.reduceLT, reduceCtorEq, c62, e, e2]
theorem s62_full (hC : Holds o s C) {hr : RHeap} {p i : Nat} (hin : RIn C p hr) (hi : i < hr.regs.length) (hl : 100000 ≤ hr.lives) : call PF 62 [ptrN hr.id, I i] s = some (.tuple [I 0, I 4], s) := by
  have e := s87 hC hin (List.length_pos_iff.1 (by omega))
  have e2 := s106 hC hin i
  rw [is_true hi] at e2
  have f := hC.mem hin.id
  simp only [RHeap.hd] at f
  have h3 : ((hr.lives : Int) ≥ 100000) := by omega
  rw [call_run F62]; simp -implicitDefEqProofs only [↓GP, GB, GL, Nat.reduceAdd, Nat.reduceSub, Nat.reduceEqDiff, Nat.reduceMul, Nat.reduceLeDiff, Int.reduceBNe, Int.reduceBEq, Nat.reduceLT, reduceCtorEq, c62, e, e2, f, h3]
theorem s62 {hr : RHeap} {p r : Nat} {u : List Bool} {A B : List RReg} {g : RReg} (H : Holds o s (poolC p r u ++ (hr.ch p ++ F))) (hre : hr.regs = A ++ g :: B) (hlen : hr.regs.length ≤ 100000) (hl : hr.lives < 100000) (hu : u.length ≤ 400) (hp : ∀ x ∈ g.pages, x < u.length) (hpl : g.pages.length ≤ 400)
    (q : ∀ s', Holds o s' (poolC p r (freeP u g.pages) ++ (({ hr with lives := hr.lives + 1, regs := A ++ { g with life := hr.lives + 1, pgk := 0, fill := 0, pages := [], objs := [] } :: B } : RHeap).ch p ++ F)) → Q (.tuple [I (hr.lives + 1 : Nat), I 0]) s') : WP (call PF 62 [ptrN hr.id, I A.length] s) Q := by
  have hin : RIn (poolC p r u ++ (hr.ch p ++ F)) p hr := ⟨fun x hx => List.mem_append_right _ (List.mem_append_left _ hx)⟩
  have hi : A.length < hr.regs.length := by rw [hre]; simp
  have e := s87 H hin (by rw [hre]; simp)
  have e2 := s106 H hin A.length
  rw [is_true hi] at e2
  have f := H.mem hin.id
  simp only [RHeap.hd] at f
  have h3 : ¬ ((hr.lives : Int) ≥ 100000) := by omega
  have w1 := wrap_add1 (a := hr.lives) (by omega)
  rw [call_run F62]; simp -implicitDefEqProofs only [↓GP, GB, GL, Nat.reduceAdd, Nat.reduceSub, Nat.reduceEqDiff, Nat.reduceMul, Nat.reduceLeDiff, Int.reduceBNe, Int.reduceBEq, Nat.reduceLT, reduceCtorEq, c62, e, e2, f, h3]
  refine wp_in (s88 (gr := false) (g := g) (A := A) (B := B) H hre hu hp hpl fun s1 h1 => ?_)
  have hre' : ({ hr with regs := A ++ { g with pgk := 0, fill := 0, pages := [], objs := [] } :: B } : RHeap).regs = A ++ { g with pgk := 0, fill := 0, pages := [], objs := [] } :: B := rfl
  have h2 : Holds o s1 ((hr.id, some (.cells [ptrN p, RHeap.rv { hr with regs := A ++ { g with pgk := 0, fill := 0, pages := [], objs := [] } :: B }, I hr.lives] none)) :: (hr.rowk, some (RHeap.row { hr with regs := A ++ { g with pgk := 0, fill := 0, pages := [], objs := [] } :: B })) :: (poolC p r (freeP u g.pages) ++ (A.flatMap RReg.ch ++ (B.flatMap RReg.ch ++ F)))) :=
    (Holds.of (h1) (fun k => by simp +arith only [RHeap.hd, HA, HB]) (fun k x => by simp only [RHeap.hd, HA, HC]; grind only))
  have hset := rset1 hre' (f := 1) (v := I (hr.lives + 1 : Nat)) (by omega) rfl (g' := { g with life := hr.lives + 1, pgk := 0, fill := 0, pages := [], objs := [] }) rfl
  have hrr := rreg (h := { hr with regs := A ++ { g with pgk := 0, fill := 0, pages := [], objs := [] } :: B }) (i := A.length) (g := { g with pgk := 0, fill := 0, pages := [], objs := [] }) (by simp)
  have f := h2.f2
  simp -implicitDefEqProofs only [↓GP, GB, GL, Nat.reduceAdd, Nat.reduceSub, Nat.reduceEqDiff, Nat.reduceMul, Nat.reduceLeDiff, Int.reduceBNe, Int.reduceBEq, Nat.reduceLT, reduceCtorEq, f, w1, hset, hrr]
  refine q _ (Holds.of ((h2.set0 (.cells [ptrN p, RHeap.rv { hr with regs := A ++ { g with pgk := 0, fill := 0, pages := [], objs := [] } :: B }, I (hr.lives + 1 : Nat)] none)).set1 (RHeap.row { hr with regs := A ++ { g with life := hr.lives + 1, pgk := 0, fill := 0, pages := [], objs := [] } :: B })) (fun k => by simp +arith only [RHeap.hd, RHeap.rv, RHeap.row, List.length_append, List.length_cons, HA, HB]) (fun k x => by simp only [RHeap.hd, RHeap.rv, RHeap.row, List.length_append, List.length_cons, HA, HC]; grind only))
end
end Go.Proofs.Ytoldkemimhebaaa

set_option linter.unusedSimpArgs false
set_option linter.unusedVariables false
namespace Go.Proofs.Ytoldkemimhebaaa
open Go Go.IM
def j117_bbb : IC := (.seq (.region [oa 42 (.fieldAddr 2 (.t 7)), oa 43 (.load none (.t 42)), oa 44 (.fieldAddr 2 (.t 7)), oa 45 (.load none (.t 44)), oa 46 (.lenSlice (.t 45)), oa 47 (.bin .sub (.t 46) (ai 1)), oa 48 (.indexAddr 1 (.t 43) (.t 47)), oa 49 (.load none (.t 48)), oa 50 (.bin .mul (.t 49) (ai 32)), oa 51 (.fieldAddr 3 (.t 7)), oa 52 (.load none (.t 51)), oa 53 (.bin .add (.t 50) (.t 52)), oa 9 (.mov (.t 53))] (kp 67 [0,1,2,7,9]))
  (.seq (.region [oa 54 (.fieldAddr 3 (.t 7)), oa 55 (.load none (.t 54)), oa 56 (.mov (.t 2)), oa 57 (.bin .add (.t 55) (.t 56)), oa 58 (.fieldAddr 3 (.t 7)), ob (.store 1 (.t 58) (.t 57))] (kp 67 [0,1,7,9]))
  (.seq (.region [oa 59 (.mov (.t 0)), oa 60 (.nilCheck (.t 59)), oa 61 (.fieldAddr 1 (.t 60)), oa 62 (.load none (.t 61)), oa 63 (.mov (.t 1)), oa 64 (.load (some 5) (.t 7)), oa 65 (.indexAddr 5 (.t 62) (.t 63)), ob (.store 5 (.t 65) (.t 64))] (kp 67 [9]))
  (.seq (.region [oa 66 (.mov (.t 9)), oa 6 (.mov (.t 66))] (kp 67 [6]))
  (sr 67 [6])))))
def c117 : IFn := ⟨67, [(6, none)],
  (.seq (.region [oa 6 (.mov (ai 0))] (kp 67 [0,1,2]))
  (.seq (.region [oa 10 (.mov (.t 0)), oa 11 (.nilCheck (.t 10)), oa 12 (.fieldAddr 1 (.t 11)), oa 13 (.load none (.t 12)), oa 14 (.mov (.t 1)), oa 15 (.indexAddr 5 (.t 13) (.t 14)), oa 16 (.load (some 5) (.t 15)), oa 7 (.alloc [(.int .i64 (0)), (.int .i64 (0)), (.slice none 0 (some 0)), (.int .i64 (0)), (.slice none 0 (some 0))]), ob (.store 5 (.t 7) (.t 16))] (kp 67 [0,1,2,7]))
  (.seq (.seq (.region [oa 17 (.fieldAddr 2 (.t 7)), oa 18 (.load none (.t 17)), oa 19 (.lenSlice (.t 18)), oa 20 (.bin .eql (.t 19) (ai 0)), oa 21 (.mov (.t 20)), oc 22 (.fieldAddr 3 (.t 7)) 21 ff, oc 23 (.load none (.t 22)) 21 ff, oc 24 (.mov (.t 2)) 21 ff, oc 25 (.bin .add (.t 23) (.t 24)) 21 ff, oc 26 (.bin .gtr (.t 25) (ai 32)) 21 ff, oa 27 (.pick (.t 21) (.c (.bool true)) (.t 26))] (kp 67 [0,1,2,7,27]))
  (.cond (.t 27)
  (.seq (.region [oa 28 (.mov (.t 0)), oa 29 (.nilCheck (.t 28)), oa 30 (.fieldAddr 0 (.t 29)), oa 31 (.load none (.t 30)), oa 32 (.call 121 [(.t 31)]), oa 8 (.mov (.t 32))] (kp 67 [0,1,2,7,8]))
  (.seq (.seq (.region [oa 33 (.mov (.t 8)), oa 34 (.bin .lss (.t 33) (ai 0))] (kp 67 [0,1,2,7,8,34]))
  (.cond (.t 34)
  (.seq (.region [oa 6 (.mov (ai (-1)))] (kp 67 [6]))
  (sr 67 [6]))
  (sk 67 [0,1,2,7,8])))
  (.seq (.region [oa 35 (.fieldAddr 2 (.t 7)), oa 36 (.load none (.t 35)), oa 37 (.mov (.t 8)), oa 38 (.buildSlice 1 [(.int .i64 (0))] [(0, 1, (.t 37))]), oa 39 (.append 1 8 (.t 36) (.t 38)), oa 40 (.fieldAddr 2 (.t 7)), ob (.store 1 (.t 40) (.t 39))] (kp 67 [0,1,2,7]))
  (.region [oa 41 (.fieldAddr 3 (.t 7)), ob (.store 1 (.t 41) (ai 0))] (kp 67 [0,1,2,7])))))
  (sk 67 [0,1,2,7])))
  j117_bbb)))⟩
theorem F117 : shutF Try.prog 117 = some c117 := by kernel_rfl
def j107_bbbbbb : IC := (.seq (.region [oa 68 (.mov (.t 0)), oa 69 (.nilCheck (.t 68)), oa 70 (.fieldAddr 1 (.t 69)), oa 71 (.load none (.t 70)), oa 72 (.mov (.t 1)), oa 73 (.mov (.t 0)), oa 74 (.nilCheck (.t 73)), oa 75 (.fieldAddr 1 (.t 74)), oa 76 (.load none (.t 75)), oa 77 (.mov (.t 1)), oa 78 (.indexAddr 5 (.t 76) (.t 77)), oa 79 (.fieldAddr 4 (.t 78)), oa 80 (.load none (.t 79)), oa 81 (.mov (.t 11)), oa 82 (.mov (.t 2)), oa 83 (.mov (.t 3)), oa 84 (.mkSlice 16 [(.int .i64 (0)), (.int .i64 (0))] (.t 83) (.t 83)), oa 85 (.build [(.int .i64 (0)), (.int .i64 (0)), (.slice none 0 (some 0))] [(0, 1, (.t 81)), (1, 1, (.t 82)), (2, 1, (.t 84))]), oa 86 (.buildSlice 1 [(.int .i64 (0)), (.int .i64 (0)), (.slice none 0 (some 0))] [(0, 3, (.t 85))]), oa 87 (.append 3 40 (.t 80) (.t 86)), ob (.again 71 (.load none (.t 70))), oa 88 (.indexAddr 5 (.t 71) (.t 72)), oa 89 (.fieldAddr 4 (.t 88)), ob (.store 1 (.t 89) (.t 87))] (kp 94 [8,10,11]))
  (.seq (.region [oa 90 (.mov (.t 11)), oa 91 (.fieldAddr 1 (.t 10)), oa 92 (.load none (.t 91)), oa 93 (.build [(.int .i64 (0)), (.int .i64 (0))] [(0, 1, (.t 90)), (1, 1, (.t 92))]), ob (.store 2 (.t 8) (.t 93)), oa 9 (.mov (ai 0))] (kp 94 [8,9]))
  (sr 94 [8,9])))
def c107 : IFn := ⟨94, [(8, (some (some 2))), (9, none)],
  (.seq (.region [oa 8 (.alloc [(.int .i64 (0)), (.int .i64 (0))]), oa 9 (.mov (ai 0))] (kp 94 [0,1,2,3,8]))
  (.seq (.seq (.region [oa 12 (.mov (.t 0)), oa 13 (.call 87 [(.t 12)])] (kp 94 [0,1,2,3,8,13]))
  (.cond (.t 13)
  (.seq (.region [oa 14 (.build [(.int .i64 (0)), (.int .i64 (0))] []), ob (.store 2 (.t 8) (.t 14)), oa 9 (.mov (ai 6))] (kp 94 [8,9]))
  (sr 94 [8,9]))
  (sk 94 [0,1,2,3,8])))
  (.seq (.seq (.region [oa 15 (.mov (.t 0)), oa 16 (.mov (.t 1)), oa 17 (.call 106 [(.t 15), (.t 16)]), oa 18 (.un .not (.t 17)), oa 19 (.mov (.t 18)), oc 20 (.mov (.t 2)) 19 ff, oc 21 (.bin .lss (.t 20) (ai 1)) 19 ff, oa 22 (.pick (.t 19) (.c (.bool true)) (.t 21)), oa 23 (.mov (.t 22)), oc 24 (.mov (.t 2)) 23 ff, oc 25 (.bin .gtr (.t 24) (ai 255)) 23 ff, oa 26 (.pick (.t 23) (.c (.bool true)) (.t 25)), oa 27 (.mov (.t 26)), oc 28 (.mov (.t 3)) 27 ff, oc 29 (.bin .lss (.t 28) (ai 1)) 27 ff, oa 30 (.pick (.t 27) (.c (.bool true)) (.t 29)), oa 31 (.mov (.t 30)), oc 32 (.mov (.t 3)) 31 ff, oc 33 (.bin .gtr (.t 32) (ai 31)) 31 ff, oa 34 (.pick (.t 31) (.c (.bool true)) (.t 33))] (kp 94 [0,1,2,3,8,34]))
  (.cond (.t 34)
  (.seq (.region [oa 35 (.build [(.int .i64 (0)), (.int .i64 (0))] []), ob (.store 2 (.t 8) (.t 35)), oa 9 (.mov (ai 2))] (kp 94 [8,9]))
  (sr 94 [8,9]))
  (sk 94 [0,1,2,3,8])))
  (.seq (.region [oa 36 (.mov (.t 0)), oa 37 (.nilCheck (.t 36)), oa 38 (.fieldAddr 1 (.t 37)), oa 39 (.load none (.t 38)), oa 40 (.mov (.t 1)), oa 41 (.indexAddr 5 (.t 39) (.t 40)), oa 42 (.load (some 5) (.t 41)), oa 10 (.alloc [(.int .i64 (0)), (.int .i64 (0)), (.slice none 0 (some 0)), (.int .i64 (0)), (.slice none 0 (some 0))]), ob (.store 5 (.t 10) (.t 42))] (kp 94 [0,1,2,3,8,10]))
  (.seq (.region [oa 43 (.fieldAddr 1 (.t 10)), oa 44 (.load none (.t 43)), oa 45 (.bin .add (ai 1000000) (.t 44)), oa 11 (.mov (.t 45))] (kp 94 [0,1,2,3,8,10,11]))
  (.seq (.seq (.region [oa 46 (.fieldAddr 0 (.t 10)), oa 47 (.load none (.t 46)), oa 48 (.bin .gtr (.t 47) (ai 0))] (kp 94 [0,1,2,3,8,10,11,48]))
  (.cond (.t 48)
  (.seq (.region [oa 49 (.mov (.t 3)), oa 50 (.fieldAddr 0 (.t 10)), oa 51 (.load none (.t 50)), oa 52 (.bin .gtr (.t 49) (.t 51)), oa 53 (.mov (.t 52)), oc 54 (.fieldAddr 4 (.t 10)) 53 ff, oc 55 (.load none (.t 54)) 53 ff, oc 56 (.lenSlice (.t 55)) 53 ff, oc 57 (.bin .gtr (.t 56) (ai 0)) 53 ff, oa 58 (.pick (.t 53) (.c (.bool true)) (.t 57))] (kp 94 [0,1,2,3,8,10,11,58]))
  (.cond (.t 58)
  (.seq (.region [oa 59 (.build [(.int .i64 (0)), (.int .i64 (0))] []), ob (.store 2 (.t 8) (.t 59)), oa 9 (.mov (ai 2))] (kp 94 [8,9]))
  (sr 94 [8,9]))
  (sk 94 [0,1,2,3,8,10,11])))
  (.seq (.region [oa 60 (.mov (.t 0)), oa 61 (.mov (.t 1)), oa 62 (.mov (.t 3)), oa 63 (.bin .add (.t 62) (ai 1)), oa 64 (.call 117 [(.t 60), (.t 61), (.t 63)]), oa 11 (.mov (.t 64))] (kp 94 [0,1,2,3,8,10,11]))
  (.seq (.region [oa 65 (.mov (.t 11)), oa 66 (.bin .lss (.t 65) (ai 0))] (kp 94 [0,1,2,3,8,10,11,66]))
  (.cond (.t 66)
  (.seq (.region [oa 67 (.build [(.int .i64 (0)), (.int .i64 (0))] []), ob (.store 2 (.t 8) (.t 67)), oa 9 (.mov (ai 81))] (kp 94 [8,9]))
  (sr 94 [8,9]))
  (sk 94 [0,1,2,3,8,10,11]))))))
  j107_bbbbbb))))))⟩
theorem F107 : shutF Try.prog 107 = some c107 := by kernel_rfl
def c66 : IFn := ⟨68, [(8, none)],
  (.seq (.region [oa 5 (.box (.t 1)), oa 7 (.box (.t 3)), oa 8 (.mov (ai 0))] (kp 68 [0,2,5,7]))
  (.seq (.seq (.region [oa 11 (.mov (.t 0)), oa 12 (.call 87 [(.t 11)])] (kp 68 [0,2,5,7,12]))
  (.cond (.t 12)
  (.seq (.region [oa 8 (.mov (ai 6))] (kp 68 [8]))
  (sr 68 [8]))
  (sk 68 [0,2,5,7])))
  (.seq (.seq (.region [oa 13 (.fieldAddr 1 (.t 5)), oa 14 (.load none (.t 13)), oa 15 (.bin .lss (.t 14) (ai 1)), oa 16 (.mov (.t 15)), oc 17 (.fieldAddr 1 (.t 7)) 16 ff, oc 18 (.load none (.t 17)) 16 ff, oc 19 (.bin .lss (.t 18) (ai 0)) 16 ff, oa 20 (.pick (.t 16) (.c (.bool true)) (.t 19)), oa 21 (.mov (.t 20)), oc 22 (.fieldAddr 1 (.t 7)) 21 ff, oc 23 (.load none (.t 22)) 21 ff, oc 24 (.bin .gtr (.t 23) (ai 100000)) 21 ff, oa 25 (.pick (.t 21) (.c (.bool true)) (.t 24))] (kp 68 [0,2,5,7,25]))
  (.cond (.t 25)
  (.seq (.region [oa 8 (.mov (ai 2))] (kp 68 [8]))
  (sr 68 [8]))
  (sk 68 [0,2,5,7])))
  (.seq (.region [oa 27 (.mov (.t 0)), oa 28 (.load (some 2) (.t 5)), oa 29 (.call 103 [(.t 27), (.t 28)]), oa 26 (.mov (.t 29)), oa 30 (.extract (.t 26) 0), oa 31 (.extract (.t 26) 1), oa 9 (.mov (.t 30)), oa 10 (.mov (.t 31))] (kp 68 [0,2,7,9,10]))
  (.seq (.seq (.region [oa 32 (.mov (.t 9)), oa 33 (.bin .lss (.t 32) (ai 0))] (kp 68 [0,2,7,9,10,33]))
  (.cond (.t 33)
  (.seq (.region [oa 8 (.mov (ai 80))] (kp 68 [8]))
  (sr 68 [8]))
  (sk 68 [0,2,7,9,10])))
  (.seq (.seq (.region [oa 34 (.mov (.t 2)), oa 35 (.bin .lss (.t 34) (ai 0)), oa 36 (.mov (.t 35)), oc 37 (.mov (.t 2)) 36 ff, oc 38 (.mov (.t 0)) 36 ff, oc 39 (.nilCheck (.t 38)) 36 ff, oc 40 (.fieldAddr 1 (.t 39)) 36 ff, oc 41 (.load none (.t 40)) 36 ff, oc 42 (.mov (.t 9)) 36 ff, oc 43 (.indexAddr 5 (.t 41) (.t 42)) 36 ff, oc 44 (.fieldAddr 4 (.t 43)) 36 ff, oc 45 (.load none (.t 44)) 36 ff, oc 46 (.mov (.t 10)) 36 ff, oc 47 (.indexAddr 3 (.t 45) (.t 46)) 36 ff, oc 48 (.fieldAddr 2 (.t 47)) 36 ff, oc 49 (.load none (.t 48)) 36 ff, oc 50 (.lenSlice (.t 49)) 36 ff, oc 51 (.bin .geq (.t 37) (.t 50)) 36 ff, oa 52 (.pick (.t 36) (.c (.bool true)) (.t 51))] (kp 68 [0,2,7,9,10,52]))
  (.cond (.t 52)
  (.seq (.region [oa 8 (.mov (ai 2))] (kp 68 [8]))
  (sr 68 [8]))
  (sk 68 [0,2,7,9,10])))
  (.seq (.region [oa 53 (.mov (.t 0)), oa 54 (.nilCheck (.t 53)), oa 55 (.fieldAddr 1 (.t 54)), oa 56 (.load none (.t 55)), oa 57 (.mov (.t 9)), oa 58 (.indexAddr 5 (.t 56) (.t 57)), oa 59 (.fieldAddr 4 (.t 58)), oa 60 (.load none (.t 59)), oa 61 (.mov (.t 10)), oa 62 (.indexAddr 3 (.t 60) (.t 61)), oa 63 (.fieldAddr 2 (.t 62)), oa 64 (.load none (.t 63)), oa 65 (.mov (.t 2)), oa 66 (.load (some 2) (.t 7)), oa 67 (.indexAddr 2 (.t 64) (.t 65)), ob (.store 2 (.t 67) (.t 66))] (kp 68 []))
  (.seq (.region [oa 8 (.mov (ai 0))] (kp 68 [8]))
  (sr 68 [8])))))))))⟩
theorem F66 : shutF Try.prog 66 = some c66 := by kernel_rfl
section
variable {o : Nat → Option O} {s : St} {C F : Ch} {Q : V → St → Prop}
set_option maxRecDepth 10000
set_option maxHeartbeats 4000000
def RReg.O (g : RReg) : O := .cells g.enc none
theorem place_tail {v27 : V} {hr : RHeap} {p pg : Nat} {A B : List RReg} {g0 g : RReg} {t need : Nat} (hre : hr.regs = A ++ g0 :: B)
    (H : Holds o s ((t, some g.O) :: (hr.id, some (hr.hd p)) :: (hr.rowk, some hr.row) :: (g.pgk, pagesO g.pages) :: F)) (hpg : g.pages.getLast? = some pg) (hpg' : pg < 400) (hpl : g.pages.length ≤ 500) (hf : g.fill ≤ 32) (hn : need ≤ 32)
    (q : ∀ s', Holds o s' ((hr.id, some (RHeap.hd p { hr with regs := A ++ { g with fill := g.fill + need } :: B })) :: (hr.rowk, some (RHeap.row { hr with regs := A ++ { g with fill := g.fill + need } :: B })) :: (g.pgk, pagesO g.pages) :: F) → Q (I (pg * 32 + g.fill : Nat)) s') :
    WP (go (loop PF) (call PF) j117_bbb (sp 67 [(0, ptrN hr.id), (1, I A.length), (2, I need), (7, ptrN t), (27, v27)]) s (finR [(6, none)])) Q := by
  have hpos : 0 < g.pages.length := by
    cases hp : g.pages with
    | nil => rw [hp] at hpg; simp at hpg
    | cons a l => simp
  have f := H.f3
  have fp : s.new g.pgk = some (.cells (g.pages.map fun n : Nat => I n) (some 1)) ∧ g.pgk < s.next := by
    have h5 := H.tl.tl.tl
    unfold pagesO at h5
    rw [rowO_pos hpos] at h5
    exact h5.f1
  have fne : g.pgk ≠ t := by
    have h5 := H.r3
    unfold pagesO at h5
    rw [rowO_pos hpos] at h5
    exact h5.f2.2.2.1
  simp only [RReg.O, RReg.enc, RHeap.hd] at f
  have w3 := wrap_sub1 (a := g.pages.length) (by omega) hpos
  have w4 : wrapI .i64 ((pg : Int) * 32) = I ((pg * 32 : Nat) : Int) := wrap_nat (by omega) (by omega)
  have w5 : wrapI .i64 (((pg * 32 : Nat) : Int) + (g.fill : Int)) = I ((pg * 32 + g.fill : Nat) : Int) := wrap_add (by omega) (by omega)
  have w6 : wrapI .i64 ((g.fill : Int) + (need : Int)) = I ((g.fill + need : Nat) : Int) := wrap_add (by omega) (by omega)
  have hgl : (g.pages.map fun n : Nat => I n)[g.pages.length - 1]? = some (I pg) := by
    rw [List.getLast?_eq_getElem?] at hpg
    rw [List.getElem?_map, hpg]; rfl
  have hset := rset5 hre { g with fill := g.fill + need }
  simp only [RReg.enc] at hset
  have hg : hr.regs[A.length]? = some g0 := by rw [hre]; simp
  simp -implicitDefEqProofs only [↓GP, GB, GL, Nat.reduceAdd, Nat.reduceSub, Nat.reduceEqDiff, Nat.reduceMul, Nat.reduceLeDiff, Int.reduceBNe, Int.reduceBEq, Nat.reduceLT, reduceCtorEq, j117_bbb, f, fp, fne, w3, w4, w5, w6, hgl, ix_pg (show g.pages.length - 1 < g.pages.length by omega), (rreg hg).1, hset]
  refine q _ (Holds.of (((H.set0 (.cells [I g.size, I g.life, pgV g.pgk g.pages.length, I (g.fill + need : Nat), rowV g.obk g.objs.length] none)).set2 (RHeap.row { hr with regs := A ++ { g with fill := g.fill + need } :: B })).tl) (fun k => by simp +arith only [RHeap.hd, RHeap.rv, hre, List.length_append, List.length_cons, HA, HB]) (fun k x => by simp only [RHeap.hd, RHeap.rv, hre, List.length_append, List.length_cons, HA, HC]; grind only))
theorem s117_none {gr : Bool} {hr : RHeap} {p r need : Nat} {u : List Bool} {A B : List RReg} {g : RReg} (H : Holds o s (poolG gr p r u ++ (hr.ch p ++ F))) (hre : hr.regs = A ++ g :: B) (hu : u.length ≤ 400) (hb : RegB u.length g.size g.life g.fill g.pages) (hn : need ≤ 32)
    (hput : putM u 0 g.life g.fill g.pages need = none) (q : ∀ s', Holds o s' (poolG gr p r u ++ (hr.ch p ++ F)) → Q (I (-1)) s') : WP (call PF 117 [ptrN hr.id, I A.length, I need] s) Q := by
  have hin : RIn (poolG gr p r u ++ (hr.ch p ++ F)) p hr := ⟨fun x hx => List.mem_append_right _ (List.mem_append_left _ hx)⟩
  have f := H.mem hin.id
  have fr := H.mem hin.row
  simp only [RHeap.hd] at f
  have hg : hr.regs[A.length]? = some g := by rw [hre]; simp
  have h1 := (H.alloc (.cells [I 0, I 0, .slice none 0 (some 0), I 0, .slice none 0 (some 0)] none)).set0 (.cells [I g.size, I g.life, pgV g.pgk g.pages.length, I g.fill, rowV g.obk g.objs.length] none)
  have h2 : Holds o ((s.alloc (.cells [I 0, I 0, .slice none 0 (some 0), I 0, .slice none 0 (some 0)] none)).set s.next (.cells [I g.size, I g.life, pgV g.pgk g.pages.length, I g.fill, rowV g.obk g.objs.length] none)) (poolG gr p r u ++ ((s.next, some (.cells [I g.size, I g.life, pgV g.pgk g.pages.length, I g.fill, rowV g.obk g.objs.length] none)) :: (hr.ch p ++ F))) := (Holds.of (h1) (fun k => by simp +arith only [HA, HB]) (fun k x => by simp only [HA, HC]; grind only))
  have hf := hb.fill
  have w1 : wrapI .i64 ((g.fill : Int) + (need : Int)) = I ((g.fill + need : Nat) : Int) := wrap_add (by omega) (by omega)
  have ht : takeP u = none ∧ (g.pages.length = 0 ∨ ¬ g.fill + need ≤ 32) := by
    unfold putM at hput
    rw [if_neg (by omega)] at hput
    split at hput
    · split at hput
      · cases hput
      · rename_i h; exact ⟨by simpa using hput, .inr h⟩
    · rename_i h; exact ⟨by simpa using hput, .inl (by rw [List.getLast?_eq_none_iff.1 h]; rfl)⟩
  have fin : ∀ s', Holds o s' (poolG gr p r u ++ ((s.next, some (.cells [I g.size, I g.life, pgV g.pgk g.pages.length, I g.fill, rowV g.obk g.objs.length] none)) :: (hr.ch p ++ F))) → Q (I (-1)) s' := fun s' h => q s' (Holds.of (h) (fun k => by simp +arith only [HA, HB]) (fun k x => by simp only [HA, HC]; grind only))
  by_cases h0 : g.pages.length = 0
  · have e0 : ((g.pages.length : Int) == 0) = true := by rw [h0]; rfl
    rw [call_run F117]; simp -implicitDefEqProofs only [↓GP, GB, GL, Nat.reduceAdd, Nat.reduceSub, Nat.reduceEqDiff, Nat.reduceMul, Nat.reduceLeDiff, Int.reduceBNe, Int.reduceBEq, Nat.reduceLT, reduceCtorEq, c117, f, fr, rreg hg, RReg.enc, e0]
    refine wp_in (s121 h2 hu (fun _ s1 h3 => ?_) fun n hn => by rw [ht.1] at hn; cases hn)
    simp -implicitDefEqProofs only [↓GP, GB, GL, Nat.reduceAdd, Nat.reduceSub, Nat.reduceEqDiff, Nat.reduceMul, Nat.reduceLeDiff, Int.reduceBNe, Int.reduceBEq, Nat.reduceLT, reduceCtorEq, Int.reduceNeg, Int.reduceLT]
    exact fin _ h3
  · have e0 : ((g.pages.length : Int) == 0) = false := by rw [beq_eq_false_iff_ne]; omega
    have e1 : (((g.fill + need : Nat) : Int) > 32) := by have := ht.2; omega
    rw [call_run F117]; simp -implicitDefEqProofs only [↓GP, GB, GL, Nat.reduceAdd, Nat.reduceSub, Nat.reduceEqDiff, Nat.reduceMul, Nat.reduceLeDiff, Int.reduceBNe, Int.reduceBEq, Nat.reduceLT, reduceCtorEq, c117, f, fr, rreg hg, RReg.enc, e0, w1, e1]
    refine wp_in (s121 h2 hu (fun _ s1 h3 => ?_) fun n hn => by rw [ht.1] at hn; cases hn)
    simp -implicitDefEqProofs only [↓GP, GB, GL, Nat.reduceAdd, Nat.reduceSub, Nat.reduceEqDiff, Nat.reduceMul, Nat.reduceLeDiff, Int.reduceBNe, Int.reduceBEq, Nat.reduceLT, reduceCtorEq, Int.reduceNeg, Int.reduceLT]
    exact fin _ h3
theorem s117 {gr : Bool} {hr : RHeap} {p r need : Nat} {u : List Bool} {A B : List RReg} {g : RReg} (H : Holds o s (poolG gr p r u ++ (hr.ch p ++ F))) (hre : hr.regs = A ++ g :: B) (hu : u.length ≤ 400) (hb : RegB u.length g.size g.life g.fill g.pages) (hn : need ≤ 32) (hz : g.pages.length = 0 → g.pgk = 0)
    {at_ fill' : Nat} {u' : List Bool} {pages' : List Nat} (hput : putM u 0 g.life g.fill g.pages need = some (at_, u', fill', pages'))
    (q : ∀ s' pgk, (pages'.length = 0 → pgk = 0) → Holds o s' (poolG gr p r u' ++ (({ hr with regs := A ++ { g with pgk := pgk, fill := fill', pages := pages' } :: B } : RHeap).ch p ++ F)) → Q (I at_) s') : WP (call PF 117 [ptrN hr.id, I A.length, I need] s) Q := by
  have hin : RIn (poolG gr p r u ++ (hr.ch p ++ F)) p hr := ⟨fun x hx => List.mem_append_right _ (List.mem_append_left _ hx)⟩
  have f := H.mem hin.id
  have fr := H.mem hin.row
  simp only [RHeap.hd] at f
  have hg : hr.regs[A.length]? = some g := by rw [hre]; simp
  have h1 := (H.alloc (.cells [I 0, I 0, .slice none 0 (some 0), I 0, .slice none 0 (some 0)] none)).set0 (.cells [I g.size, I g.life, pgV g.pgk g.pages.length, I g.fill, rowV g.obk g.objs.length] none)
  have hf := hb.fill
  have hpl := hb.npages
  have w1 : wrapI .i64 ((g.fill : Int) + (need : Int)) = I ((g.fill + need : Nat) : Int) := wrap_add (by omega) (by omega)
  have cases3 : (∃ pg, g.pages.getLast? = some pg ∧ g.fill + need ≤ 32 ∧ at_ = pg * 32 + g.fill ∧ u' = u ∧ fill' = g.fill + need ∧ pages' = g.pages) ∨
      (∃ n, takeP u = some n ∧ (g.pages.length = 0 ∨ ¬ g.fill + need ≤ 32) ∧ at_ = n * 32 ∧ u' = u.set n true ∧ fill' = need ∧ pages' = g.pages ++ [n]) := by
    unfold putM at hput
    rw [if_neg (by omega)] at hput
    split at hput
    · rename_i pg hpg
      split at hput
      · rename_i h; cases hput; exact .inl ⟨pg, hpg, h, rfl, rfl, rfl, rfl⟩
      · rename_i h
        simp only [Option.map_eq_some_iff] at hput
        obtain ⟨n, h1, h2⟩ := hput
        cases h2
        exact .inr ⟨n, h1, .inr h, rfl, rfl, rfl, rfl⟩
    · rename_i h
      simp only [Option.map_eq_some_iff] at hput
      obtain ⟨n, h1, h2⟩ := hput
      cases h2
      exact .inr ⟨n, h1, .inl (by rw [List.getLast?_eq_none_iff.1 h]; rfl), rfl, rfl, rfl, rfl⟩
  rcases cases3 with ⟨pg, hpg, hfit, rfl, rfl, rfl, rfl⟩ | ⟨n, ht, hneed, rfl, rfl, e3, rfl⟩
  · have hpos : 0 < g.pages.length := by
      cases hp : g.pages with
      | nil => rw [hp] at hpg; simp at hpg
      | cons a l => simp
    have e0 : ((g.pages.length : Int) == 0) = false := by rw [beq_eq_false_iff_ne]; omega
    have e1 : ¬ (((g.fill + need : Nat) : Int) > 32) := by omega
    have hpg' := hb.pages pg (List.mem_of_getLast? hpg)
    rw [call_run F117]; simp -implicitDefEqProofs only [↓GP, GB, GL, Nat.reduceAdd, Nat.reduceSub, Nat.reduceEqDiff, Nat.reduceMul, Nat.reduceLeDiff, Int.reduceBNe, Int.reduceBEq, Nat.reduceLT, reduceCtorEq, c117, f, fr, rreg hg, RReg.enc, e0, w1, e1]
    generalize (s.alloc (.cells [I 0, I 0, .slice none 0 (some 0), I 0, .slice none 0 (some 0)] none)).set s.next (.cells [I g.size, I g.life, pgV g.pgk g.pages.length, I g.fill, rowV g.obk g.objs.length] none) = S at h1 ⊢
    refine place_tail (t := s.next) (p := p) (g := g) (pg := pg) (F := (g.obk, RReg.obO g.objs) :: (g.objs.flatMap RObj.ch ++ (poolG gr p r u' ++ (A.flatMap RReg.ch ++ (B.flatMap RReg.ch ++ F))))) hre (Holds.of (h1) (fun k => by simp +arith only [hre, RReg.O, RReg.enc, HA, HB]) (fun k x => by simp only [hre, RReg.O, RReg.enc, HA, HC]; grind only)) hpg (by omega) (by omega) hf hn fun s' h' => ?_
    exact q s' g.pgk (fun h => absurd h (by omega)) (Holds.of (h') (fun k => by simp +arith only [RReg.ch, HA, HB]) (fun k x => by simp only [RReg.ch, HA, HC]; grind only))
  · have e3' := e3.symm
    subst e3'
    have hnl : n < u.length := takeP_lt ht
    have hneg : ¬ ((n : Int) < 0) := by omega
    have h2 : Holds o ((s.alloc (.cells [I 0, I 0, .slice none 0 (some 0), I 0, .slice none 0 (some 0)] none)).set s.next (.cells [I g.size, I g.life, pgV g.pgk g.pages.length, I g.fill, rowV g.obk g.objs.length] none)) (poolG gr p r u ++ ((s.next, some (.cells [I g.size, I g.life, pgV g.pgk g.pages.length, I g.fill, rowV g.obk g.objs.length] none)) :: (hr.ch p ++ F))) := (Holds.of (h1) (fun k => by simp +arith only [HA, HB]) (fun k x => by simp only [HA, HC]; grind only))
    have fin : ∀ s1, Holds o s1 (poolG gr p r (u.set n true) ++ ((s.next, some (.cells [I g.size, I g.life, pgV g.pgk g.pages.length, I g.fill, rowV g.obk g.objs.length] none)) :: (hr.ch p ++ F))) →
        Holds o s1 ((s.next, some (.cells [I g.size, I g.life, pgV g.pgk g.pages.length, I g.fill, rowV g.obk g.objs.length] none)) :: (g.pgk, pagesO g.pages) :: (hr.id, some (hr.hd p)) :: (hr.rowk, some hr.row) :: (g.obk, RReg.obO g.objs) :: (g.objs.flatMap RObj.ch ++ (poolG gr p r (u.set n true) ++ (A.flatMap RReg.ch ++ (B.flatMap RReg.ch ++ F))))) := fun s1 h => (Holds.of (h) (fun k => by simp +arith only [hre, HA, HB]) (fun k x => by simp only [hre, HA, HC]; grind only))
    have fin2 : ∀ s1 pgk, Holds o s1 ((pgk, rowO 1 (g.pages.length + 1) (g.pages.map (fun n : Nat => I n) ++ [I n])) :: (s.next, some (.cells [I g.size, I g.life, rowV pgk (g.pages.length + 1), I 0, rowV g.obk g.objs.length] none)) :: (hr.id, some (hr.hd p)) :: (hr.rowk, some hr.row) :: (g.obk, RReg.obO g.objs) :: (g.objs.flatMap RObj.ch ++ (poolG gr p r (u.set n true) ++ (A.flatMap RReg.ch ++ (B.flatMap RReg.ch ++ F))))) →
        WP (go (loop PF) (call PF) j117_bbb (sp 67 [(0, ptrN hr.id), (1, I A.length), (2, I need), (7, ptrN s.next)]) s1 (finR [(6, none)])) Q := by
      intro s1 pgk h
      refine place_tail (t := s.next) (p := p) (g := { g with pgk := pgk, fill := 0, pages := g.pages ++ [n] }) (pg := n) (F := (g.obk, RReg.obO g.objs) :: (g.objs.flatMap RObj.ch ++ (poolG gr p r (u.set n true) ++ (A.flatMap RReg.ch ++ (B.flatMap RReg.ch ++ F))))) hre
        (Holds.of (h) (fun k => by simp +arith only [RReg.O, RReg.enc, pgV_succ, pagesO, List.length_append, List.length_cons, List.length_nil, Nat.zero_add, List.map_append, List.map_cons, List.map_nil, Int.natCast_zero, HA, HB]) (fun k x => by simp only [RReg.O, RReg.enc, pgV_succ, pagesO, List.length_append, List.length_cons, List.length_nil, Nat.zero_add, List.map_append, List.map_cons, List.map_nil, Int.natCast_zero, HA, HC]; grind only)) (by simp) (by omega) (by simp; omega) (by simp) hn fun s' h' => ?_
      simp only [Nat.zero_add, Nat.add_zero] at h' ⊢
      exact q s' pgk (fun h => absurd h (by simp)) (Holds.of (h') (fun k => by simp +arith only [RReg.ch, HA, HB]) (fun k x => by simp only [RReg.ch, HA, HC]; grind only))
    by_cases h0 : g.pages.length = 0
    · have e0 : ((g.pages.length : Int) == 0) = true := by rw [h0]; rfl
      rw [call_run F117]; simp -implicitDefEqProofs only [↓GP, GB, GL, Nat.reduceAdd, Nat.reduceSub, Nat.reduceEqDiff, Nat.reduceMul, Nat.reduceLeDiff, Int.reduceBNe, Int.reduceBEq, Nat.reduceLT, reduceCtorEq, c117, f, fr, rreg hg, RReg.enc, e0]
      refine wp_in (s121 h2 hu (fun hn => by rw [ht] at hn; cases hn) fun n' hn s1 h3 => ?_)
      rw [ht] at hn; cases hn
      have h4 := fin s1 h3
      simp -implicitDefEqProofs only [↓GP, GB, GL, Nat.reduceAdd, Nat.reduceSub, Nat.reduceEqDiff, Nat.reduceMul, Nat.reduceLeDiff, Int.reduceBNe, Int.reduceBEq, Nat.reduceLT, reduceCtorEq, h4.f1, hneg]
      rw [pgV_none g.pgk hz]
      refine wp_append (cs := g.pages.map (fun n : Nat => I n)) ((h4.alloc _).r2) (by simp) (new_cells' (alloc_new_same _ _) rfl) rfl rfl (by omega) (by unfold maxRow; omega) (by unfold maxRow; omega) fun pgk s2 h5 => ?_
      have h6 := h5.r1.tl
      simp -implicitDefEqProofs only [↓GP, GB, GL, Nat.reduceAdd, Nat.reduceSub, Nat.reduceEqDiff, Nat.reduceMul, Nat.reduceLeDiff, Int.reduceBNe, Int.reduceBEq, Nat.reduceLT, reduceCtorEq, h6.r1.f1]
      have h7 := (h6.set1 (.cells [I g.size, I g.life, rowV pgk (g.pages.length + 1), I g.fill, rowV g.obk g.objs.length] none)).set1 (.cells [I g.size, I g.life, rowV pgk (g.pages.length + 1), I 0, rowV g.obk g.objs.length] none)
      exact fin2 _ pgk h7
    · have e0 : ((g.pages.length : Int) == 0) = false := by rw [beq_eq_false_iff_ne]; omega
      have e1 : (((g.fill + need : Nat) : Int) > 32) := by omega
      rw [call_run F117]; simp -implicitDefEqProofs only [↓GP, GB, GL, Nat.reduceAdd, Nat.reduceSub, Nat.reduceEqDiff, Nat.reduceMul, Nat.reduceLeDiff, Int.reduceBNe, Int.reduceBEq, Nat.reduceLT, reduceCtorEq, c117, f, fr, rreg hg, RReg.enc, e0, w1, e1]
      refine wp_in (s121 h2 hu (fun hn => by rw [ht] at hn; cases hn) fun n' hn s1 h3 => ?_)
      rw [ht] at hn; cases hn
      have h4 := fin s1 h3
      simp -implicitDefEqProofs only [↓GP, GB, GL, Nat.reduceAdd, Nat.reduceSub, Nat.reduceEqDiff, Nat.reduceMul, Nat.reduceLeDiff, Int.reduceBNe, Int.reduceBEq, Nat.reduceLT, reduceCtorEq, h4.f1, hneg]
      rw [pgV_none g.pgk hz]
      refine wp_append (cs := g.pages.map (fun n : Nat => I n)) ((h4.alloc _).r2) (by simp) (new_cells' (alloc_new_same _ _) rfl) rfl rfl (by omega) (by unfold maxRow; omega) (by unfold maxRow; omega) fun pgk s2 h5 => ?_
      have h6 := h5.r1.tl
      simp -implicitDefEqProofs only [↓GP, GB, GL, Nat.reduceAdd, Nat.reduceSub, Nat.reduceEqDiff, Nat.reduceMul, Nat.reduceLeDiff, Int.reduceBNe, Int.reduceBEq, Nat.reduceLT, reduceCtorEq, h6.r1.f1]
      have h7 := (h6.set1 (.cells [I g.size, I g.life, rowV pgk (g.pages.length + 1), I g.fill, rowV g.obk g.objs.length] none)).set1 (.cells [I g.size, I g.life, rowV pgk (g.pages.length + 1), I 0, rowV g.obk g.objs.length] none)
      exact fin2 _ pgk h7
theorem s107_err (hC : Holds o s C) {hv : V} {n err kind words : Int} (e : RAtErr C hv n err) (q : ∀ s', Holds o s' C → Q (.tuple [.agg [I 0, I 0], I err]) s') : WP (call PF 107 [hv, I n, I kind, I words] s) Q := by
  have h1 := hC.alloc (.cells [I 0, I 0] none)
  have hs : ∀ x ∈ C, x ∈ (s.next, some (.cells [I 0, I 0] none)) :: C := fun x hx => List.mem_cons_of_mem _ hx
  rcases e with ⟨g, rfl⟩ | ⟨rfl, hr, p, rfl, hin, h0, hb⟩
  · have e := s87_gone h1 (g.mono hs)
    rw [call_run F107]; simp -implicitDefEqProofs only [↓GP, GB, GL, Nat.reduceAdd, Nat.reduceSub, Nat.reduceEqDiff, Nat.reduceMul, Nat.reduceLeDiff, Int.reduceBNe, Int.reduceBEq, Nat.reduceLT, reduceCtorEq, c107, e]
    exact q _ (h1.set0 _).tl
  · have e := s87 h1 (hin.mono hs) h0
    have e2 := s106 h1 (hin.mono hs) n
    rw [is_false hb] at e2
    rw [call_run F107]; simp -implicitDefEqProofs only [↓GP, GB, GL, Nat.reduceAdd, Nat.reduceSub, Nat.reduceEqDiff, Nat.reduceMul, Nat.reduceLeDiff, Int.reduceBNe, Int.reduceBEq, Nat.reduceLT, reduceCtorEq, c107, e, e2]
    exact q _ (h1.set0 _).tl
def RBadStore (g : RReg) (kind words : Int) : Prop := ¬ (1 ≤ kind ∧ kind ≤ 255) ∨ ¬ (1 ≤ words ∧ words ≤ 31) ∨ (0 < g.size ∧ ((g.size : Int) < words ∨ g.objs ≠ []))
theorem s107_bad (hC : Holds o s C) {hr : RHeap} {p i : Nat} {kind words : Int} (hin : RIn C p hr) {g : RReg} (hg : hr.regs[i]? = some g) (hl : g.life ≤ 100000) (hb : RBadStore g kind words) (q : ∀ s', Holds o s' C → Q (.tuple [.agg [I 0, I 0], I 2]) s') : WP (call PF 107 [ptrN hr.id, I i, I kind, I words] s) Q := by
  have hi := (List.getElem?_eq_some_iff.1 hg).1
  have h1 := hC.alloc (.cells [I 0, I 0] none)
  have e := s87 h1 (hin.cons _) (List.length_pos_iff.1 (by omega))
  have e2 := s106 h1 (hin.cons _) i
  rw [is_true hi] at e2
  have f := hC.mem hin.id
  have fr := hC.mem hin.row
  simp only [RHeap.hd] at f
  by_cases k1 : kind < 1
  · rw [call_run F107]; simp -implicitDefEqProofs only [↓GP, GB, GL, Nat.reduceAdd, Nat.reduceSub, Nat.reduceEqDiff, Nat.reduceMul, Nat.reduceLeDiff, Int.reduceBNe, Int.reduceBEq, Nat.reduceLT, reduceCtorEq, c107, e, e2, k1]; exact q _ (h1.set0 _).tl
  · by_cases k2 : (kind > 255)
    · rw [call_run F107]; simp -implicitDefEqProofs only [↓GP, GB, GL, Nat.reduceAdd, Nat.reduceSub, Nat.reduceEqDiff, Nat.reduceMul, Nat.reduceLeDiff, Int.reduceBNe, Int.reduceBEq, Nat.reduceLT, reduceCtorEq, c107, e, e2, k1, k2]; exact q _ (h1.set0 _).tl
    · by_cases k3 : words < 1
      · rw [call_run F107]; simp -implicitDefEqProofs only [↓GP, GB, GL, Nat.reduceAdd, Nat.reduceSub, Nat.reduceEqDiff, Nat.reduceMul, Nat.reduceLeDiff, Int.reduceBNe, Int.reduceBEq, Nat.reduceLT, reduceCtorEq, c107, e, e2, k1, k2, k3]; exact q _ (h1.set0 _).tl
      · by_cases k4 : (words > 31)
        · rw [call_run F107]; simp -implicitDefEqProofs only [↓GP, GB, GL, Nat.reduceAdd, Nat.reduceSub, Nat.reduceEqDiff, Nat.reduceMul, Nat.reduceLeDiff, Int.reduceBNe, Int.reduceBEq, Nat.reduceLT, reduceCtorEq, c107, e, e2, k1, k2, k3, k4]; exact q _ (h1.set0 _).tl
        · have hfin : 0 < g.size ∧ ((g.size : Int) < words ∨ g.objs ≠ []) := by
            rcases hb with h | h | h
            · omega
            · omega
            · exact h
          have k5 : ((g.size : Int) > 0) := by omega
          have w1 : wrapI .i64 (1000000 + (g.life : Int)) = I ((1000000 + g.life : Nat) : Int) := wrap_nat (by omega) (by omega)
          have h2 := (h1.alloc (.cells [I 0, I 0, .slice none 0 (some 0), I 0, .slice none 0 (some 0)] none)).set0 (.cells [I g.size, I g.life, pgV g.pgk g.pages.length, I g.fill, rowV g.obk g.objs.length] none)
          by_cases k6 : (words > (g.size : Int))
          · rw [call_run F107]; simp -implicitDefEqProofs only [↓GP, GB, GL, Nat.reduceAdd, Nat.reduceSub, Nat.reduceEqDiff, Nat.reduceMul, Nat.reduceLeDiff, Int.reduceBNe, Int.reduceBEq, Nat.reduceLT, reduceCtorEq, c107, e, e2, k1, k2, k3, k4, f, fr, rreg hg, RReg.enc, w1, k5, k6]
            exact q _ (h2.tl.set0 _).tl
          · have k7 : ((g.objs.length : Int) > 0) := by
              rcases hfin.2 with h | h
              · omega
              · have := List.length_pos_iff.2 h; omega
            rw [call_run F107]; simp -implicitDefEqProofs only [↓GP, GB, GL, Nat.reduceAdd, Nat.reduceSub, Nat.reduceEqDiff, Nat.reduceMul, Nat.reduceLeDiff, Int.reduceBNe, Int.reduceBEq, Nat.reduceLT, reduceCtorEq, c107, e, e2, k1, k2, k3, k4, f, fr, rreg hg, RReg.enc, w1, k5, k6, k7]
            exact q _ (h2.tl.set0 _).tl
def RGoodStore (g : RReg) (kind words : Nat) : Prop := 1 ≤ kind ∧ kind ≤ 255 ∧ 1 ≤ words ∧ words ≤ 31 ∧ (0 < g.size → words ≤ g.size ∧ g.objs = [])
theorem store_tail {hr : RHeap} {p at_ kind words t8 t10 life : Nat} {c0 : V} {rest : List V} {A B : List RReg} {g : RReg} (hre : hr.regs = A ++ g :: B) (hlf : g.life = life)
    (H : Holds o s ((t8, some (.cells [I 0, I 0] none)) :: (t10, some (.cells (c0 :: I life :: rest) none)) :: (hr.id, some (hr.hd p)) :: (hr.rowk, some hr.row) :: (g.obk, RReg.obO g.objs) :: F)) (hw : words ≤ 31) (hl : g.objs.length < 100000)
    (q : ∀ s' obk wid, Holds o s' ((hr.id, some (RHeap.hd p { hr with regs := A ++ { g with obk := obk, objs := g.objs ++ [⟨wid, ⟨at_, kind, List.replicate words (0, 0)⟩, false⟩] } :: B })) :: (hr.rowk, some (RHeap.row { hr with regs := A ++ { g with obk := obk, objs := g.objs ++ [⟨wid, ⟨at_, kind, List.replicate words (0, 0)⟩, false⟩] } :: B })) ::
      (obk, RReg.obO (g.objs ++ [⟨wid, ⟨at_, kind, List.replicate words (0, 0)⟩, false⟩])) :: (wid, some (.cells ((List.replicate words ((0 : Int), (0 : Int))).flatMap encW) none)) :: F) → Q (.tuple [.agg [I at_, I life], I 0]) s') :
    WP (go (loop PF) (call PF) j107_bbbbbb (sp 94 [(0, ptrN hr.id), (1, I A.length), (2, I kind), (3, I words), (8, ptrN t8), (10, ptrN t10), (11, I at_)]) s (finR [(8, some (some 2)), (9, none)])) Q := by
  have f := H.tl.tl.f2
  simp only [RHeap.hd] at f
  have hg : hr.regs[A.length]? = some g := by rw [hre]; simp
  have hm := fun s => mkV_int (s := s) (bytes := 16) (z := [I 0, I 0]) (k := .i64) (k' := .i64) (l := words) (c := words) (by omega) (by omega) (by omega) (by omega)
  simp only [Int.toNat_natCast] at hm
  simp -implicitDefEqProofs only [↓GP, GB, GL, Nat.reduceAdd, Nat.reduceSub, Nat.reduceEqDiff, Nat.reduceMul, Nat.reduceLeDiff, Int.reduceBNe, Int.reduceBEq, Nat.reduceLT, reduceCtorEq, j107_bbbbbb, f, rreg hg, hm]
  have h1 := (H.alloc (.cells (zeros [I 0, I 0] words) none)).alloc (.cells [I at_, I kind, slN s.next words] none)
  refine wp_append (F := (s.next + 1, some (.cells [I at_, I kind, slN s.next words] none)) :: (s.next, some (.cells (zeros [I 0, I 0] words) none)) :: (t8, some (.cells [I 0, I 0] none)) :: (t10, some (.cells (c0 :: I life :: rest) none)) :: (hr.id, some (hr.hd p)) :: (hr.rowk, some hr.row) :: F) (k := g.obk) (n := g.objs.length) (sz := 3) (cs := g.objs.flatMap RObj.enc)
    (Holds.of (h1) (fun k => by simp +arith only [RReg.obO, alloc_next, HA, HB]) (fun k x => by simp only [RReg.obO, alloc_next, HA, HC]; grind only)) (by rw [tab_len RObj.enc_len]) (new_cells' (alloc_new_same _ _) rfl) rfl rfl (by omega) (by unfold maxRow; omega) (by unfold maxRow; omega) fun obk s1 h2 => ?_
  have h3 : Holds o s1 ((t8, some (.cells [I 0, I 0] none)) :: (t10, some (.cells (c0 :: I life :: rest) none)) :: (hr.rowk, some hr.row) :: (hr.id, some (hr.hd p)) :: (s.next, some (.cells (zeros [I 0, I 0] words) none)) :: (obk, rowO 3 (g.objs.length + 1) (g.objs.flatMap RObj.enc ++ [I at_, I kind, slN s.next words])) :: F) := (Holds.of (h2) (fun k => by simp +arith only [HA, HB]) (fun k x => by simp only [HA, HC]; grind only))
  have f3 := h3.f4
  simp only [RHeap.hd] at f3
  have hset := rset1 hre (f := 4) (v := rowV obk (g.objs.length + 1)) (by omega) (rowV_one _ _) (g' := { g with obk := obk, objs := g.objs ++ [⟨s.next, ⟨at_, kind, List.replicate words (0, 0)⟩, false⟩] }) (by simp [RReg.enc])
  simp -implicitDefEqProofs only [↓GP, GB, GL, Nat.reduceAdd, Nat.reduceSub, Nat.reduceEqDiff, Nat.reduceMul, Nat.reduceLeDiff, Int.reduceBNe, Int.reduceBEq, Nat.reduceLT, reduceCtorEq, f3, hr.againV, (rreg hg).1, hset]
  have h4 := (h3.set2 (RHeap.row { hr with regs := A ++ { g with obk := obk, objs := g.objs ++ [⟨s.next, ⟨at_, kind, List.replicate words (0, 0)⟩, false⟩] } :: B })).set0 (.cells [I at_, I life] none)
  refine q _ obk s.next (Holds.of (h4.tl.tl) (fun k => by simp +arith only [RHeap.hd, RHeap.rv, hre, RReg.obO, RObj.enc, zeros_words, List.length_append, List.length_cons, List.length_nil, Nat.zero_add, List.length_replicate, HA, HB]) (fun k x => by simp only [RHeap.hd, RHeap.rv, hre, RReg.obO, RObj.enc, zeros_words, List.length_append, List.length_cons, List.length_nil, Nat.zero_add, List.length_replicate, HA, HC]; grind only))
theorem s107_full {hr : RHeap} {p r kind words : Nat} {u : List Bool} {A B : List RReg} {g : RReg} (H : Holds o s (poolC p r u ++ (hr.ch p ++ F))) (hre : hr.regs = A ++ g :: B) (hu : u.length ≤ 400) (hb : RegB u.length g.size g.life g.fill g.pages) (hgs : RGoodStore g kind words)
    (hput : putM u g.size g.life g.fill g.pages (words + 1) = none) (q : ∀ s', Holds o s' (poolC p r u ++ (hr.ch p ++ F)) → Q (.tuple [.agg [I 0, I 0], I 81]) s') : WP (call PF 107 [ptrN hr.id, I A.length, I kind, I words] s) Q := by
  obtain ⟨b1, b2, b3, b4, b5⟩ := hgs
  have hin : RIn (poolC p r u ++ (hr.ch p ++ F)) p hr := ⟨fun x hx => List.mem_append_right _ (List.mem_append_left _ hx)⟩
  have hi : A.length < hr.regs.length := by rw [hre]; simp
  have hg : hr.regs[A.length]? = some g := by rw [hre]; simp
  have h1 := H.alloc (.cells [I 0, I 0] none)
  have e := s87 h1 (hin.cons _) (by rw [hre]; simp)
  have e2 := s106 h1 (hin.cons _) A.length
  rw [is_true hi] at e2
  have f := H.mem hin.id
  have fr := H.mem hin.row
  simp only [RHeap.hd] at f
  have hl := hb.life
  have k1 : ¬ ((kind : Int) < 1) := by omega
  have k2 : ¬ ((kind : Int) > 255) := by omega
  have k3 : ¬ ((words : Int) < 1) := by omega
  have k4 : ¬ ((words : Int) > 31) := by omega
  have hs0 : g.size = 0 := by
    unfold putM at hput
    split at hput
    · cases hput
    · omega
  have k5 : ¬ ((g.size : Int) > 0) := by omega
  have w1 : wrapI .i64 (1000000 + (g.life : Int)) = I ((1000000 + g.life : Nat) : Int) := wrap_nat (by omega) (by omega)
  have w2 := wrap_add1 (a := words) (by omega)
  have h2 := (h1.alloc (.cells [I 0, I 0, .slice none 0 (some 0), I 0, .slice none 0 (some 0)] none)).set0 (.cells [I g.size, I g.life, pgV g.pgk g.pages.length, I g.fill, rowV g.obk g.objs.length] none)
  rw [call_run F107]; simp -implicitDefEqProofs only [↓GP, GB, GL, Nat.reduceAdd, Nat.reduceSub, Nat.reduceEqDiff, Nat.reduceMul, Nat.reduceLeDiff, Int.reduceBNe, Int.reduceBEq, Nat.reduceLT, reduceCtorEq, c107, e, e2, k1, k2, k3, k4, f, fr, rreg hg, RReg.enc, w1, k5, w2]
  refine wp_in (s117_none (gr := false) (hr := hr) (p := p) (r := r) (u := u) (A := A) (B := B) (g := g) (F := (s.next, some (.cells [I 0, I 0] none)) :: F) (Holds.of (h2) (fun k => by simp +arith only [HA, HB]) (fun k x => by simp only [HA, HC]; grind only)) hre hu hb (by omega) (by rw [← hput, hs0]) fun s1 h3 => ?_)
  have h4 : Holds o s1 ((s.next, some (.cells [I 0, I 0] none)) :: (poolC p r u ++ (hr.ch p ++ F))) := (Holds.of (h3) (fun k => by simp +arith only [HA, HB]) (fun k x => by simp only [HA, HC]; grind only))
  simp -implicitDefEqProofs only [↓GP, GB, GL, Nat.reduceAdd, Nat.reduceSub, Nat.reduceEqDiff, Nat.reduceMul, Nat.reduceLeDiff, Int.reduceBNe, Int.reduceBEq, Nat.reduceLT, reduceCtorEq, h4.f1, Int.reduceNeg, Int.reduceLT]
  exact q _ (h4.set0 _).tl
theorem s107 {hr : RHeap} {p r kind words : Nat} {u : List Bool} {A B : List RReg} {g : RReg} (H : Holds o s (poolC p r u ++ (hr.ch p ++ F))) (hre : hr.regs = A ++ g :: B) (hu : u.length ≤ 400) (hb : RegB u.length g.size g.life g.fill g.pages) (hgs : RGoodStore g kind words) (hol : g.objs.length < 100000) (hz : g.pages.length = 0 → g.pgk = 0)
    {at_ fill' : Nat} {u' : List Bool} {pages' : List Nat} (hput : putM u g.size g.life g.fill g.pages (words + 1) = some (at_, u', fill', pages'))
    (q : ∀ s' pgk obk wid, (pages'.length = 0 → pgk = 0) → Holds o s' (poolC p r u' ++ (({ hr with regs := A ++ { g with pgk := pgk, obk := obk, fill := fill', pages := pages', objs := g.objs ++ [⟨wid, ⟨at_, kind, List.replicate words (0, 0)⟩, false⟩] } :: B } : RHeap).ch p ++ F)) →
      Q (.tuple [.agg [I at_, I g.life], I 0]) s') : WP (call PF 107 [ptrN hr.id, I A.length, I kind, I words] s) Q := by
  obtain ⟨b1, b2, b3, b4, b5⟩ := hgs
  have hin : RIn (poolC p r u ++ (hr.ch p ++ F)) p hr := ⟨fun x hx => List.mem_append_right _ (List.mem_append_left _ hx)⟩
  have hi : A.length < hr.regs.length := by rw [hre]; simp
  have hg : hr.regs[A.length]? = some g := by rw [hre]; simp
  have h1 := H.alloc (.cells [I 0, I 0] none)
  have e := s87 h1 (hin.cons _) (by rw [hre]; simp)
  have e2 := s106 h1 (hin.cons _) A.length
  rw [is_true hi] at e2
  have f := H.mem hin.id
  have fr := H.mem hin.row
  simp only [RHeap.hd] at f
  have hl := hb.life
  have k1 : ¬ ((kind : Int) < 1) := by omega
  have k2 : ¬ ((kind : Int) > 255) := by omega
  have k3 : ¬ ((words : Int) < 1) := by omega
  have k4 : ¬ ((words : Int) > 31) := by omega
  have w1 : wrapI .i64 (1000000 + (g.life : Int)) = I ((1000000 + g.life : Nat) : Int) := wrap_nat (by omega) (by omega)
  have w2 := wrap_add1 (a := words) (by omega)
  have h2 := (h1.alloc (.cells [I 0, I 0, .slice none 0 (some 0), I 0, .slice none 0 (some 0)] none)).set0 (.cells [I g.size, I g.life, pgV g.pgk g.pages.length, I g.fill, rowV g.obk g.objs.length] none)
  by_cases hs0 : 0 < g.size
  · obtain ⟨c1, c2⟩ := b5 hs0
    have k5 : ((g.size : Int) > 0) := by omega
    have k6 : ¬ ((words : Int) > (g.size : Int)) := by omega
    have k7 : ¬ ((g.objs.length : Int) > 0) := by rw [c2]; simp
    unfold putM at hput
    rw [if_pos hs0] at hput
    cases hput
    rw [call_run F107]; simp -implicitDefEqProofs only [↓GP, GB, GL, Nat.reduceAdd, Nat.reduceSub, Nat.reduceEqDiff, Nat.reduceMul, Nat.reduceLeDiff, Int.reduceBNe, Int.reduceBEq, Nat.reduceLT, reduceCtorEq, c107, e, e2, k1, k2, k3, k4, f, fr, rreg hg, RReg.enc, w1, k5, k6, k7]
    refine store_tail (hr := hr) (p := p) (at_ := 1000000 + g.life) (t8 := s.next) (t10 := s.next + 1) (c0 := I g.size) (life := g.life) (rest := [pgV g.pgk g.pages.length, I g.fill, rowV g.obk g.objs.length]) (F := (g.pgk, pagesO g.pages) :: (g.objs.flatMap RObj.ch ++ (poolC p r u ++ (A.flatMap RReg.ch ++ (B.flatMap RReg.ch ++ F))))) hre rfl (Holds.of (h2) (fun k => by simp +arith only [hre, alloc_next, HA, HB]) (fun k x => by simp only [hre, alloc_next, HA, HC]; grind only)) b4 hol fun s' obk wid h3 => ?_
    exact q s' g.pgk obk wid hz (Holds.of (h3) (fun k => by simp +arith only [List.flatMap_append, HA, HB]) (fun k x => by simp only [List.flatMap_append, HA, HC]; grind only))
  · have hs1 : g.size = 0 := by omega
    have k5 : ¬ ((g.size : Int) > 0) := by omega
    rw [call_run F107]; simp -implicitDefEqProofs only [↓GP, GB, GL, Nat.reduceAdd, Nat.reduceSub, Nat.reduceEqDiff, Nat.reduceMul, Nat.reduceLeDiff, Int.reduceBNe, Int.reduceBEq, Nat.reduceLT, reduceCtorEq, c107, e, e2, k1, k2, k3, k4, f, fr, rreg hg, RReg.enc, w1, k5, w2]
    refine wp_in (s117 (gr := false) (hr := hr) (p := p) (r := r) (u := u) (A := A) (B := B) (g := g) (F := (s.next, some (.cells [I 0, I 0] none)) :: (s.next + 1, some (.cells [I g.size, I g.life, pgV g.pgk g.pages.length, I g.fill, rowV g.obk g.objs.length] none)) :: F) (Holds.of (h2) (fun k => by simp +arith only [alloc_next, HA, HB]) (fun k x => by simp only [alloc_next, HA, HC]; grind only)) hre hu hb (by omega) hz (by rw [← hput, hs1]) fun s1 pgk hz' h3 => ?_)
    have k8 : ¬ ((at_ : Int) < 0) := by omega
    simp -implicitDefEqProofs only [↓GP, GB, GL, Nat.reduceAdd, Nat.reduceSub, Nat.reduceEqDiff, Nat.reduceMul, Nat.reduceLeDiff, Int.reduceBNe, Int.reduceBEq, Nat.reduceLT, reduceCtorEq, k8]
    refine store_tail (hr := { hr with regs := A ++ { g with pgk := pgk, fill := fill', pages := pages' } :: B }) (g := { g with pgk := pgk, fill := fill', pages := pages' }) (A := A) (B := B) (p := p) (at_ := at_) (t8 := s.next) (t10 := s.next + 1) (c0 := I g.size) (life := g.life) (rest := [pgV g.pgk g.pages.length, I g.fill, rowV g.obk g.objs.length]) (F := (pgk, pagesO pages') :: (g.objs.flatMap RObj.ch ++ (poolC p r u' ++ (A.flatMap RReg.ch ++ (B.flatMap RReg.ch ++ F))))) rfl rfl (Holds.of (h3) (fun k => by simp +arith only [HA, HB]) (fun k x => by simp only [HA, HC]; grind only)) b4 hol fun s' obk wid h4 => ?_
    exact q s' pgk obk wid hz' (Holds.of (h4) (fun k => by simp +arith only [List.flatMap_append, HA, HB]) (fun k x => by simp only [List.flatMap_append, HA, HC]; grind only))
end
end Go.Proofs.Ytoldkemimhebaaa

set_option linter.unusedSimpArgs false
set_option linter.unusedVariables false
namespace Go.Proofs.Ytoldkemimhebaaa
open Go Go.IM
def l97_0 : IC := (.seq (.seq (.seq (.region [oa 33 (.mov (.t 10)), oa 34 (.mov (.t 2)), oa 35 (.lenSlice (.t 34)), oa 36 (.bin .lss (.t 33) (.t 35))] (kp 126 [0,1,2,8,9,10,36]))
  (.cond (.t 36)
  (sk 126 [0,1,2,8,9,10])
  (sx 126 [0,1,8] 0)))
  (.seq (.block 1
  (.seq (.region [oa 40 (.mov (.t 0)), oa 41 (.mov (.t 2)), oa 42 (.mov (.t 10)), oa 43 (.indexAddr 2 (.t 41) (.t 42)), oa 44 (.load (some 2) (.t 43)), oa 45 (.call 103 [(.t 40), (.t 44)]), oa 39 (.mov (.t 45)), oa 46 (.extract (.t 39) 0), oa 47 (.extract (.t 39) 1), oa 11 (.mov (.t 46)), oa 12 (.mov (.t 47))] (kp 126 [0,1,2,8,9,10,11,12]))
  (.seq (.seq (.region [oa 48 (.mov (.t 11)), oa 49 (.mov (.t 1)), oa 50 (.bin .neq (.t 48) (.t 49)), oa 51 (.mov (.t 50)), oc 52 (.mov (.t 12)) 51 ff, oc 53 (.mov (.t 9)) 51 ff, oc 54 (.bin .lss (.t 52) (.t 53)) 51 ff, oa 55 (.pick (.t 51) (.c (.bool true)) (.t 54))] (kp 126 [0,1,2,8,10,12,55]))
  (.cond (.t 55)
  (.seq (.region [oa 6 (.mov (.c (.slice none 0 (some 0)))), oa 7 (.mov (ai 2))] (kp 126 [6,7]))
  (sr 126 [6,7]))
  (sk 126 [0,1,2,8,10,12])))
  (.seq (.region [oa 56 (.mov (.t 8)), oa 57 (.mov (.t 0)), oa 58 (.nilCheck (.t 57)), oa 59 (.fieldAddr 1 (.t 58)), oa 60 (.load none (.t 59)), oa 61 (.mov (.t 1)), oa 62 (.indexAddr 5 (.t 60) (.t 61)), oa 63 (.fieldAddr 4 (.t 62)), oa 64 (.load none (.t 63)), oa 65 (.mov (.t 12)), oa 66 (.indexAddr 3 (.t 64) (.t 65)), oa 67 (.load (some 3) (.t 66)), oa 68 (.buildSlice 1 [(.int .i64 (0)), (.int .i64 (0)), (.slice none 0 (some 0))] [(0, 3, (.t 67))]), oa 69 (.append 3 40 (.t 56) (.t 68)), oa 8 (.mov (.t 69))] (kp 126 [0,1,2,8,10,12]))
  (.region [oa 70 (.mov (.t 12)), oa 71 (.bin .add (.t 70) (ai 1)), oa 9 (.mov (.t 71))] (kp 126 [0,1,2,8,9,10]))))))
  (.region [oa 37 (.mov (.t 10)), oa 38 (.bin .add (.t 37) (ai 1)), oa 10 (.mov (.t 38))] (kp 126 [0,1,2,8,9,10]))))
  (sk 126 [0,1,2,8,9,10]))
def l97_1 : IC := (.seq (.seq (.seq (.region [oa 75 (.mov (.t 14)), oa 76 (.mov (.t 8)), oa 77 (.lenSlice (.t 76)), oa 78 (.bin .lss (.t 75) (.t 77))] (kp 126 [0,1,8,13,14,78]))
  (.cond (.t 78)
  (sk 126 [0,1,8,13,14])
  (sx 126 [13] 2)))
  (.seq (.block 3
  (.seq (.region [oa 81 (.mov (.t 8)), oa 82 (.mov (.t 14)), oa 83 (.indexAddr 3 (.t 81) (.t 82)), oa 84 (.load (some 3) (.t 83)), oa 15 (.alloc [(.int .i64 (0)), (.int .i64 (0)), (.slice none 0 (some 0))]), ob (.store 3 (.t 15) (.t 84))] (kp 126 [0,1,8,13,14,15]))
  (.seq (.region [oa 85 (.mov (.t 0)), oa 86 (.mov (.t 1)), oa 87 (.fieldAddr 2 (.t 15)), oa 88 (.load none (.t 87)), oa 89 (.lenSlice (.t 88)), oa 90 (.bin .add (ai 1) (.t 89)), oa 91 (.call 117 [(.t 85), (.t 86), (.t 90)]), oa 92 (.fieldAddr 0 (.t 15)), ob (.store 1 (.t 92) (.t 91))] (kp 126 [0,1,8,13,14,15]))
  (.seq (.region [oa 93 (.mov (.t 0)), oa 94 (.nilCheck (.t 93)), oa 95 (.fieldAddr 1 (.t 94)), oa 96 (.load none (.t 95)), oa 97 (.mov (.t 1)), oa 98 (.mov (.t 0)), oa 99 (.nilCheck (.t 98)), oa 100 (.fieldAddr 1 (.t 99)), oa 101 (.load none (.t 100)), oa 102 (.mov (.t 1)), oa 103 (.indexAddr 5 (.t 101) (.t 102)), oa 104 (.fieldAddr 4 (.t 103)), oa 105 (.load none (.t 104)), oa 106 (.load (some 3) (.t 15)), oa 107 (.buildSlice 1 [(.int .i64 (0)), (.int .i64 (0)), (.slice none 0 (some 0))] [(0, 3, (.t 106))]), oa 108 (.append 3 40 (.t 105) (.t 107)), ob (.again 96 (.load none (.t 95))), oa 109 (.indexAddr 5 (.t 96) (.t 97)), oa 110 (.fieldAddr 4 (.t 109)), ob (.store 1 (.t 110) (.t 108))] (kp 126 [0,1,8,13,14,15]))
  (.region [oa 111 (.mov (.t 13)), oa 112 (.fieldAddr 0 (.t 15)), oa 113 (.load none (.t 112)), oa 114 (.mov (.t 0)), oa 115 (.nilCheck (.t 114)), oa 116 (.fieldAddr 1 (.t 115)), oa 117 (.load none (.t 116)), oa 118 (.mov (.t 1)), oa 119 (.indexAddr 5 (.t 117) (.t 118)), oa 120 (.fieldAddr 1 (.t 119)), oa 121 (.load none (.t 120)), oa 122 (.build [(.int .i64 (0)), (.int .i64 (0))] [(0, 1, (.t 113)), (1, 1, (.t 121))]), oa 123 (.buildSlice 1 [(.int .i64 (0)), (.int .i64 (0))] [(0, 2, (.t 122))]), oa 124 (.append 2 16 (.t 111) (.t 123)), oa 13 (.mov (.t 124))] (kp 126 [0,1,8,13,14]))))))
  (.region [oa 79 (.mov (.t 14)), oa 80 (.bin .add (.t 79) (ai 1)), oa 14 (.mov (.t 80))] (kp 126 [0,1,8,13,14]))))
  (sk 126 [0,1,8,13,14]))
def c97 : IFn := ⟨126, [(6, none), (7, none)],
  (.seq (.region [oa 6 (.mov (.c (.slice none 0 (some 0)))), oa 7 (.mov (ai 0))] (kp 126 [0,1,2]))
  (.seq (.seq (.region [oa 16 (.mov (.t 0)), oa 17 (.call 87 [(.t 16)])] (kp 126 [0,1,2,17]))
  (.cond (.t 17)
  (.seq (.region [oa 6 (.mov (.c (.slice none 0 (some 0)))), oa 7 (.mov (ai 6))] (kp 126 [6,7]))
  (sr 126 [6,7]))
  (sk 126 [0,1,2])))
  (.seq (.seq (.region [oa 18 (.mov (.t 0)), oa 19 (.mov (.t 1)), oa 20 (.call 106 [(.t 18), (.t 19)]), oa 21 (.un .not (.t 20)), oa 22 (.mov (.t 21)), oc 23 (.mov (.t 0)) 22 ff, oc 24 (.nilCheck (.t 23)) 22 ff, oc 25 (.fieldAddr 1 (.t 24)) 22 ff, oc 26 (.load none (.t 25)) 22 ff, oc 27 (.mov (.t 1)) 22 ff, oc 28 (.indexAddr 5 (.t 26) (.t 27)) 22 ff, oc 29 (.fieldAddr 0 (.t 28)) 22 ff, oc 30 (.load none (.t 29)) 22 ff, oc 31 (.bin .gtr (.t 30) (ai 0)) 22 ff, oa 32 (.pick (.t 22) (.c (.bool true)) (.t 31))] (kp 126 [0,1,2,32]))
  (.cond (.t 32)
  (.seq (.region [oa 6 (.mov (.c (.slice none 0 (some 0)))), oa 7 (.mov (ai 2))] (kp 126 [6,7]))
  (sr 126 [6,7]))
  (sk 126 [0,1,2])))
  (.seq (.region [oa 8 (.mov (.c (.slice none 0 (some 0))))] (kp 126 [0,1,2,8]))
  (.seq (.region [oa 9 (.mov (ai 0))] (kp 126 [0,1,2,8,9]))
  (.seq (.seq (.region [oa 10 (.mov (ai 0))] (kp 126 [0,1,2,8,9,10]))
  (.block 0
  (.seq (sk 126 [0,1,2,8,9,10])
  (.loop l97_0))))
  (.seq (.region [oa 72 (.mov (.t 0)), oa 73 (.mov (.t 1)), oa 74 (.call 88 [(.t 72), (.t 73)])] (kp 126 [0,1,8]))
  (.seq (.region [oa 13 (.mov (.c (.slice none 0 (some 0))))] (kp 126 [0,1,8,13]))
  (.seq (.seq (.region [oa 14 (.mov (ai 0))] (kp 126 [0,1,8,13,14]))
  (.block 2
  (.seq (sk 126 [0,1,8,13,14])
  (.loop l97_1))))
  (.seq (.region [oa 125 (.mov (.t 13)), oa 6 (.mov (.t 125)), oa 7 (.mov (ai 0))] (kp 126 [6,7]))
  (sr 126 [6,7])))))))))))⟩
theorem F97 : shutF Try.prog 97 = some c97 := by kernel_rfl
section
variable {o : Nat → Option O} {s : St} {C F : Ch} {Q : V → St → Prop}
set_option maxRecDepth 10000
def RSetErr (C : Ch) (hv : V) (N L i VL err : Int) : Prop := (RGone C hv ∧ err = 6) ∨
  ∃ hr : RHeap, ∃ p, hv = ptrN hr.id ∧ RIn C p hr ∧ hr.regs ≠ [] ∧ hr.regs.length ≤ 100000 ∧ (∀ g ∈ hr.regs, g.objs.length ≤ 100000) ∧ ((err = 2 ∧ ¬ (1 ≤ L ∧ 0 ≤ VL ∧ VL ≤ 100000)) ∨ (1 ≤ L ∧ 0 ≤ VL ∧ VL ≤ 100000 ∧ ((err = 80 ∧ rfind N L hr.regs 0 = none) ∨
    (err = 2 ∧ ∃ a b g x, rfind N L hr.regs 0 = some (a, b) ∧ hr.regs[a]? = some g ∧ g.objs[b]? = some x ∧ ¬ (0 ≤ i ∧ i < x.b.ws.length)))))
theorem s66_err (hC : Holds o s C) {hv : V} {N L i VN VL err : Int} (e : RSetErr C hv N L i VL err) (q : ∀ s', Holds o s' C → Q (I err) s') : WP (call PF 66 [hv, .agg [I N, I L], I i, .agg [I VN, I VL]] s) Q := by
  have h1 := (hC.alloc (.cells [I N, I L] none)).alloc (.cells [I VN, I VL] none)
  have hs : ∀ x ∈ C, x ∈ (s.next + 1, some (.cells [I VN, I VL] none)) :: (s.next, some (.cells [I N, I L] none)) :: C := fun x hx => List.mem_cons_of_mem _ (List.mem_cons_of_mem _ hx)
  rcases e with ⟨g, rfl⟩ | ⟨hr, p, rfl, hin, h0, hlen, hl, ⟨rfl, hb⟩ | ⟨k1, k2, k3, h⟩⟩
  · have e := s87_gone h1 (g.mono hs)
    rw [call_run F66]; simp -implicitDefEqProofs only [↓GP, GB, GL, Nat.reduceAdd, Nat.reduceSub, Nat.reduceEqDiff, Nat.reduceMul, Nat.reduceLeDiff, Int.reduceBNe, Int.reduceBEq, Nat.reduceLT, reduceCtorEq, c66, e]; exact q _ h1.tl.tl
  · have e := s87 h1 (hin.mono hs) h0
    by_cases k1 : L < 1
    · rw [call_run F66]; simp -implicitDefEqProofs only [↓GP, GB, GL, Nat.reduceAdd, Nat.reduceSub, Nat.reduceEqDiff, Nat.reduceMul, Nat.reduceLeDiff, Int.reduceBNe, Int.reduceBEq, Nat.reduceLT, reduceCtorEq, c66, e, k1]; exact q _ h1.tl.tl
    · by_cases k2 : VL < 0
      · rw [call_run F66]; simp -implicitDefEqProofs only [↓GP, GB, GL, Nat.reduceAdd, Nat.reduceSub, Nat.reduceEqDiff, Nat.reduceMul, Nat.reduceLeDiff, Int.reduceBNe, Int.reduceBEq, Nat.reduceLT, reduceCtorEq, c66, e, k1, k2]; exact q _ h1.tl.tl
      · have k3 : (VL > 100000) := by omega
        rw [call_run F66]; simp -implicitDefEqProofs only [↓GP, GB, GL, Nat.reduceAdd, Nat.reduceSub, Nat.reduceEqDiff, Nat.reduceMul, Nat.reduceLeDiff, Int.reduceBNe, Int.reduceBEq, Nat.reduceLT, reduceCtorEq, c66, e, k1, k2, k3]; exact q _ h1.tl.tl
  · have e := s87 h1 (hin.mono hs) h0
    have j1 : ¬ L < 1 := by omega
    have j2 : ¬ VL < 0 := by omega
    have j3 : ¬ (VL > 100000) := by omega
    rw [call_run F66]; simp -implicitDefEqProofs only [↓GP, GB, GL, Nat.reduceAdd, Nat.reduceSub, Nat.reduceEqDiff, Nat.reduceMul, Nat.reduceLeDiff, Int.reduceBNe, Int.reduceBEq, Nat.reduceLT, reduceCtorEq, c66, e, j1, j2, j3]
    refine wp_in (s103 h1 (hin.mono hs) hlen hl fun s1 h2 => ?_)
    rcases h with ⟨rfl, hf⟩ | ⟨rfl, a, b, g, x, hf, hg, hx, hi⟩
    · rw [hf]
      simp -implicitDefEqProofs only [↓GP, GB, GL, Nat.reduceAdd, Nat.reduceSub, Nat.reduceEqDiff, Nat.reduceMul, Nat.reduceLeDiff, Int.reduceBNe, Int.reduceBEq, Nat.reduceLT, reduceCtorEq, Int.reduceNeg, Int.reduceLT]; exact q _ h2.tl.tl
    · rw [hf]
      have f := h2.mem (hs _ hin.id)
      have fr := h2.mem (hs _ hin.row)
      simp only [RHeap.hd] at f
      have mo := hin.ob (List.mem_of_getElem? hg)
      have hb := (List.getElem?_eq_some_iff.1 hx).1
      unfold RReg.obO at mo
      rw [rowO_pos (by omega)] at mo
      have fo := h2.mem (hs _ mo)
      have ha : ¬ ((a : Int) < 0) := by omega
      by_cases hi0 : i < 0
      · simp -implicitDefEqProofs only [↓GP, GB, GL, Nat.reduceAdd, Nat.reduceSub, Nat.reduceEqDiff, Nat.reduceMul, Nat.reduceLeDiff, Int.reduceBNe, Int.reduceBEq, Nat.reduceLT, reduceCtorEq, hi0, ha]; exact q _ h2.tl.tl
      · have hi1 : (i ≥ (x.b.ws.length : Int)) := by omega
        simp -implicitDefEqProofs only [↓GP, GB, GL, Nat.reduceAdd, Nat.reduceSub, Nat.reduceEqDiff, Nat.reduceMul, Nat.reduceLeDiff, Int.reduceBNe, Int.reduceBEq, Nat.reduceLT, reduceCtorEq, f, fr, fo, rreg hg, robj hx, ix_row hb, hi0, hi1, ha]; exact q _ h2.tl.tl
theorem s66 (hC : Holds o s C) {hr : RHeap} {p i : Nat} {N L : Int} {w : Int × Int} (hin : RIn C p hr) (h0 : hr.regs ≠ []) (hlen : hr.regs.length ≤ 100000) (hl : ∀ g ∈ hr.regs, g.objs.length ≤ 100000) (hL : 1 ≤ L) (hv : 0 ≤ w.2 ∧ w.2 ≤ 100000)
    {a b : Nat} {g : RReg} {x : RObj} (hf : rfind N L hr.regs 0 = some (a, b)) (hg : hr.regs[a]? = some g) (hx : g.objs[b]? = some x) (hi : i < x.b.ws.length)
    (hp' : ∀ s1, Holds o s1 C → Holds o s1 ((x.wid, some (.cells (x.b.ws.flatMap encW) (cG x.gr 2))) :: F))
    (q : ∀ s', Holds o s' ((x.wid, some (.cells ((x.b.ws.set i w).flatMap encW) (cG x.gr 2))) :: F) → Q (I 0) s') : WP (call PF 66 [ptrN hr.id, .agg [I N, I L], I i, .agg (encW w)] s) Q := by
  have h1 := (hC.alloc (.cells [I N, I L] none)).alloc (.cells (encW w) none)
  have hs : ∀ x ∈ C, x ∈ (s.next + 1, some (.cells (encW w) none)) :: (s.next, some (.cells [I N, I L] none)) :: C := fun x hx => List.mem_cons_of_mem _ (List.mem_cons_of_mem _ hx)
  have e := s87 h1 (hin.mono hs) h0
  simp only [encW] at e
  have j1 : ¬ L < 1 := by omega
  have j2 : ¬ w.2 < 0 := by omega
  have j3 : ¬ (w.2 > 100000) := by omega
  rw [call_run F66]; simp -implicitDefEqProofs only [↓GP, GB, GL, Nat.reduceAdd, Nat.reduceSub, Nat.reduceEqDiff, Nat.reduceMul, Nat.reduceLeDiff, Int.reduceBNe, Int.reduceBEq, Nat.reduceLT, reduceCtorEq, c66, encW, e, j1, j2, j3]
  refine wp_in (s103 h1 (hin.mono hs) hlen hl fun s1 h2 => ?_)
  rw [hf]
  have f0 := h2.f1
  have f := h2.mem (hs _ hin.id)
  have fr := h2.mem (hs _ hin.row)
  simp only [alloc_next, encW] at f0
  simp only [RHeap.hd] at f
  have mg := List.mem_of_getElem? hg
  have mo := hin.ob mg
  have hb := (List.getElem?_eq_some_iff.1 hx).1
  unfold RReg.obO at mo
  rw [rowO_pos (by omega)] at mo
  have fo := h2.mem (hs _ mo)
  have h3 := hp' _ h2.tl.tl
  have fw := h3.f1
  have ha : ¬ ((a : Int) < 0) := by omega
  have hi0 : ¬ ((i : Int) < 0) := by omega
  have hi1 : ¬ ((i : Int) ≥ (x.b.ws.length : Int)) := by omega
  have hst := fun s => stC_tab encW_len (fun _ => rfl) x.b.ws (cG x.gr 2) hi w x.wid s
  simp only [encW] at hst fw
  simp -implicitDefEqProofs only [↓GP, GB, GL, Nat.reduceAdd, Nat.reduceSub, Nat.reduceEqDiff, Nat.reduceMul, Nat.reduceLeDiff, Int.reduceBNe, Int.reduceBEq, Nat.reduceLT, reduceCtorEq, f0, f, fr, fo, fw, rreg hg, robj hx, ix_row hb, ix_cV hi, hst, hi0, hi1, ha]
  have h4 := h3.set0 (.cells ((x.b.ws.set i w).flatMap encW) (cG x.gr 2))
  exact q _ h4
def rpick (regs : List RReg) (n : Nat) : Nat → List (Int × Int) → Option (List RObj)
  | _, [] => some []
  | nx, w :: l => match rfind w.1 w.2 regs 0 with
    | some (a, b) => if a = n ∧ nx ≤ b then ((regs[n]?.bind fun g => g.objs[b]?).bind fun x => (rpick regs n (b + 1) l).map (x :: ·)) else none
    | none => none
theorem rpick_loop {hr : RHeap} {p n wk : Nat} {ws : List (Int × Int)} {g : RReg}  {K : Kt} (hin : RIn C p hr) (h0 : hr.regs.length ≤ 100000) (hl : ∀ g ∈ hr.regs, g.objs.length ≤ 100000) (hg : hr.regs[n]? = some g) (mw : (wk, rowO 2 ws.length (ws.flatMap encW)) ∈ C) (hwl : ws.length ≤ 100000) :
    ∀ (m i nx k : Nat) (acc : List RObj) (s : St), i + m = ws.length → nx ≤ 100000 → acc.length = i → Holds o s ((k, rowO 3 acc.length (acc.flatMap RObj.enc)) :: C) →
    (∀ s', rpick hr.regs n nx (ws.drop i) = none → Holds o s' C → WP (K .ret (sp 126 [(6, .slice none 0 (some 0)), (7, I 2)]) s') Q) →
    (∀ s' k' xs, rpick hr.regs n nx (ws.drop i) = some xs → Holds o s' ((k', rowO 3 (acc ++ xs).length ((acc ++ xs).flatMap RObj.enc)) :: C) → WP (K (.exit 0) (sp 126 [(0, ptrN hr.id), (1, I n), (8, rowV k' (acc ++ xs).length)]) s') Q) →
    WP (loop PF (.loop l97_0) (sp 126 [(0, ptrN hr.id), (1, I n), (2, rowV wk ws.length), (8, rowV k acc.length), (9, I nx), (10, I i)]) s K) Q
  | 0, i, nx, k, acc, s, hi, hnx, hacc, H, qn, qs => by
    have hlt : ¬ ((i : Int) < (ws.length : Int)) := by omega
    refine wp_round fun LL hLL => ?_
    simp -implicitDefEqProofs only [↓GP, GB, GL, Nat.reduceAdd, Nat.reduceSub, Nat.reduceEqDiff, Nat.reduceMul, Nat.reduceLeDiff, Int.reduceBNe, Int.reduceBEq, Nat.reduceLT, reduceCtorEq, l97_0, hlt]
    have := qs s k [] (by rw [List.drop_eq_nil_of_le (show ws.length ≤ i by omega)]; rfl) (by simpa using H)
    rw [List.append_nil] at this
    exact this
  | m + 1, i, nx, k, acc, s, hi, hnx, hacc, H, qn, qs => by
    have hlt : ((i : Int) < (ws.length : Int)) := by omega
    have hi' : i < ws.length := by omega
    have mw' := mw
    rw [rowO_pos (by omega)] at mw'
    have fw := H.mem (List.mem_cons_of_mem _ mw')
    have hld := ldN_tab encW_len ws (some 2) (show ws[i]? = some ws[i] by simp [hi'])
    have hd : ws.drop i = ws[i] :: ws.drop (i + 1) := List.drop_eq_getElem_cons hi'
    rw [hd] at qn qs
    simp only [rpick] at qn qs
    refine wp_round fun LL hLL => ?_
    simp -implicitDefEqProofs only [↓GP, GB, GL, Nat.reduceAdd, Nat.reduceSub, Nat.reduceEqDiff, Nat.reduceMul, Nat.reduceLeDiff, Int.reduceBNe, Int.reduceBEq, Nat.reduceLT, reduceCtorEq, l97_0, hlt, ix_row hi', fw, hld, encW]
    refine wp_in (s103 H (hin.cons _) h0 hl fun s1 h1 => ?_)
    cases hf : rfind ws[i].1 ws[i].2 hr.regs 0 with
    | none =>
      rw [hf] at qn
      have hb : (((-1 : Int)) != (n : Int)) = true := by rw [bne_iff_ne]; omega
      simp -implicitDefEqProofs only [↓GP, GB, GL, Nat.reduceAdd, Nat.reduceSub, Nat.reduceEqDiff, Nat.reduceMul, Nat.reduceLeDiff, Int.reduceBNe, Int.reduceBEq, Nat.reduceLT, reduceCtorEq, hb, Int.reduceNeg]
      exact qn _ rfl h1.tl
    | some ab =>
      obtain ⟨a, b⟩ := ab
      rw [hf] at qn qs
      simp only at qn qs ⊢
      by_cases han : a = n
      · have hb : (((a : Nat) : Int) != (n : Int)) = false := by rw [han]; simp
        by_cases hbn : nx ≤ b
        · have hb2 : ¬ ((b : Int) < (nx : Int)) := by omega
          rw [if_pos ⟨han, hbn⟩] at qn qs
          obtain ⟨g', x, _, hg', hx, _⟩ := rfind_some hf
          rw [Nat.sub_zero, han, hg] at hg'
          cases hg'
          rw [hg] at qn qs
          simp only [Option.bind_some, hx] at qn qs
          have f := h1.mem (hin.cons _).id
          have fr := h1.mem (hin.cons _).row
          simp only [RHeap.hd] at f
          have mg := List.mem_of_getElem? hg
          have mo := hin.ob mg
          have hbl := (List.getElem?_eq_some_iff.1 hx).1
          unfold RReg.obO at mo
          rw [rowO_pos (by omega)] at mo
          have fo := h1.mem (List.mem_cons_of_mem _ mo)
          have hol := hl g mg
          simp -implicitDefEqProofs only [↓GP, GB, GL, Nat.reduceAdd, Nat.reduceSub, Nat.reduceEqDiff, Nat.reduceMul, Nat.reduceLeDiff, Int.reduceBNe, Int.reduceBEq, Nat.reduceLT, reduceCtorEq, hb, hb2, f, fr, fo, rreg hg, robj hx, ix_row hbl, RObj.enc]
          refine wp_append (cs := acc.flatMap RObj.enc) ((h1.alloc _).r1) (by rw [tab_len RObj.enc_len]) (new_cells' (alloc_new_same _ _) rfl) rfl (by simp only [List.all_cons, List.all_nil, cV_one, one_int, Bool.and_true]) (by omega) (by unfold maxRow; omega) (by unfold maxRow; omega) fun k' s2 h2 => ?_
          have w1 := wrap_add1 (a := i) (by omega)
          have w2 := wrap_add1 (a := b) (by omega)
          simp -implicitDefEqProofs only [↓GP, GB, GL, Nat.reduceAdd, Nat.reduceSub, Nat.reduceEqDiff, Nat.reduceMul, Nat.reduceLeDiff, Int.reduceBNe, Int.reduceBEq, Nat.reduceLT, reduceCtorEq, w1, w2]
          rw [hLL]
          have hl1 : (acc ++ [x]).length = acc.length + 1 := by simp
          have := rpick_loop (K := K) hin h0 hl hg mw hwl m (i + 1) (b + 1) k' (acc ++ [x]) s2 (by omega) (by omega) (by simp; omega) (by simpa [List.flatMap_append, RObj.enc] using h2.r1.tl) (fun s' hn h' => qn s' (by rw [hn]; rfl) h')
            (fun s' k' xs hx h' => by
              have := qs s' k' (x :: xs) (by rw [hx]; rfl) (by simpa using h')
              simpa using this)
          rw [hl1] at this
          exact this
        · have hb2 : ((b : Int) < (nx : Int)) := by omega
          rw [if_neg (fun h => hbn h.2)] at qn
          simp -implicitDefEqProofs only [↓GP, GB, GL, Nat.reduceAdd, Nat.reduceSub, Nat.reduceEqDiff, Nat.reduceMul, Nat.reduceLeDiff, Int.reduceBNe, Int.reduceBEq, Nat.reduceLT, reduceCtorEq, hb, hb2]
          exact qn _ rfl h1.tl
      · have hb : (((a : Nat) : Int) != (n : Int)) = true := by rw [bne_iff_ne]; omega
        rw [if_neg (fun h => han h.1)] at qn
        simp -implicitDefEqProofs only [↓GP, GB, GL, Nat.reduceAdd, Nat.reduceSub, Nat.reduceEqDiff, Nat.reduceMul, Nat.reduceLeDiff, Int.reduceBNe, Int.reduceBEq, Nat.reduceLT, reduceCtorEq, hb]
        exact qn _ rfl h1.tl
def rrelay (xs : List RObj) (ats : List Nat) : List RObj := List.zipWith (fun x a => ⟨x.wid, { x.b with at_ := a }, x.gr⟩) xs ats
theorem rturn_loop {gr : Bool} {hr : RHeap} {p r kk : Nat} {A B : List RReg} {xs : List RObj}  {K : Kt} {life : Nat} (hxl : xs.length ≤ 10000) (mk : (kk, rowO 3 xs.length (xs.flatMap RObj.enc)) ∈ C) (hw : ∀ x ∈ xs, x.b.ws.length ≤ 31) :
    ∀ (m j ok : Nat) (s : St) (u : List Bool) (g : RReg) (ats : List Nat) (u' : List Bool) (fill' : Nat) (pages' : List Nat) (out : List RObj), g.life = life → g.size = 0 → out.length = j → j + m = xs.length → u.length ≤ 400 → RegB u.length 0 g.life g.fill g.pages → pages'.length ≤ 400 → g.objs.length + m ≤ 10000 → (g.pages.length = 0 → g.pgk = 0) →
    layM 0 g.life ((xs.drop j).map fun x => x.b.ws.length + 1) u g.fill g.pages = some (ats, u', fill', pages') →
    Holds o s ((ok, rowO 2 j (out.flatMap (rencP life))) :: (poolG gr p r u ++ (RHeap.ch p { hr with regs := A ++ g :: B } ++ ((xs.drop j).flatMap RObj.ch ++ C)))) →
    (∀ s' ok pgk obk, (pages'.length = 0 → pgk = 0) → Holds o s' ((ok, rowO 2 xs.length ((out ++ rrelay (xs.drop j) ats).flatMap (rencP life))) :: (poolG gr p r u' ++ (RHeap.ch p { hr with regs := A ++ { g with pgk := pgk, obk := obk, fill := fill', pages := pages', objs := g.objs ++ rrelay (xs.drop j) ats } :: B } ++ C))) →
      WP (K (.exit 2) (sp 126 [(13, rowV ok xs.length)]) s') Q) →
    WP (loop PF (.loop l97_1) (sp 126 [(0, ptrN hr.id), (1, I A.length), (8, rowV kk xs.length), (13, rowV ok j), (14, I j)]) s K) Q
  | 0, j, ok, s, u, g, ats, u', fill', pages', out, hlf, hsz, hout, hj, hu, hb, hpl, hol, hz, hlay, H, q => by
    have hlt : ¬ ((j : Int) < (xs.length : Int)) := by omega
    refine wp_round fun LL hLL => ?_
    simp -implicitDefEqProofs only [↓GP, GB, GL, Nat.reduceAdd, Nat.reduceSub, Nat.reduceEqDiff, Nat.reduceMul, Nat.reduceLeDiff, Int.reduceBNe, Int.reduceBEq, Nat.reduceLT, reduceCtorEq, l97_1, hlt]
    have hd : xs.drop j = [] := List.drop_eq_nil_of_le (by omega)
    rw [hd] at hlay H q
    cases hlay
    have e : j = xs.length := by omega
    subst e
    exact q s ok g.pgk g.obk hz (by simpa [rrelay] using H)
  | m + 1, j, ok, s, u, g, ats, u', fill', pages', out, hlf, hsz, hout, hj, hu, hb, hpl, hol, hz, hlay, H, q => by
    have hlt : ((j : Int) < (xs.length : Int)) := by omega
    have hj' : j < xs.length := by omega
    have hd : xs.drop j = xs[j] :: xs.drop (j + 1) := List.drop_eq_getElem_cons hj'
    have mk' := mk
    rw [rowO_pos (by omega)] at mk'
    have fk := H.mem (List.mem_cons_of_mem _ (List.mem_append_right _ (List.mem_append_right _ (List.mem_append_right _ mk'))))
    have hx : xs[j]? = some xs[j] := by simp [hj']
    have hw' := hw xs[j] (List.getElem_mem hj')
    rw [hd] at hlay H q
    rw [List.map_cons] at hlay
    simp only [layM, Option.bind_eq_some_iff, Option.map_eq_some_iff] at hlay
    obtain ⟨⟨at_, u1, fill1, pages1⟩, hput, ⟨ats1, r2⟩, hlay, e⟩ := hlay
    cases e
    have hpl1 := (layM_pages hlay).1
    have hu1 := putM_len hput
    simp only at hpl1 hlay
    have w0 : wrapI .i64 (1 + (xs[j].b.ws.length : Int)) = I ((xs[j].b.ws.length + 1 : Nat) : Int) := wrap_nat (by omega) (by omega)
    refine wp_round fun LL hLL => ?_
    simp -implicitDefEqProofs only [↓GP, GB, GL, Nat.reduceAdd, Nat.reduceSub, Nat.reduceEqDiff, Nat.reduceMul, Nat.reduceLeDiff, Int.reduceBNe, Int.reduceBEq, Nat.reduceLT, reduceCtorEq, l97_1, hlt, ix_row hj', fk, robj hx, RObj.enc, w0]
    have h1 := (H.alloc (.cells [I 0, I 0, .slice none 0 (some 0)] none)).set0 (.cells [I xs[j].b.at_, I xs[j].b.kind, cV xs[j].gr xs[j].wid xs[j].b.ws.length] none)
    have hb' : RegB u.length g.size g.life g.fill g.pages := by rw [hsz]; exact hb
    refine wp_in (s117 (gr := gr) (hr := { hr with regs := A ++ g :: B }) (p := p) (r := r) (u := u) (A := A) (B := B) (g := g) (F := (s.next, some (.cells [I xs[j].b.at_, I xs[j].b.kind, cV xs[j].gr xs[j].wid xs[j].b.ws.length] none)) :: (ok, rowO 2 j (out.flatMap (rencP life))) :: ((xs[j].ch ++ (xs.drop (j + 1)).flatMap RObj.ch) ++ C)) (Holds.of (h1) (fun k => by simp +arith only [HA, HB]) (fun k x => by simp only [HA, HC]; grind only)) rfl hu hb' (by omega) hz hput fun s1 pgk hz1 h2 => ?_)
    have h3 : Holds o s1 ((s.next, some (.cells [I xs[j].b.at_, I xs[j].b.kind, cV xs[j].gr xs[j].wid xs[j].b.ws.length] none)) :: (hr.id, some (RHeap.hd p { hr with regs := A ++ { g with pgk := pgk, fill := fill1, pages := pages1 } :: B })) :: (hr.rowk, some (RHeap.row { hr with regs := A ++ { g with pgk := pgk, fill := fill1, pages := pages1 } :: B })) :: (g.obk, RReg.obO g.objs) ::
      (ok, rowO 2 j (out.flatMap (rencP life))) :: (xs[j].wid, some (.cells (xs[j].b.ws.flatMap encW) (cG xs[j].gr 2))) :: (pgk, pagesO pages1) :: (g.objs.flatMap RObj.ch ++ (poolG gr p r u1 ++ (A.flatMap RReg.ch ++ (B.flatMap RReg.ch ++ ((xs.drop (j + 1)).flatMap RObj.ch ++ C)))))) := (Holds.of (h2) (fun k => by simp +arith only [HA, HB]) (fun k x => by simp only [HA, HC]; grind only))
    have f3 := h3.f3
    have hrr := rreg (h := { hr with regs := A ++ { g with pgk := pgk, fill := fill1, pages := pages1 } :: B }) (i := A.length) (g := { g with pgk := pgk, fill := fill1, pages := pages1 }) (by simp)
    simp only [RHeap.hd] at f3
    simp -implicitDefEqProofs only [↓GP, GB, GL, Nat.reduceAdd, Nat.reduceSub, Nat.reduceEqDiff, Nat.reduceMul, Nat.reduceLeDiff, Int.reduceBNe, Int.reduceBEq, Nat.reduceLT, reduceCtorEq, f3, hrr]
    have h4 := h3.set0 (.cells [I at_, I xs[j].b.kind, cV xs[j].gr xs[j].wid xs[j].b.ws.length] none)
    refine wp_append (sz := 3) (cs := g.objs.flatMap RObj.enc) ((h4.alloc _).r4) (by rw [tab_len RObj.enc_len]) (new_cells' (alloc_new_same _ _) rfl) rfl (by simp only [List.all_cons, List.all_nil, cV_one, one_int, Bool.and_true]) (by omega) (by unfold maxRow; omega) (by unfold maxRow; omega) fun obk s2 h5 => ?_
    have h6 := h5.r1.tl
    have f6 := h6.tl.f3
    have hset := rset1 (h := { hr with regs := A ++ { g with pgk := pgk, fill := fill1, pages := pages1 } :: B }) (A := A) (B := B) (g := { g with pgk := pgk, fill := fill1, pages := pages1 }) rfl (f := 4) (v := rowV obk (g.objs.length + 1)) (by omega) (rowV_one _ _)
      (g' := { g with pgk := pgk, fill := fill1, pages := pages1, obk := obk, objs := g.objs ++ [⟨xs[j].wid, { xs[j].b with at_ := at_ }, xs[j].gr⟩] }) (by simp [RReg.enc])
    have hrr2 := rreg (h := { hr with regs := A ++ { g with pgk := pgk, fill := fill1, pages := pages1, obk := obk, objs := g.objs ++ [⟨xs[j].wid, { xs[j].b with at_ := at_ }, xs[j].gr⟩] } :: B }) (i := A.length) (g := { g with pgk := pgk, fill := fill1, pages := pages1, obk := obk, objs := g.objs ++ [⟨xs[j].wid, { xs[j].b with at_ := at_ }, xs[j].gr⟩] }) (by simp)
    have hrvx : RHeap.rv { hr with regs := A ++ { g with pgk := pgk, fill := fill1, pages := pages1, obk := obk, objs := g.objs ++ [⟨xs[j].wid, { xs[j].b with at_ := at_ }, xs[j].gr⟩] } :: B } = RHeap.rv { hr with regs := A ++ { g with pgk := pgk, fill := fill1, pages := pages1 } :: B } := by simp [RHeap.rv]
    rw [hrvx] at hrr2
    simp only [RHeap.hd] at f6
    have hag := RHeap.againV { hr with regs := A ++ { g with pgk := pgk, fill := fill1, pages := pages1 } :: B }
    simp -implicitDefEqProofs only [↓GP, GB, GL, Nat.reduceAdd, Nat.reduceSub, Nat.reduceEqDiff, Nat.reduceMul, Nat.reduceLeDiff, Int.reduceBNe, Int.reduceBEq, Nat.reduceLT, reduceCtorEq, f6, hag, hrr, hset, hrr2]
    have h7 := (h6.set3 (RHeap.row { hr with regs := A ++ { g with pgk := pgk, fill := fill1, pages := pages1, obk := obk, objs := g.objs ++ [⟨xs[j].wid, { xs[j].b with at_ := at_ }, xs[j].gr⟩] } :: B })).alloc (.cells [I at_, I g.life] none)
    refine wp_append (k := ok) (n := j) (sz := 2) (cs := out.flatMap (rencP life)) (F := (s2.next, some (.cells [I at_, I g.life] none)) :: (obk, rowO 3 (g.objs.length + 1) (g.objs.flatMap RObj.enc ++ [I at_, I xs[j].b.kind, cV xs[j].gr xs[j].wid xs[j].b.ws.length])) ::
      (hr.id, some (RHeap.hd p { hr with regs := A ++ { g with pgk := pgk, fill := fill1, pages := pages1 } :: B })) :: (hr.rowk, some (RHeap.row { hr with regs := A ++ { g with pgk := pgk, fill := fill1, pages := pages1, obk := obk, objs := g.objs ++ [⟨xs[j].wid, { xs[j].b with at_ := at_ }, xs[j].gr⟩] } :: B })) ::
      (xs[j].wid, some (.cells (xs[j].b.ws.flatMap encW) (cG xs[j].gr 2))) :: (pgk, pagesO pages1) :: (g.objs.flatMap RObj.ch ++ (poolG gr p r u1 ++ (A.flatMap RReg.ch ++ (B.flatMap RReg.ch ++ ((xs.drop (j + 1)).flatMap RObj.ch ++ C)))))) (Holds.of (h7) (fun k => by simp +arith only [set_next, HA, HB]) (fun k x => by simp only [set_next, HA, HC]; grind only))
      (by rw [tab_len (sz := 2) (fun _ => rfl)]; omega) (new_cells' (alloc_new_same _ _) rfl) rfl rfl (by omega) (by unfold maxRow; omega) (by unfold maxRow; omega) fun ok' s3 h8 => ?_
    have w1 := wrap_add1 (a := j) (by omega)
    simp -implicitDefEqProofs only [↓GP, GB, GL, Nat.reduceAdd, Nat.reduceSub, Nat.reduceEqDiff, Nat.reduceMul, Nat.reduceLeDiff, Int.reduceBNe, Int.reduceBEq, Nat.reduceLT, reduceCtorEq, w1]
    rw [hLL]
    refine rturn_loop (gr := gr) (p := p) (r := r) (B := B) hxl mk hw m (j + 1) ok' s3 u1 { g with pgk := pgk, fill := fill1, pages := pages1, obk := obk, objs := g.objs ++ [⟨xs[j].wid, { xs[j].b with at_ := at_ }, xs[j].gr⟩] } ats1 u' fill' pages' (out ++ [⟨xs[j].wid, { xs[j].b with at_ := at_ }, xs[j].gr⟩]) hlf hsz (by simp; omega) (by omega) (by omega)
      (putM_b hput hb (by omega) (show pages1.length ≤ 400 by omega)) hpl (by simp; omega) hz1 hlay ?_ fun s4 ok2 pgk2 obk2 hz2 h9 => ?_
    · have hex : (out ++ [(⟨xs[j].wid, { xs[j].b with at_ := at_ }, xs[j].gr⟩ : RObj)]).flatMap (rencP life) = out.flatMap (rencP life) ++ [I at_, I g.life] := by rw [List.flatMap_append, hlf]; rfl
      rw [hex]
      exact (Holds.of (h8) (fun k => by simp +arith only [RHeap.hd, RHeap.rv, RReg.obO, RObj.enc, List.length_append, List.length_cons, List.length_nil, Nat.zero_add, HA, HB]) (fun k x => by simp only [RHeap.hd, RHeap.rv, RReg.obO, RObj.enc, List.length_append, List.length_cons, List.length_nil, Nat.zero_add, HA, HC]; grind only))
    · have er : ∀ l : List RObj, l ++ rrelay (xs[j] :: xs.drop (j + 1)) (at_ :: ats1) = (l ++ [⟨xs[j].wid, { xs[j].b with at_ := at_ }, xs[j].gr⟩]) ++ rrelay (xs.drop (j + 1)) ats1 := by
        intro l; simp only [rrelay, List.zipWith_cons_cons, List.append_assoc, List.cons_append, List.nil_append]
      refine q s4 ok2 pgk2 obk2 hz2 ?_
      rw [er, er]
      exact h9
theorem rpick_sublist {regs : List RReg} {n : Nat} {g : RReg} (hg : regs[n]? = some g) : ∀ {ws : List (Int × Int)} {nx : Nat} {xs : List RObj}, rpick regs n nx ws = some xs → xs.Sublist (g.objs.drop nx) ∧ xs.length = ws.length
  | [], nx, xs, h => by cases h; exact ⟨List.nil_sublist _, rfl⟩
  | w :: ws, nx, xs, h => by
    simp only [rpick] at h
    split at h
    · rename_i a b hf
      split at h
      · rename_i hab
        rw [hg] at h
        simp only [Option.bind_some, Option.bind_eq_some_iff, Option.map_eq_some_iff] at h
        obtain ⟨x, hx, ys, h1, rfl⟩ := h
        obtain ⟨k1, k2⟩ := rpick_sublist hg h1
        have hb := (List.getElem?_eq_some_iff.1 hx).1
        refine ⟨?_, by simp [k2]⟩
        have e : g.objs.drop b = x :: g.objs.drop (b + 1) := by rw [List.drop_eq_getElem_cons hb, (List.getElem?_eq_some_iff.1 hx).2]
        have : (g.objs.drop b).Sublist (g.objs.drop nx) := by
          rw [show b = nx + (b - nx) by omega, ← List.drop_drop]; exact List.drop_sublist _ _
        exact (List.Sublist.cons_cons x k1).trans (e ▸ this)
      · cases h
    · cases h
theorem s97_err (hC : Holds o s C) {hv wv : V} {n err : Int} (e : RAtErr C hv n err) : call PF 97 [hv, I n, wv] s = some (.tuple [.slice none 0 (some 0), I err], s) := by
  rcases e with ⟨g, rfl⟩ | ⟨rfl, hr, p, rfl, hin, h0, hb⟩
  · have e := s87_gone hC g
    rw [call_run F97]; simp -implicitDefEqProofs only [↓GP, GB, GL, Nat.reduceAdd, Nat.reduceSub, Nat.reduceEqDiff, Nat.reduceMul, Nat.reduceLeDiff, Int.reduceBNe, Int.reduceBEq, Nat.reduceLT, reduceCtorEq, c97, e]
  · have e := s87 hC hin h0
    have e2 := s106 hC hin n
    rw [is_false hb] at e2
    rw [call_run F97]; simp -implicitDefEqProofs only [↓GP, GB, GL, Nat.reduceAdd, Nat.reduceSub, Nat.reduceEqDiff, Nat.reduceMul, Nat.reduceLeDiff, Int.reduceBNe, Int.reduceBEq, Nat.reduceLT, reduceCtorEq, c97, e, e2]
theorem s97_bad (hC : Holds o s C) {hr : RHeap} {p i wk : Nat} {ws : List (Int × Int)} (hin : RIn C p hr) (hlen : hr.regs.length ≤ 100000) (hl : ∀ g ∈ hr.regs, g.objs.length ≤ 100000) {g : RReg} (hg : hr.regs[i]? = some g) (hwl : ws.length ≤ 100000) (mw : (wk, rowO 2 ws.length (ws.flatMap encW)) ∈ C)
    (hb : 0 < g.size ∨ rpick hr.regs i 0 ws = none) (q : ∀ s', Holds o s' C → Q (.tuple [.slice none 0 (some 0), I 2]) s') : WP (call PF 97 [ptrN hr.id, I i, rowV wk ws.length] s) Q := by
  have hi := (List.getElem?_eq_some_iff.1 hg).1
  have e := s87 hC hin (List.length_pos_iff.1 (by omega))
  have e2 := s106 hC hin i
  rw [is_true hi] at e2
  have f := hC.mem hin.id
  have fr := hC.mem hin.row
  simp only [RHeap.hd] at f
  by_cases hs : ((g.size : Int) > 0)
  · rw [call_run F97]; simp -implicitDefEqProofs only [↓GP, GB, GL, Nat.reduceAdd, Nat.reduceSub, Nat.reduceEqDiff, Nat.reduceMul, Nat.reduceLeDiff, Int.reduceBNe, Int.reduceBEq, Nat.reduceLT, reduceCtorEq, c97, e, e2, f, fr, rreg hg, hs]
    exact q _ hC
  · have hn : rpick hr.regs i 0 ws = none := by
      rcases hb with h | h
      · omega
      · exact h
    rw [call_run F97]; simp -implicitDefEqProofs only [↓GP, GB, GL, Nat.reduceAdd, Nat.reduceSub, Nat.reduceEqDiff, Nat.reduceMul, Nat.reduceLeDiff, Int.reduceBNe, Int.reduceBEq, Nat.reduceLT, reduceCtorEq, c97, e, e2, f, fr, rreg hg, hs]
    refine rpick_loop hin hlen hl hg mw hwl ws.length 0 0 0 [] s (by omega) (by omega) rfl (hC.nilEntry 0) (fun s1 _ h1 => ?_) fun s1 k xs hx h1 => by rw [List.drop_zero, hn] at hx; cases hx
    simp -implicitDefEqProofs only [↓GP, GB, GL, Nat.reduceAdd, Nat.reduceSub, Nat.reduceEqDiff, Nat.reduceMul, Nat.reduceLeDiff, Int.reduceBNe, Int.reduceBEq, Nat.reduceLT, reduceCtorEq]
    exact q _ h1
theorem s97 {gr : Bool} {hr : RHeap} {p r wk : Nat} {u : List Bool} {A B : List RReg} {g : RReg} {ws : List (Int × Int)} {xs : List RObj} {ats : List Nat} {u' : List Bool} {fill' : Nat} {pages' : List Nat} (H : Holds o s (poolG gr p r u ++ (hr.ch p ++ F))) (hre : hr.regs = A ++ g :: B)
    (hlen : hr.regs.length ≤ 100000) (hl : ∀ g ∈ hr.regs, g.objs.length ≤ 5000) (hu : u.length ≤ 400) (hok : RegOk u.length g.m) (hwl : ws.length ≤ 5000) (mw : (wk, rowO 2 ws.length (ws.flatMap encW)) ∈ F) (hs0 : g.size = 0) (hpick : rpick hr.regs A.length 0 ws = some xs)
    (hlay : layM 0 g.life (xs.map fun x => x.b.ws.length + 1) (freeP u g.pages) 0 [] = some (ats, u', fill', pages')) (hpl : pages'.length ≤ 400)
    (q : ∀ s' pgk obk kk, (pages'.length = 0 → pgk = 0) → Holds o s' ((kk, rowO 2 ws.length ((rrelay xs ats).flatMap (rencP g.life))) :: (poolG gr p r u' ++ (RHeap.ch p { hr with regs := A ++ { g with pgk := pgk, obk := obk, fill := fill', pages := pages', objs := rrelay xs ats } :: B } ++ F))) →
      Q (.tuple [rowV kk ws.length, I 0]) s') : WP (call PF 97 [ptrN hr.id, I A.length, rowV wk ws.length] s) Q := by
  have hin : RIn (poolG gr p r u ++ (hr.ch p ++ F)) p hr := ⟨fun x hx => List.mem_append_right _ (List.mem_append_left _ hx)⟩
  have hg : hr.regs[A.length]? = some g := by rw [hre]; simp
  have hi := (List.getElem?_eq_some_iff.1 hg).1
  have mg := List.mem_of_getElem? hg
  have e := s87 H hin (List.length_pos_iff.1 (by omega))
  have e2 := s106 H hin A.length
  rw [is_true hi] at e2
  have f := H.mem hin.id
  have fr := H.mem hin.row
  simp only [RHeap.hd] at f
  have hw31 := hok.ws
  simp only [RReg.m] at hw31
  obtain ⟨hsub, hxl⟩ := rpick_sublist hg hpick
  rw [List.drop_zero] at hsub
  have hs : ¬ ((g.size : Int) > 0) := by omega
  rw [call_run F97]; simp -implicitDefEqProofs only [↓GP, GB, GL, Nat.reduceAdd, Nat.reduceSub, Nat.reduceEqDiff, Nat.reduceMul, Nat.reduceLeDiff, Int.reduceBNe, Int.reduceBEq, Nat.reduceLT, reduceCtorEq, c97, e, e2, f, fr, rreg hg, hs]
  refine rpick_loop hin hlen (fun g hg => Nat.le_trans (hl g hg) (by omega)) hg (List.mem_append_right _ (List.mem_append_right _ mw)) (by omega) ws.length 0 0 0 [] s (by omega) (by omega) rfl (H.nilEntry 0) (fun s1 hn _ => by rw [List.drop_zero, hpick] at hn; cases hn) fun s1 k xs' hx h1 => ?_
  rw [List.drop_zero, hpick] at hx
  cases hx
  simp only [List.nil_append] at h1
  simp -implicitDefEqProofs only [↓GP, GB, GL, Nat.reduceAdd, Nat.reduceSub, Nat.reduceEqDiff, Nat.reduceMul, Nat.reduceLeDiff, Int.reduceBNe, Int.reduceBEq, Nat.reduceLT, reduceCtorEq]
  refine wp_in (s88 (gr := gr) (hr := hr) (p := p) (r := r) (u := u) (A := A) (B := B) (g := g) (F := (k, rowO 3 xs.length (xs.flatMap RObj.enc)) :: F) (Holds.of (h1) (fun k => by simp +arith only [HA, HB]) (fun k x => by simp only [HA, HC]; grind only)) hre hu hok.pages hok.npages fun s2 h2 => ?_)
  have h3 : Holds o s2 (xs.flatMap RObj.ch ++ (poolG gr p r (freeP u g.pages) ++ (RHeap.ch p { hr with regs := A ++ { g with pgk := 0, fill := 0, pages := [], objs := [] } :: B } ++ ((k, rowO 3 xs.length (xs.flatMap RObj.enc)) :: F)))) :=
    Holds.subl (X := g.objs.flatMap RObj.ch) (Holds.of (h2) (fun k => by simp +arith only [HA, HB]) (fun k x => by simp only [HA, HC]; grind only)) (flatMap_sublist _ hsub)
  have hfl : (freeP u g.pages).length = u.length := freeP_len _ _
  have hgl := hl g mg
  have hxs := hsub.length_le
  simp -implicitDefEqProofs only [↓GP, GB, GL, Nat.reduceAdd, Nat.reduceSub, Nat.reduceEqDiff, Nat.reduceMul, Nat.reduceLeDiff, Int.reduceBNe, Int.reduceBEq, Nat.reduceLT, reduceCtorEq]
  refine rturn_loop (gr := gr) (hr := hr) (p := p) (r := r) (A := A) (B := B) (life := g.life) (C := (k, rowO 3 xs.length (xs.flatMap RObj.enc)) :: F) (by omega) (List.mem_cons_self ..) (fun x hx => hw31 x.b (List.mem_map.2 ⟨x, hsub.subset hx, rfl⟩)) xs.length 0 0 s2 (freeP u g.pages) { g with pgk := 0, fill := 0, pages := [], objs := [] } ats u' fill' pages' [] rfl hs0 rfl (by omega) (by omega)
    ⟨by omega, hok.life, (show 0 ≤ 32 by omega), by simp, by simp⟩ hpl (by simp; omega) (fun _ => rfl) (by rw [List.drop_zero]; exact hlay) (by rw [List.drop_zero]; exact (Holds.of (h3.nilEntry 0) (fun k => by simp +arith only [rowO_zero, HA, HB]) (fun k x => by simp only [rowO_zero, HA, HC]; grind only))) fun s3 kk pgk obk hz3 h4 => ?_
  rw [List.drop_zero] at h4
  simp only [List.nil_append] at h4
  simp -implicitDefEqProofs only [↓GP, GB, GL, Nat.reduceAdd, Nat.reduceSub, Nat.reduceEqDiff, Nat.reduceMul, Nat.reduceLeDiff, Int.reduceBNe, Int.reduceBEq, Nat.reduceLT, reduceCtorEq]
  rw [hxl] at h4 ⊢
  exact q s3 pgk obk kk hz3 (Holds.of (h4) (fun k => by simp +arith only [HA, HB]) (fun k x => by simp only [HA, HC]; grind only))
end
end Go.Proofs.Ytoldkemimhebaaa

set_option linter.unusedSimpArgs false
set_option linter.unusedVariables false
namespace Go.Proofs.Ytoldkemimhebaaa
open Go Go.IM
inductive Packed : List (Nat × Nat) → List Nat → Nat → Prop
  | nil : Packed [] [] 0
  | fit {os ps f p n} : Packed os ps f → ps.getLast? = some p → f + n ≤ 32 → Packed (os ++ [(p * 32 + f, n)]) ps (f + n)
  | page {os ps f q n} : Packed os ps f → (ps = [] ∨ ¬ f + n ≤ 32) → q ∉ ps → Packed (os ++ [(q * 32, n)]) (ps ++ [q]) n
def step (st : Nat × Nat) (n : Nat) : Nat × Nat := if 0 < st.1 ∧ st.2 + n ≤ 32 then (st.1, st.2 + n) else (st.1 + 1, n)
theorem Packed.fold {os : List (Nat × Nat)} {ps : List Nat} {f : Nat} (h : Packed os ps f) : (os.map (·.2)).foldl step (0, 0) = (ps.length, f) := by
  induction h with
  | nil => rfl
  | @fit os ps f p n h hp hf ih =>
    rw [List.map_append, List.foldl_append, ih]
    have : 0 < ps.length := by cases ps with | nil => simp at hp | cons => simp
    simp [step, this, hf]
  | @page os ps f q n h hc hq ih =>
    rw [List.map_append, List.foldl_append, ih]
    have : ¬ (0 < ps.length ∧ f + n ≤ 32) := by
      rintro ⟨h1, h2⟩
      rcases hc with rfl | hc
      · simp at h1
      · exact hc h2
    simp [step, this]
def Le2 (a b : Nat × Nat) : Prop := a.1 < b.1 ∨ a.1 = b.1 ∧ a.2 ≤ b.2
theorem step_mono {a b : Nat × Nat} (h : Le2 a b) (n : Nat) : Le2 (step a n) (step b n) := by
  obtain ⟨c, f⟩ := a
  obtain ⟨d, g⟩ := b
  unfold step Le2 at *
  simp only at *
  split <;> split <;> simp only <;> omega
theorem step_inc (b : Nat × Nat) (n : Nat) : Le2 b (step b n) := by
  unfold step Le2
  split <;> simp <;> omega
theorem Le2.trans {a b c : Nat × Nat} (h : Le2 a b) (k : Le2 b c) : Le2 a c := by unfold Le2 at *; omega
theorem Le2.refl (a : Nat × Nat) : Le2 a a := by unfold Le2; omega
theorem fold_inc : ∀ (ns : List Nat) (a : Nat × Nat), Le2 a (ns.foldl step a)
  | [], a => Le2.refl a
  | n :: ns, a => (step_inc a n).trans (fold_inc ns _)
theorem fold_sub {xs ys : List Nat} (h : xs.Sublist ys) : ∀ {a b : Nat × Nat}, Le2 a b → Le2 (xs.foldl step a) (ys.foldl step b) := by
  induction h with
  | slnil => exact fun h => h
  | cons y _ ih => exact fun h => ih (h.trans (step_inc _ y))
  | cons_cons y _ ih => exact fun h => ih (step_mono h y)
theorem Packed.facts {os : List (Nat × Nat)} {ps : List Nat} {f : Nat} (h : Packed os ps f) (hn : ∀ x ∈ os, 1 ≤ x.2 ∧ x.2 ≤ 32) :
    f ≤ 32 ∧ (∀ x ∈ os, ∃ p ∈ ps, p * 32 ≤ x.1 ∧ x.1 + x.2 ≤ p * 32 + 32 ∧ (ps.getLast? = some p → x.1 + x.2 ≤ p * 32 + f)) ∧ os.length ≤ 32 * ps.length ∧ (ps ≠ [] → os.length + 32 ≤ 32 * ps.length + f) ∧ ps.Nodup ∧
    os.Pairwise (fun x y => x.1 + x.2 ≤ y.1 ∨ y.1 + y.2 ≤ x.1) := by
  induction h with
  | nil => simp
  | @fit os ps f p n h hp hf ih =>
    obtain ⟨h1, h2, h3, h4, h5, h6⟩ := ih fun x hx => hn x (List.mem_append_left _ hx)
    have hn' := hn _ (List.mem_append_right _ (List.mem_singleton.2 rfl))
    simp only at hn'
    have hne : ps ≠ [] := by intro e; rw [e] at hp; simp at hp
    have h4' := h4 hne
    have hpm := List.mem_of_getLast? hp
    refine ⟨hf, ?_, ?_, ?_, h5, ?_⟩
    · intro x hx
      rcases List.mem_append.1 hx with hx | hx
      · obtain ⟨q, hq, k1, k2, k3⟩ := h2 x hx
        exact ⟨q, hq, k1, k2, fun e => by have := k3 e; omega⟩
      · simp at hx; subst hx
        exact ⟨p, hpm, by simp, by simp; omega, fun _ => by simp; omega⟩
    · simp; omega
    · intro _; simp; omega
    · rw [List.pairwise_append]
      refine ⟨h6, by simp, fun x hx y hy => ?_⟩
      simp at hy; subst hy
      obtain ⟨q, hq, k1, k2, k3⟩ := h2 x hx
      by_cases e : q = p
      · subst e; have := k3 hp; simp; omega
      · simp only; omega
  | @page os ps f q n h hc hq ih =>
    obtain ⟨h1, h2, h3, h4, h5, h6⟩ := ih fun x hx => hn x (List.mem_append_left _ hx)
    have hn' := hn _ (List.mem_append_right _ (List.mem_singleton.2 rfl))
    simp only at hn'
    refine ⟨by omega, ?_, ?_, ?_, ?_, ?_⟩
    · intro x hx
      rcases List.mem_append.1 hx with hx | hx
      · obtain ⟨p, hp, k1, k2, k3⟩ := h2 x hx
        refine ⟨p, List.mem_append_left _ hp, k1, k2, fun e => ?_⟩
        simp at e; subst e; exact absurd hp hq
      · simp at hx; subst hx
        exact ⟨q, by simp, by simp, by simp; omega, fun _ => by simp⟩
    · simp; omega
    · intro _; simp
      by_cases e : ps = []
      · subst e; simp at h3 ⊢; subst h3; simp; omega
      · have := h4 e; omega
    · rw [List.nodup_append]
      exact ⟨h5, by simp, fun x hx y hy => by simp at hy; subst hy; intro e; exact hq (e ▸ hx)⟩
    · rw [List.pairwise_append]
      refine ⟨h6, by simp, fun x hx y hy => ?_⟩
      simp at hy; subst hy
      obtain ⟨p, hp, k1, k2, k3⟩ := h2 x hx
      have : p ≠ q := fun e => hq (e ▸ hp)
      simp only; omega
theorem Packed.nodup {os : List (Nat × Nat)} {ps : List Nat} {f : Nat} (h : Packed os ps f) (hn : ∀ x ∈ os, 1 ≤ x.2 ∧ x.2 ≤ 32) : (os.map (·.1)).Nodup := by
  have h6 := (h.facts hn).2.2.2.2.2
  rw [List.Nodup, List.pairwise_map]
  exact List.Pairwise.imp_of_mem (fun {x y} hx hy h => by have := hn x hx; have := hn y hy; omega) h6
structure PoolInv (u : List Bool) (all : List Nat) : Prop where
  nodup : all.Nodup
  iff : ∀ p, p ∈ all ↔ u[p]? = some true
theorem PoolInv.perm {u : List Bool} {a b : List Nat} (h : PoolInv u a) (p : a.Perm b) : PoolInv u b := ⟨p.nodup_iff.1 h.nodup, fun x => by rw [← p.mem_iff]; exact h.iff x⟩
theorem PoolInv.lt {u : List Bool} {a : List Nat} (h : PoolInv u a) {p : Nat} (hp : p ∈ a) : p < u.length := (List.getElem?_eq_some_iff.1 ((h.iff p).1 hp)).1
theorem takeP_free {u : List Bool} {n : Nat} (h : takeP u = some n) : u[n]? = some false := by
  obtain ⟨h1, h2, _⟩ := List.findIdx?_eq_some_iff_getElem.1 h
  rw [List.getElem?_eq_getElem h1]; simpa using h2
theorem PoolInv.take {u : List Bool} {a : List Nat} (h : PoolInv u a) {n : Nat} (ht : takeP u = some n) : PoolInv (u.set n true) (n :: a) ∧ n ∉ a := by
  have hn := takeP_free ht
  have hlt := takeP_lt ht
  have hna : n ∉ a := fun m => by rw [(h.iff n).1 m] at hn; cases hn
  refine ⟨⟨List.nodup_cons.2 ⟨hna, h.nodup⟩, fun p => ?_⟩, hna⟩
  rw [List.mem_cons, List.getElem?_set]
  by_cases e : n = p
  · subst e; simp [hlt]
  · have : ¬ p = n := fun x => e x.symm
    simp [e, this, h.iff p]
theorem PoolInv.free1 {u : List Bool} {n : Nat} {a : List Nat} (h : PoolInv u (n :: a)) : PoolInv (u.set n false) a := by
  obtain ⟨h1, h2⟩ := List.nodup_cons.1 h.nodup
  refine ⟨h2, fun p => ?_⟩
  rw [List.getElem?_set]
  by_cases e : n = p
  · subst e; simp [h1]
  · have := h.iff p
    have e' : ¬ p = n := fun x => e x.symm
    simp only [List.mem_cons, e', false_or] at this
    simp [e, this]
theorem PoolInv.free : ∀ {ps : List Nat} {u : List Bool} {a : List Nat}, PoolInv u (ps ++ a) → PoolInv (freeP u ps) a
  | [], _, _, h => h
  | n :: ps, u, a, h => PoolInv.free (ps := ps) (u := u.set n false) (PoolInv.free1 h)
theorem PoolInv.count : ∀ {a : List Nat} {u : List Bool}, PoolInv u a → u.count true = a.length
  | [], u, h => by
    show u.count true = 0
    rw [List.count_eq_zero]
    intro hm
    obtain ⟨i, hi⟩ := List.mem_iff_getElem?.1 hm
    have := (h.iff i).2 hi
    cases this
  | n :: a, u, h => by
    have h1 := h.free1
    have ih := h1.count
    have hn := (h.iff n).1 (List.mem_cons_self ..)
    have hlt := (List.getElem?_eq_some_iff.1 hn).1
    have e : u = (u.set n false).set n true := by
      rw [List.set_set]
      apply List.ext_getElem?
      intro i
      rw [List.getElem?_set]
      by_cases e : n = i
      · subst e; simp [hlt]; exact (List.getElem?_eq_some_iff.1 hn).2
      · simp [e]
    have hc := List.count_set (l := u) (a := false) (b := true) hlt
    rw [(List.getElem?_eq_some_iff.1 hn).2] at hc
    have hpos : 0 < u.count true := List.count_pos_iff.2 (List.mem_of_getElem? hn)
    rw [ih] at hc
    simp at hc
    simp; omega
theorem PoolInv.len {u : List Bool} {a : List Nat} (h : PoolInv u a) : a.length ≤ u.length := by rw [← h.count]; exact List.count_le_length
theorem PoolInv.sub_len {u : List Bool} {a b : List Nat} (h : PoolInv u a) (hb : b.Sublist a) : b.length ≤ u.length := Nat.le_trans hb.length_le h.len
theorem takeP_some {u : List Bool} (h : 0 < u.count false) : ∃ n, takeP u = some n := by
  cases ht : takeP u with
  | some n => exact ⟨n, rfl⟩
  | none =>
    have := List.findIdx?_eq_none_iff.1 ht
    have hm := List.count_pos_iff.1 h
    have := this false hm
    simp at this
theorem count_take {u : List Bool} {n : Nat} (h : takeP u = some n) : (u.set n true).count false + 1 = u.count false := by
  have hlt := takeP_lt h
  have hn := takeP_free h
  have hc := List.count_set (l := u) (a := true) (b := false) hlt
  rw [(List.getElem?_eq_some_iff.1 hn).2] at hc
  have hpos : 0 < u.count false := List.count_pos_iff.2 (List.mem_of_getElem? hn)
  simp at hc
  omega
theorem layM_some {life : Nat} : ∀ (ns : List Nat) (u : List Bool) (fill : Nat) (pages : List Nat), (ns.foldl step (pages.length, fill)).1 ≤ pages.length + u.count false →
    ∃ r, layM 0 life ns u fill pages = some r ∧ r.2.2.2.length = (ns.foldl step (pages.length, fill)).1
  | [], u, fill, pages, _ => ⟨_, rfl, rfl⟩
  | n :: ns, u, fill, pages, h => by
    rw [List.foldl_cons] at h ⊢
    have key : ∃ p, putM u 0 life fill pages n = some p ∧ (p.2.2.2.length, p.2.2.1) = step (pages.length, fill) n ∧ p.2.2.2.length + p.2.1.count false = pages.length + u.count false := by
      unfold putM
      rw [if_neg (by omega)]
      have newp : ¬ (0 < pages.length ∧ fill + n ≤ 32) → ∃ p, ((takeP u).map fun q => (q * 32, u.set q true, n, pages ++ [q])) = some p ∧ (p.2.2.2.length, p.2.2.1) = step (pages.length, fill) n ∧ p.2.2.2.length + p.2.1.count false = pages.length + u.count false := by
        intro hc
        have hs : step (pages.length, fill) n = (pages.length + 1, n) := by simp only [step]; rw [if_neg hc]
        rw [hs] at h
        have h1 := fold_inc ns (pages.length + 1, n)
        have : 0 < u.count false := by unfold Le2 at h1; simp only at h1; omega
        obtain ⟨q, hq⟩ := takeP_some this
        refine ⟨_, by rw [hq]; rfl, ?_, ?_⟩
        · rw [hs]; simp
        · have := count_take hq; simp; omega
      split
      · rename_i p hp
        have hpos : 0 < pages.length := by cases pages with | nil => simp at hp | cons => simp
        split
        · rename_i hf
          refine ⟨_, rfl, ?_, rfl⟩
          simp [step, hpos, hf]
        · rename_i hf
          exact newp fun hc => hf hc.2
      · rename_i hp
        exact newp fun hc => by rw [List.getLast?_eq_none_iff] at hp; rw [hp] at hc; simp at hc
    obtain ⟨⟨at_, u', fill', pages'⟩, h1, h2, h3⟩ := key
    simp only at h2 h3
    rw [← h2] at h ⊢
    obtain ⟨r, h4, h5⟩ := layM_some ns u' fill' pages' (by omega)
    refine ⟨(at_ :: r.1, r.2), ?_, h5⟩
    simp only [layM, h1, Option.bind_some]
    rw [h4]; rfl
theorem put_packed {os : List (Nat × Nat)} {u : List Bool} {ps rest : List Nat} {f n life : Nat} (h : Packed os ps f) (hp : PoolInv u (ps ++ rest)) {at_ f' : Nat} {u' : List Bool} {ps' : List Nat} (e : putM u 0 life f ps n = some (at_, u', f', ps')) :
    Packed (os ++ [(at_, n)]) ps' f' ∧ PoolInv u' (ps' ++ rest) := by
  unfold putM at e
  rw [if_neg (by omega)] at e
  have newp : (ps = [] ∨ ¬ f + n ≤ 32) → ((takeP u).map fun q => (q * 32, u.set q true, n, ps ++ [q])) = some (at_, u', f', ps') → Packed (os ++ [(at_, n)]) ps' f' ∧ PoolInv u' (ps' ++ rest) := by
    intro hc e
    simp only [Option.map_eq_some_iff] at e
    obtain ⟨q, hq, e⟩ := e
    cases e
    obtain ⟨k1, k2⟩ := hp.take hq
    refine ⟨h.page hc fun m => k2 (List.mem_append_left _ m), k1.perm ?_⟩
    rw [List.append_assoc]
    exact List.perm_middle.symm
  split at e
  · rename_i p hpg
    split at e
    · rename_i hf
      cases e
      exact ⟨h.fit hpg hf, hp⟩
    · rename_i hf
      exact newp (.inr hf) e
  · rename_i hpg
    exact newp (.inl (List.getLast?_eq_none_iff.1 hpg)) e
theorem lay_packed {life : Nat} : ∀ {ns : List Nat} {os : List (Nat × Nat)} {u : List Bool} {ps rest : List Nat} {f : Nat}, Packed os ps f → PoolInv u (ps ++ rest) → ∀ {r}, layM 0 life ns u f ps = some r →
    Packed (os ++ r.1.zip ns) r.2.2.2 r.2.2.1 ∧ PoolInv r.2.1 (r.2.2.2 ++ rest)
  | [], os, u, ps, rest, f, h, hp, r, e => by cases e; simpa using ⟨h, hp⟩
  | n :: ns, os, u, ps, rest, f, h, hp, r, e => by
    simp only [layM, Option.bind_eq_some_iff, Option.map_eq_some_iff] at e
    obtain ⟨⟨at_, u1, f1, ps1⟩, e1, q, e2, rfl⟩ := e
    obtain ⟨k1, k2⟩ := put_packed h hp e1
    obtain ⟨k3, k4⟩ := lay_packed k1 k2 e2
    exact ⟨by simpa using k3, k4⟩
structure RInv (r : Reg) : Prop where
  size : r.size ≤ 31
  ws : ∀ x ∈ r.objs, 1 ≤ x.ws.length ∧ x.ws.length ≤ 31 ∧ x.kind < 256
  fin : 0 < r.size → r.pages = [] ∧ r.fill = 0 ∧ r.objs.length ≤ 1 ∧ ∀ x ∈ r.objs, x.at_ = 1000000 + r.life
  inf : r.size = 0 → Packed (r.objs.map fun x => (x.at_, x.ws.length + 1)) r.pages r.fill
  wl : ∀ x ∈ r.objs, ∀ w ∈ x.ws, 0 ≤ w.2 ∧ w.2 ≤ 100000
theorem RInv.os {r : Reg} (h : RInv r) : ∀ x ∈ r.objs.map (fun x => (x.at_, x.ws.length + 1)), 1 ≤ x.2 ∧ x.2 ≤ 32 := by
  intro x hx
  obtain ⟨y, hy, rfl⟩ := List.mem_map.1 hx
  have := h.ws y hy
  simp only; omega
theorem RInv.nodup {r : Reg} (h : RInv r) : (r.objs.map (·.at_)).Nodup := by
  by_cases hs : r.size = 0
  · have := (h.inf hs).nodup h.os
    rw [List.map_map] at this
    exact this
  · obtain ⟨_, _, h1, _⟩ := h.fin (by omega)
    match ho : r.objs with
    | [] => simp
    | [x] => simp
    | x :: y :: l => rw [ho] at h1; simp at h1
theorem RInv.nobjs {r : Reg} (h : RInv r) : r.objs.length ≤ 32 * r.pages.length + 1 := by
  by_cases hs : r.size = 0
  · have := ((h.inf hs).facts h.os).2.2.1
    simp at this; omega
  · have := (h.fin (by omega)).2.2.1; omega
theorem RInv.ok {n : Nat} {r : Reg} (h : RInv r) (hl : r.life ≤ 100000) (hp : ∀ p ∈ r.pages, p < n) (hn : n ≤ 400) (hpl : r.pages.length ≤ 400) : RegOk n r where
  size := h.size
  life := hl
  fill := by
    by_cases hs : r.size = 0
    · exact ((h.inf hs).facts h.os).1
    · have := (h.fin (by omega)).2.1; omega
  pages := hp
  npages := hpl
  nobjs := by have := h.nobjs; omega
  ws := fun x hx => (h.ws x hx).2.1
  at_ := fun x hx => by
    by_cases hs : r.size = 0
    · obtain ⟨p, hp', k1, k2, _⟩ := ((h.inf hs).facts h.os).2.1 (x.at_, x.ws.length + 1) (List.mem_map.2 ⟨x, hx, rfl⟩)
      have := hp p hp'
      simp only at k2; omega
    · have := (h.fin (by omega)).2.2.2 x hx; omega
  kind := fun x hx => (h.ws x hx).2.2
structure HInv (lv : Nat) (L : List Reg) : Prop where
  lives : lv ≤ 100000
  ne : L ≠ []
  len : L.length ≤ lv
  nodup : (L.map (·.life)).Nodup
  life : ∀ r ∈ L, 1 ≤ r.life ∧ r.life ≤ lv
  reg : ∀ r ∈ L, RInv r
theorem find_same {N L : Int} (hL : 1 ≤ L) : ∀ (rs : List PReg) (rs' : List RReg) (i : Nat), rs.map PReg.m = rs'.map RReg.m →
    match rfind N L rs' i with
    | some (a, b) => ∃ g g' x x', i ≤ a ∧ rs[a - i]? = some g ∧ rs'[a - i]? = some g' ∧ g.objs[b]? = some x ∧ g'.objs[b]? = some x' ∧ x.b = x'.b ∧ g.m = g'.m ∧ pfind N L rs = some x ∧ (x.b.at_ : Int) = N ∧ (g.life : Int) = L
    | none => pfind N L rs = none
  | [], [], i, _ => rfl
  | [], _ :: _, _, h => by simp at h
  | _ :: _, [], _, h => by simp at h
  | g :: rs, g' :: rs', i, h => by
    simp only [List.map_cons, List.cons.injEq] at h
    obtain ⟨hg, hrs⟩ := h
    have ih := find_same (N := N) hL rs rs' (i + 1) hrs
    have e1 : g.life = g'.life := congrArg Reg.life hg
    have e2 : g.objs.map (·.b) = g'.objs.map (·.b) := congrArg Reg.objs hg
    have lift : pf N L g = none → (match rfind N L rs' (i + 1) with
        | some (a, b) => ∃ g0 g0' x x', i ≤ a ∧ (g :: rs)[a - i]? = some g0 ∧ (g' :: rs')[a - i]? = some g0' ∧ g0.objs[b]? = some x ∧ g0'.objs[b]? = some x' ∧ x.b = x'.b ∧ g0.m = g0'.m ∧ pfind N L (g :: rs) = some x ∧ (x.b.at_ : Int) = N ∧ (g0.life : Int) = L
        | none => pfind N L (g :: rs) = none) := by
      intro hn
      have hpf : pfind N L (g :: rs) = pfind N L rs := by unfold pfind; rw [List.findSome?_cons, hn]
      cases hr : rfind N L rs' (i + 1) with
      | none => rw [hr] at ih; simp only at ih ⊢; rw [hpf]; exact ih
      | some ab =>
        obtain ⟨a, b⟩ := ab
        rw [hr] at ih
        obtain ⟨g0, g0', x, x', k1, k2, k3, k4⟩ := ih
        refine ⟨g0, g0', x, x', by omega, ?_, ?_, ?_⟩
        · rw [show a - i = (a - (i + 1)) + 1 by omega, List.getElem?_cons_succ]; exact k2
        · rw [show a - i = (a - (i + 1)) + 1 by omega, List.getElem?_cons_succ]; exact k3
        · rw [hpf]; exact k4
    rw [rfind]
    by_cases hl : (g'.life : Int) = L
    · rw [if_pos ⟨hl, hL⟩]
      have hfi : g'.objs.findIdx? (fun x => decide ((x.b.at_ : Int) = N)) = g.objs.findIdx? (fun x => decide ((x.b.at_ : Int) = N)) := by
        have a1 := List.findIdx?_map (f := fun x : RObj => x.b) (p := fun y : Obj => decide ((y.at_ : Int) = N)) (l := g'.objs)
        have a2 := List.findIdx?_map (f := fun x : PObj => x.b) (p := fun y : Obj => decide ((y.at_ : Int) = N)) (l := g.objs)
        rw [e2] at a2
        exact a1.symm.trans a2
      have hpf : pf N L g = g.objs.find? (fun x => decide ((x.b.at_ : Int) = N)) := by unfold pf; rw [e1, if_pos hl]
      rw [hfi]
      cases hk : g.objs.findIdx? (fun x => decide ((x.b.at_ : Int) = N)) with
      | none =>
        simp only
        refine lift ?_
        rw [hpf, find_idx, hk]; rfl
      | some k =>
        obtain ⟨h1, h2, _⟩ := List.findIdx?_eq_some_iff_getElem.1 hk
        have hx : g.objs[k]? = some g.objs[k] := by simp [h1]
        have hlen : g.objs.length = g'.objs.length := by have := congrArg List.length e2; simpa using this
        have hx' : g'.objs[k]? = some (g'.objs[k]'(by omega)) := by simp [show k < g'.objs.length by omega]
        have hb : g.objs[k].b = (g'.objs[k]'(by omega)).b := by
          have := congrArg (fun l => l[k]?) e2
          simp only [List.getElem?_map, hx, hx', Option.map_some, Option.some.injEq] at this
          exact this
        refine ⟨g, g', g.objs[k], _, Nat.le_refl _, by simp, by simp, hx, hx', hb, hg, ?_, by simpa using h2, by rw [e1]; exact hl⟩
        unfold pfind
        rw [List.findSome?_cons, hpf, find_idx, hk]
        simp [h1]
    · rw [if_neg (fun h => hl h.1)]
      refine lift ?_
      unfold pf
      rw [e1, if_neg hl]
theorem rfind_skip {N L : Int} {R : List RReg} : ∀ (A : List RReg) (i : Nat), (∀ r ∈ A, (r.life : Int) ≠ L) → rfind N L (A ++ R) i = rfind N L R (i + A.length)
  | [], i, _ => rfl
  | g :: A, i, h => by
    rw [List.cons_append, rfind, if_neg (fun k => h g (List.mem_cons_self ..) k.1), rfind_skip A (i + 1) (fun r hr => h r (List.mem_cons_of_mem _ hr))]
    rw [show i + 1 + A.length = i + (g :: A).length by simp; omega]
theorem rfind_none {N L : Int} (A : List RReg) (i : Nat) (h : ∀ r ∈ A, (r.life : Int) ≠ L) : rfind N L A i = none := by
  have := rfind_skip (N := N) (R := []) A i h
  rw [List.append_nil] at this
  exact this
theorem rfind_at {N : Int} {A B : List RReg} {g : RReg} (hn : ((A ++ g :: B).map (·.life)).Nodup) (h1 : 1 ≤ g.life) : rfind N g.life (A ++ g :: B) 0 = (g.objs.findIdx? fun x => decide ((x.b.at_ : Int) = N)).map fun k => (A.length, k) := by
  rw [List.map_append, List.map_cons, List.nodup_append] at hn
  obtain ⟨_, h2, h3⟩ := hn
  obtain ⟨h4, _⟩ := List.nodup_cons.1 h2
  rw [rfind_skip A 0 fun r hr e => h3 r.life (List.mem_map.2 ⟨r, hr, rfl⟩) g.life (List.mem_cons_self ..) (by omega), rfind, if_pos ⟨rfl, by omega⟩, Nat.zero_add]
  cases g.objs.findIdx? fun x => decide ((x.b.at_ : Int) = N) with
  | some k => rfl
  | none => exact rfind_none B _ fun r hr e => h4 (List.mem_map.2 ⟨r, hr, by omega⟩)
theorem pick_same {A : List RReg} {B : List RReg} {g : PReg} {g' : RReg} (hn : ((A ++ g' :: B).map (·.life)).Nodup) (h1 : 1 ≤ g'.life) (hm : g.m = g'.m) (hd : (g.objs.map (·.b.at_)).Nodup) :
    ∀ (ws : List (Int × Int)) (nx : Nat), match pickM g.life (g.objs.drop nx) ws, rpick (A ++ g' :: B) A.length nx ws with
      | some xs, some xs' => xs.map (·.b) = xs'.map (·.b)
      | none, none => True
      | _, _ => False
  | [], nx => rfl
  | w :: ws, nx => by
    have e1 : g.life = g'.life := congrArg Reg.life hm
    have e2 : g.objs.map (·.b) = g'.objs.map (·.b) := congrArg Reg.objs hm
    have hlen : g.objs.length = g'.objs.length := by have := congrArg List.length e2; simpa using this
    have hgn : (A ++ g' :: B)[A.length]? = some g' := by simp
    simp only [pickM, rpick]
    by_cases hl : w.2 = (g'.life : Int)
    · rw [hl, rfind_at hn h1]
      have hfi : g'.objs.findIdx? (fun x => decide ((x.b.at_ : Int) = w.1)) = g.objs.findIdx? (fun x => decide ((x.b.at_ : Int) = w.1)) := by
        have a1 := List.findIdx?_map (f := fun x : RObj => x.b) (p := fun y : Obj => decide ((y.at_ : Int) = w.1)) (l := g'.objs)
        have a2 := List.findIdx?_map (f := fun x : PObj => x.b) (p := fun y : Obj => decide ((y.at_ : Int) = w.1)) (l := g.objs)
        rw [e2] at a2
        exact a1.symm.trans a2
      rw [hfi]
      cases hk : g.objs.findIdx? (fun x => decide ((x.b.at_ : Int) = w.1)) with
      | none =>
        have hnone : (g.objs.drop nx).findIdx (fun x => decide ((x.b.at_ : Int) = w.1)) = (g.objs.drop nx).length := by
          rw [List.findIdx_eq_length]
          intro x hx
          exact List.findIdx?_eq_none_iff.1 hk x (List.mem_of_mem_drop hx)
        rw [hnone, List.drop_length]
        simp
      | some b =>
        obtain ⟨hb, hpb, hmin⟩ := List.findIdx?_eq_some_iff_getElem.1 hk
        simp only [Option.map_some, true_and]
        by_cases hbn : nx ≤ b
        · have hfd : (g.objs.drop nx).findIdx (fun x => decide ((x.b.at_ : Int) = w.1)) = b - nx := by
            have hlt : b - nx < (g.objs.drop nx).length := by simp; omega
            rw [List.findIdx_eq hlt]
            refine ⟨by simp only [List.getElem_drop, show nx + (b - nx) = b by omega]; exact hpb, fun j hj => ?_⟩
            have := hmin (nx + j) (by omega)
            simp only [List.getElem_drop]; simpa using this
          have hdd : (g.objs.drop nx).drop (b - nx) = g.objs[b] :: g.objs.drop (b + 1) := by
            rw [List.drop_drop, show nx + (b - nx) = b by omega, List.drop_eq_getElem_cons hb]
          rw [hfd, hdd, if_pos hbn, hgn]
          simp only [e1, if_true, Option.bind_some]
          have hx' : g'.objs[b]? = some (g'.objs[b]'(by omega)) := by simp [show b < g'.objs.length by omega]
          rw [hx']
          simp only [Option.bind_some]
          have hbb : g.objs[b].b = (g'.objs[b]'(by omega)).b := by
            have := congrArg (fun l => l[b]?) e2
            simp only [List.getElem?_map, hx', List.getElem?_eq_getElem hb, Option.map_some, Option.some.injEq] at this
            exact this
          have ih := pick_same hn h1 hm hd ws (b + 1)
          rw [e1] at ih
          cases hp : pickM g'.life (g.objs.drop (b + 1)) ws with
          | none => rw [hp] at ih; cases hr : rpick (A ++ g' :: B) A.length (b + 1) ws with
            | none => trivial
            | some _ => rw [hr] at ih; exact ih.elim
          | some xs => rw [hp] at ih; cases hr : rpick (A ++ g' :: B) A.length (b + 1) ws with
            | none => rw [hr] at ih; exact ih.elim
            | some xs' =>
              rw [hr] at ih
              show (g.objs[b] :: xs).map (·.b) = (_ :: xs').map (·.b)
              rw [List.map_cons, List.map_cons, hbb, ih]
        · have hnone : (g.objs.drop nx).findIdx (fun x => decide ((x.b.at_ : Int) = w.1)) = (g.objs.drop nx).length := by
            rw [List.findIdx_eq_length]
            intro x hx
            obtain ⟨j, hj, rfl⟩ := List.mem_iff_getElem.1 hx
            simp only [List.length_drop] at hj
            simp only [List.getElem_drop]
            rw [decide_eq_false_iff_not]
            intro he
            have hpb' : (g.objs[b].b.at_ : Int) = w.1 := by simpa using hpb
            have hne : g.objs[b].b.at_ = (g.objs[nx + j]'(by omega)).b.at_ := by omega
            have h9 := (List.getElem_inj (xs := g.objs.map (·.b.at_)) (h₀ := by simp; omega) (h₁ := by simp; omega) hd (i := b) (j := nx + j)).1 (by simpa using hne)
            omega
          rw [hnone, List.drop_length, if_neg hbn]
          trivial
    · have hr : ∀ a b, rfind w.1 w.2 (A ++ g' :: B) 0 = some (a, b) → a ≠ A.length := by
        intro a b h e
        obtain ⟨g0, x, _, h2, _, h4, _⟩ := rfind_some h
        rw [Nat.sub_zero, e, hgn] at h2
        cases h2
        exact hl h4.symm
      cases hdr : (g.objs.drop nx).drop ((g.objs.drop nx).findIdx fun x => decide ((x.b.at_ : Int) = w.1)) with
      | nil =>
        cases hf : rfind w.1 w.2 (A ++ g' :: B) 0 with
        | none => trivial
        | some ab =>
          obtain ⟨a, b⟩ := ab
          simp only
          rw [if_neg (fun h => hr a b hf h.1)]
          trivial
      | cons x rest =>
        simp only
        rw [if_neg (show ¬ w.2 = (g.life : Int) by rw [e1]; exact hl)]
        cases hf : rfind w.1 w.2 (A ++ g' :: B) 0 with
        | none => trivial
        | some ab =>
          obtain ⟨a, b⟩ := ab
          simp only
          rw [if_neg (fun h => hr a b hf h.1)]
          trivial
end Go.Proofs.Ytoldkemimhebaaa