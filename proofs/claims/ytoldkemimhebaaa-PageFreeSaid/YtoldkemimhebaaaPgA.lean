/- The pools: what the functions of layer 15 and of its reference do to pools, on the ideal machine. -/
import Derived.Test.YtoldkemimhebaaaIm16
import Derived.Test.YtoldkemimhebaaaRows
set_option linter.unusedSimpArgs false
set_option linter.unusedVariables false
namespace Go.Proofs.Ytoldkemimhebaaa
open Go Go.IM

-- virgate/page.between
def k56_0 : List Bool := [true, true, true, false, false, false, false, false, false, false, false, false, false, false, false]
def k56_1 : List Bool := [false, false, false, false, false, false, true, false, false, false, false, false, false, false, false]
def c56 : IFn := ⟨15, [(6, none)],
  (.seq (.region [⟨(some 6), .mov (.c (.bool false)), none⟩] k56_0)
  (.seq (.region [⟨(some 7), .mov (.t 0), none⟩,
    ⟨(some 8), .mov (.t 1), none⟩,
    ⟨(some 9), .bin .leq (.t 7) (.t 8), none⟩,
    ⟨(some 10), .mov (.t 9), none⟩,
    ⟨(some 11), .mov (.t 1), (some (10, true))⟩,
    ⟨(some 12), .mov (.t 2), (some (10, true))⟩,
    ⟨(some 13), .bin .leq (.t 11) (.t 12), (some (10, true))⟩,
    ⟨(some 14), .pick (.t 10) (.t 13) (.c (.bool false)), none⟩,
    ⟨(some 6), .mov (.t 14), none⟩] k56_1)
  (.seq (.region [] k56_1)
  .ret)))⟩
theorem F56 : shutF Try.prog 56 = some c56 := by kernel_rfl

-- virgate/page.NewPool
def k17_0 : List Bool := [true, false, false, false, false, false, false, false, false, false, false]
def k17_1 : List Bool := [true, false, false, false, false, false, true, false, false, false, false]
def k17_2 : List Bool := [false, false, true, true, false, false, false, false, false, false, false]
def c17 : IFn := ⟨11, [(2, none), (3, none)],
  (.seq (.region [⟨(some 2), .mov (.c (.ptr none)), none⟩,
    ⟨(some 3), .mov (.c (.int .i64 (0))), none⟩] k17_0)
  (.seq (.seq (.region [⟨(some 4), .mov (.t 0), none⟩,
    ⟨(some 5), .call 56 [(.c (.int .i64 (1))), (.t 4), (.c (.int .i64 (400)))], none⟩,
    ⟨(some 6), .un .not (.t 5), none⟩] k17_1)
  (.cond (.t 6)
  (.seq (.region [⟨(some 2), .mov (.c (.ptr none)), none⟩,
    ⟨(some 3), .mov (.c (.int .i64 (2))), none⟩] k17_2)
  (.seq (.region [] k17_2)
  .ret))
  .skip))
  (.seq (.region [⟨(some 7), .mov (.t 0), none⟩,
    ⟨(some 8), .mkSlice 1 [(.bool false)] (.t 7) (.t 7), none⟩,
    ⟨(some 9), .build [(.slice none 0 (some 0))] [(0, 1, (.t 8))], none⟩,
    ⟨(some 10), .box (.t 9), none⟩,
    ⟨(some 2), .mov (.t 10), none⟩,
    ⟨(some 3), .mov (.c (.int .i64 (0))), none⟩] k17_2)
  (.seq (.region [] k17_2)
  .ret))))⟩
theorem F17 : shutF Try.prog 17 = some c17 := by kernel_rfl

-- virgate/virgateref15.NewPool
def k18_0 : List Bool := [true, false, false, false, false, false, false, false, false, false, false, false, false, false]
def k18_1 : List Bool := [true, false, false, false, false, false, false, false, false, true, false, false, false, false]
def k18_2 : List Bool := [false, false, true, true, false, false, false, false, false, false, false, false, false, false]
def c18 : IFn := ⟨14, [(2, none), (3, none)],
  (.seq (.region [⟨(some 2), .mov (.c (.ptr none)), none⟩,
    ⟨(some 3), .mov (.c (.int .i64 (0))), none⟩] k18_0)
  (.seq (.seq (.region [⟨(some 4), .mov (.t 0), none⟩,
    ⟨(some 5), .bin .lss (.t 4) (.c (.int .i64 (1))), none⟩,
    ⟨(some 6), .mov (.t 5), none⟩,
    ⟨(some 7), .mov (.t 0), (some (6, false))⟩,
    ⟨(some 8), .bin .gtr (.t 7) (.c (.int .i64 (400))), (some (6, false))⟩,
    ⟨(some 9), .pick (.t 6) (.c (.bool true)) (.t 8), none⟩] k18_1)
  (.cond (.t 9)
  (.seq (.region [⟨(some 2), .mov (.c (.ptr none)), none⟩,
    ⟨(some 3), .mov (.c (.int .i64 (2))), none⟩] k18_2)
  (.seq (.region [] k18_2)
  .ret))
  .skip))
  (.seq (.region [⟨(some 10), .mov (.t 0), none⟩,
    ⟨(some 11), .mkSlice 1 [(.bool false)] (.t 10) (.t 10), none⟩,
    ⟨(some 12), .build [(.slice none 0 (some 0))] [(0, 1, (.t 11))], none⟩,
    ⟨(some 13), .box (.t 12), none⟩,
    ⟨(some 2), .mov (.t 13), none⟩,
    ⟨(some 3), .mov (.c (.int .i64 (0))), none⟩] k18_2)
  (.seq (.region [] k18_2)
  .ret))))⟩
theorem F18 : shutF Try.prog 18 = some c18 := by kernel_rfl

-- (*virgate/page.Pool).Free
def k19_0 : List Bool := [true, false, false, false, false, false, false, false, false, false, false, false, false]
def k19_1 : List Bool := [true, false, false, false, true, false, false, false, false, false, false, false, false]
def k19_2 : List Bool := [false, false, true, false, false, false, false, false, false, false, false, false, false]
def c19 : IFn := ⟨13, [(2, none)],
  (.seq (.region [⟨(some 2), .mov (.c (.int .i64 (0))), none⟩] k19_0)
  (.seq (.seq (.region [⟨(some 3), .mov (.t 0), none⟩,
    ⟨(some 4), .eql false .ptr (.t 3) (.c (.ptr none)), none⟩] k19_1)
  (.cond (.t 4)
  (.seq (.region [⟨(some 2), .mov (.c (.int .i64 (0))), none⟩] k19_2)
  (.seq (.region [] k19_2)
  .ret))
  .skip))
  (.seq (.region [⟨(some 5), .mov (.t 0), none⟩,
    ⟨(some 6), .nilCheck (.t 5), none⟩,
    ⟨(some 7), .fieldAddr 0 (.t 6), none⟩,
    ⟨(some 8), .load none (.t 7), none⟩,
    ⟨(some 9), .lenSlice (.t 8), none⟩,
    ⟨(some 10), .mov (.t 0), none⟩,
    ⟨(some 11), .call 21 [(.t 10)], none⟩,
    ⟨none, .again 8 (.load none (.t 7)), none⟩,
    ⟨(some 12), .bin .sub (.t 9) (.t 11), none⟩,
    ⟨(some 2), .mov (.t 12), none⟩] k19_2)
  (.seq (.region [] k19_2)
  .ret))))⟩
theorem F19 : shutF Try.prog 19 = some c19 := by kernel_rfl

-- (*virgate/virgateref15.Pool).Free
def k20_0 : List Bool := [true, false, false, false, false, false, false, false, false, false, false, false, false]
def k20_1 : List Bool := [true, false, false, false, true, false, false, false, false, false, false, false, false]
def k20_2 : List Bool := [false, false, true, false, false, false, false, false, false, false, false, false, false]
def c20 : IFn := ⟨13, [(2, none)],
  (.seq (.region [⟨(some 2), .mov (.c (.int .i64 (0))), none⟩] k20_0)
  (.seq (.seq (.region [⟨(some 3), .mov (.t 0), none⟩,
    ⟨(some 4), .eql false .ptr (.t 3) (.c (.ptr none)), none⟩] k20_1)
  (.cond (.t 4)
  (.seq (.region [⟨(some 2), .mov (.c (.int .i64 (0))), none⟩] k20_2)
  (.seq (.region [] k20_2)
  .ret))
  .skip))
  (.seq (.region [⟨(some 5), .mov (.t 0), none⟩,
    ⟨(some 6), .nilCheck (.t 5), none⟩,
    ⟨(some 7), .fieldAddr 0 (.t 6), none⟩,
    ⟨(some 8), .load none (.t 7), none⟩,
    ⟨(some 9), .lenSlice (.t 8), none⟩,
    ⟨(some 10), .mov (.t 0), none⟩,
    ⟨(some 11), .call 37 [(.t 10)], none⟩,
    ⟨none, .again 8 (.load none (.t 7)), none⟩,
    ⟨(some 12), .bin .sub (.t 9) (.t 11), none⟩,
    ⟨(some 2), .mov (.t 12), none⟩] k20_2)
  (.seq (.region [] k20_2)
  .ret))))⟩
theorem F20 : shutF Try.prog 20 = some c20 := by kernel_rfl

-- (*virgate/page.Pool).Used
def k21_0 : List Bool := [true, false, true, false, false, false, false, false, false, false, false, false, false, false, false, false, false, false, false, false, false, false]
def k21_1 : List Bool := [true, false, true, false, false, false, false, true, false, false, false, false, false, false, false, false, false, false, false, false, false, false]
def k21_2 : List Bool := [false, false, true, false, false, false, false, false, false, false, false, false, false, false, false, false, false, false, false, false, false, false]
def k21_3 : List Bool := [true, false, true, true, false, false, false, false, false, false, false, false, false, false, false, false, false, false, false, false, false, false]
def k21_4 : List Bool := [false, false, true, true, false, false, false, false, false, false, false, true, true, true, false, false, false, false, false, false, false, false]
def k21_5 : List Bool := [false, false, true, true, false, false, false, false, false, false, false, true, true, true, true, false, false, false, false, false, false, false]
def k21_6 : List Bool := [false, false, false, true, false, false, false, false, false, false, false, false, false, false, false, false, false, false, false, false, false, false]
def k21_7 : List Bool := [false, false, true, true, false, true, false, false, false, false, false, true, true, true, false, false, false, false, false, false, false, false]
def k21_8 : List Bool := [false, false, true, true, false, false, false, false, false, false, false, true, true, true, false, false, false, true, false, false, false, false]
def l21_0 : IC := (.seq (.seq (.region [⟨(some 14), .bin .lss (.t 13) (.t 12), none⟩] k21_5)
  (.seq (.cond (.t 14)
  .skip
  (.seq (.region [] k21_6)
  (.exit 0)))
  (.seq (.block 1
  (.seq (.region [⟨(some 15), .indexAddr 1 (.t 11) (.t 13), none⟩,
    ⟨(some 16), .load none (.t 15), none⟩,
    ⟨(some 5), .mov (.t 16), none⟩] k21_7)
  (.seq (.region [⟨(some 17), .mov (.t 5), none⟩] k21_8)
  (.cond (.t 17)
  (.region [⟨(some 18), .mov (.t 3), none⟩,
    ⟨(some 19), .bin .add (.t 18) (.c (.int .i64 (1))), none⟩,
    ⟨(some 3), .mov (.t 19), none⟩] k21_4)
  .skip))))
  (.region [⟨(some 20), .bin .add (.t 13) (.c (.int .i64 (1))), none⟩,
    ⟨(some 13), .mov (.t 20), none⟩] k21_4))))
  (.region [] k21_4))
def c21 : IFn := ⟨22, [(2, none)],
  (.seq (.region [⟨(some 2), .mov (.c (.int .i64 (0))), none⟩] k21_0)
  (.seq (.seq (.region [⟨(some 6), .mov (.t 0), none⟩,
    ⟨(some 7), .eql false .ptr (.t 6) (.c (.ptr none)), none⟩] k21_1)
  (.cond (.t 7)
  (.seq (.region [⟨(some 2), .mov (.c (.int .i64 (0))), none⟩] k21_2)
  (.seq (.region [] k21_2)
  .ret))
  .skip))
  (.seq (.region [⟨(some 3), .mov (.c (.int .i64 (0))), none⟩] k21_3)
  (.seq (.seq (.region [⟨(some 8), .mov (.t 0), none⟩,
    ⟨(some 9), .nilCheck (.t 8), none⟩,
    ⟨(some 10), .fieldAddr 0 (.t 9), none⟩,
    ⟨(some 11), .load none (.t 10), none⟩,
    ⟨(some 12), .lenSlice (.t 11), none⟩,
    ⟨(some 13), .mov (.c (.int .i64 (0))), none⟩] k21_4)
  (.block 0
  (.seq (.region [] k21_4)
  (.loop l21_0))))
  (.seq (.region [⟨(some 21), .mov (.t 3), none⟩,
    ⟨(some 2), .mov (.t 21), none⟩] k21_2)
  (.seq (.region [] k21_2)
  .ret))))))⟩
theorem F21 : shutF Try.prog 21 = some c21 := by kernel_rfl

-- (*virgate/virgateref15.Pool).Used
def k37_0 : List Bool := [true, false, true, false, false, false, false, false, false, false, false, false, false, false, false, false, false, false, false, false, false, false, false, false, false, false]
def k37_1 : List Bool := [true, false, true, false, false, false, true, false, false, false, false, false, false, false, false, false, false, false, false, false, false, false, false, false, false, false]
def k37_2 : List Bool := [false, false, true, false, false, false, false, false, false, false, false, false, false, false, false, false, false, false, false, false, false, false, false, false, false, false]
def k37_3 : List Bool := [true, false, true, true, false, false, false, false, false, false, false, false, false, false, false, false, false, false, false, false, false, false, false, false, false, false]
def k37_4 : List Bool := [true, false, true, true, true, false, false, false, false, false, false, false, false, false, false, false, false, false, false, false, false, false, false, false, false, false]
def k37_5 : List Bool := [true, false, true, true, true, false, false, false, false, false, false, false, false, true, false, false, false, false, false, false, false, false, false, false, false, false]
def k37_6 : List Bool := [false, false, false, true, false, false, false, false, false, false, false, false, false, false, false, false, false, false, false, false, false, false, false, false, false, false]
def k37_7 : List Bool := [true, false, true, true, true, false, false, false, false, false, false, false, false, false, false, false, false, false, false, false, false, false, true, false, false, false]
def l37_0 : IC := (.seq (.seq (.seq (.region [⟨(some 7), .mov (.t 4), none⟩,
    ⟨(some 8), .mov (.t 0), none⟩,
    ⟨(some 9), .nilCheck (.t 8), none⟩,
    ⟨(some 10), .fieldAddr 0 (.t 9), none⟩,
    ⟨(some 11), .load none (.t 10), none⟩,
    ⟨(some 12), .lenSlice (.t 11), none⟩,
    ⟨(some 13), .bin .lss (.t 7) (.t 12), none⟩] k37_5)
  (.cond (.t 13)
  .skip
  (.seq (.region [] k37_6)
  (.exit 0))))
  (.seq (.block 1
  (.seq (.region [⟨(some 16), .mov (.t 0), none⟩,
    ⟨(some 17), .nilCheck (.t 16), none⟩,
    ⟨(some 18), .fieldAddr 0 (.t 17), none⟩,
    ⟨(some 19), .load none (.t 18), none⟩,
    ⟨(some 20), .mov (.t 4), none⟩,
    ⟨(some 21), .indexAddr 1 (.t 19) (.t 20), none⟩,
    ⟨(some 22), .load none (.t 21), none⟩] k37_7)
  (.cond (.t 22)
  (.region [⟨(some 23), .mov (.t 3), none⟩,
    ⟨(some 24), .bin .add (.t 23) (.c (.int .i64 (1))), none⟩,
    ⟨(some 3), .mov (.t 24), none⟩] k37_4)
  .skip)))
  (.region [⟨(some 14), .mov (.t 4), none⟩,
    ⟨(some 15), .bin .add (.t 14) (.c (.int .i64 (1))), none⟩,
    ⟨(some 4), .mov (.t 15), none⟩] k37_4)))
  (.region [] k37_4))
def c37 : IFn := ⟨26, [(2, none)],
  (.seq (.region [⟨(some 2), .mov (.c (.int .i64 (0))), none⟩] k37_0)
  (.seq (.seq (.region [⟨(some 5), .mov (.t 0), none⟩,
    ⟨(some 6), .eql false .ptr (.t 5) (.c (.ptr none)), none⟩] k37_1)
  (.cond (.t 6)
  (.seq (.region [⟨(some 2), .mov (.c (.int .i64 (0))), none⟩] k37_2)
  (.seq (.region [] k37_2)
  .ret))
  .skip))
  (.seq (.region [⟨(some 3), .mov (.c (.int .i64 (0))), none⟩] k37_3)
  (.seq (.seq (.region [⟨(some 4), .mov (.c (.int .i64 (0))), none⟩] k37_4)
  (.block 0
  (.seq (.region [] k37_4)
  (.loop l37_0))))
  (.seq (.region [⟨(some 25), .mov (.t 3), none⟩,
    ⟨(some 2), .mov (.t 25), none⟩] k37_2)
  (.seq (.region [] k37_2)
  .ret))))))⟩
theorem F37 : shutF Try.prog 37 = some c37 := by kernel_rfl

-- virgate/page.New
def k22_0 : List Bool := [true, false, false, false, false, false, false, false, false, false, false, false, false, false, false, false, false, false, false, false, false]
def k22_1 : List Bool := [true, false, false, false, false, false, false, false, false, false, false, false, false, false, true, false, false, false, false, false, false]
def k22_2 : List Bool := [false, false, true, true, false, false, false, false, false, false, false, false, false, false, false, false, false, false, false, false, false]
def k22_3 : List Bool := [false, false, false, false, true, false, false, false, false, false, false, false, false, false, false, false, false, false, false, false, false]
def c22 : IFn := ⟨21, [(2, none), (3, none)],
  (.seq (.region [⟨(some 2), .mov (.c (.ptr none)), none⟩,
    ⟨(some 3), .mov (.c (.int .i64 (0))), none⟩] k22_0)
  (.seq (.seq (.region [⟨(some 5), .mov (.t 0), none⟩,
    ⟨(some 6), .eql false .ptr (.t 5) (.c (.ptr none)), none⟩,
    ⟨(some 7), .mov (.t 6), none⟩,
    ⟨(some 8), .mov (.t 0), (some (7, false))⟩,
    ⟨(some 9), .nilCheck (.t 8), (some (7, false))⟩,
    ⟨(some 10), .fieldAddr 0 (.t 9), (some (7, false))⟩,
    ⟨(some 11), .load none (.t 10), (some (7, false))⟩,
    ⟨(some 12), .lenSlice (.t 11), (some (7, false))⟩,
    ⟨(some 13), .bin .eql (.t 12) (.c (.int .i64 (0))), (some (7, false))⟩,
    ⟨(some 14), .pick (.t 7) (.c (.bool true)) (.t 13), none⟩] k22_1)
  (.cond (.t 14)
  (.seq (.region [⟨(some 2), .mov (.c (.ptr none)), none⟩,
    ⟨(some 3), .mov (.c (.int .i64 (6))), none⟩] k22_2)
  (.seq (.region [] k22_2)
  .ret))
  .skip))
  (.seq (.region [⟨(some 15), .mov (.t 0), none⟩,
    ⟨(some 16), .build [(.ptr none), (.slice none 0 (some 0)), (.int .i64 (0))] [(0, 1, (.t 15))], none⟩,
    ⟨(some 17), .box (.t 16), none⟩,
    ⟨(some 4), .mov (.t 17), none⟩] k22_3)
  (.seq (.region [⟨(some 18), .mov (.t 4), none⟩,
    ⟨(some 19), .call 57 [(.t 18), (.c (.int .i64 (0)))], none⟩] k22_3)
  (.seq (.region [⟨(some 20), .mov (.t 4), none⟩,
    ⟨(some 2), .mov (.t 20), none⟩,
    ⟨(some 3), .mov (.c (.int .i64 (0))), none⟩] k22_2)
  (.seq (.region [] k22_2)
  .ret))))))⟩
theorem F22 : shutF Try.prog 22 = some c22 := by kernel_rfl


noncomputable abbrev PF : Nat → Option IFn := shutF Try.prog

section
variable (s : St)
set_option maxRecDepth 10000

theorem s56 (a b c : Int) : call PF 56 [.int .i64 a, .int .i64 b, .int .i64 c] s = some (.bool (decide (a ≤ b) && decide (b ≤ c)), s) := by
  rw [call_run F56]
  by_cases h : a ≤ b
  · simp -implicitDefEqProofs only [↓go_skip, ↓go_seq, ↓go_region, ↓go_cond, ↓go_block, ↓go_exit, ↓go_ret, ↓go_loop, ↓goOps_plain, goOps_nil, ↓goOps_guard, MK_run, seqK_n, seqK_x, seqK_r, blockK_n, blockK_x, blockK_r, roundK_n, roundK_x, roundK_r, contO_some, guardO_tt, guardO_ff, guardO_tf, guardO_ft, guardO_tuple, condO_t, condO_f,
    x_mov, x_pick, x_build, x_bin, x_eql, x_un, x_conv, x_mkFunc, x_nilCheck, x_lenSlice, x_slice, x_fieldAddr, x_field, x_extract, x_indexAddr, x_load, x_again, look_load, look_lookup, look_len, x_alloc, x_box, x_buildSlice, x_mkMap, x_mkSlice, x_callv, x_lookup, x_lenMap, x_store, x_mapSet, x_append, execI_call,
    put_some, put_none, List.set_cons_succ, List.set_cons_zero, ev_t, ev_c, List.getD_cons_succ, List.getD_cons_zero, maskEnv_t, maskEnv_f, maskEnv_nil, List.map_cons, List.map_nil,
    binI_int, intI_add, intI_sub, intI_mul, intI_eql, intI_neq, intI_lss, intI_leq, intI_gtr, intI_geq, unI_not, eqI_nil, eqI_ptr, withS_some, pickV_bool, convV_int, nilV_ptr, nilV_func, lenV_slice, fldV_ptr, partV_agg, extV_tuple, callvV_func,
    Option.map_some, Option.bind_some, Option.isNone_none, Option.isNone_some, List.getElem?_cons_zero, List.getElem?_cons_succ, decide_true, decide_false, if_true, if_false, Bool.not_true, Bool.not_false, Bool.false_eq_true, ne_eq, reduceCtorEq, not_false_eq_true, not_true_eq_false, Bool.true_and, Bool.false_and, Bool.and_true, Bool.and_false, Bool.true_or, Bool.false_or, Bool.or_true, Bool.or_false,
    finR_n, finR_r, List.length_cons, List.length_nil, Nat.reduceAdd, Nat.reduceSub, List.replicate_succ, List.replicate_zero, List.cons_append, List.nil_append, resultsI, packRes, Option.getD_none, Option.getD_some, Nat.zero_add, Nat.add_zero, Nat.reduceEqDiff, Nat.reduceMul, Nat.mul_one, againV_slice, againV_ptr, againV_map, againV_int, againV_bool, fillI, over, boxV, V.cells, V.one, List.all_cons, List.all_nil, List.take_succ_cons, List.take_zero, List.drop_succ_cons, List.drop_zero, Nat.reduceLeDiff, Nat.le_refl, true_and, and_true, and_self, List.append_nil, alloc_next, set_next, kill_next, Int.reduceBNe, Int.reduceBEq, bne_self_eq_false, beq_self_eq_true, c56, k56_0, k56_1, h]
  · simp -implicitDefEqProofs only [↓go_skip, ↓go_seq, ↓go_region, ↓go_cond, ↓go_block, ↓go_exit, ↓go_ret, ↓go_loop, ↓goOps_plain, goOps_nil, ↓goOps_guard, MK_run, seqK_n, seqK_x, seqK_r, blockK_n, blockK_x, blockK_r, roundK_n, roundK_x, roundK_r, contO_some, guardO_tt, guardO_ff, guardO_tf, guardO_ft, guardO_tuple, condO_t, condO_f,
    x_mov, x_pick, x_build, x_bin, x_eql, x_un, x_conv, x_mkFunc, x_nilCheck, x_lenSlice, x_slice, x_fieldAddr, x_field, x_extract, x_indexAddr, x_load, x_again, look_load, look_lookup, look_len, x_alloc, x_box, x_buildSlice, x_mkMap, x_mkSlice, x_callv, x_lookup, x_lenMap, x_store, x_mapSet, x_append, execI_call,
    put_some, put_none, List.set_cons_succ, List.set_cons_zero, ev_t, ev_c, List.getD_cons_succ, List.getD_cons_zero, maskEnv_t, maskEnv_f, maskEnv_nil, List.map_cons, List.map_nil,
    binI_int, intI_add, intI_sub, intI_mul, intI_eql, intI_neq, intI_lss, intI_leq, intI_gtr, intI_geq, unI_not, eqI_nil, eqI_ptr, withS_some, pickV_bool, convV_int, nilV_ptr, nilV_func, lenV_slice, fldV_ptr, partV_agg, extV_tuple, callvV_func,
    Option.map_some, Option.bind_some, Option.isNone_none, Option.isNone_some, List.getElem?_cons_zero, List.getElem?_cons_succ, decide_true, decide_false, if_true, if_false, Bool.not_true, Bool.not_false, Bool.false_eq_true, ne_eq, reduceCtorEq, not_false_eq_true, not_true_eq_false, Bool.true_and, Bool.false_and, Bool.and_true, Bool.and_false, Bool.true_or, Bool.false_or, Bool.or_true, Bool.or_false,
    finR_n, finR_r, List.length_cons, List.length_nil, Nat.reduceAdd, Nat.reduceSub, List.replicate_succ, List.replicate_zero, List.cons_append, List.nil_append, resultsI, packRes, Option.getD_none, Option.getD_some, Nat.zero_add, Nat.add_zero, Nat.reduceEqDiff, Nat.reduceMul, Nat.mul_one, againV_slice, againV_ptr, againV_map, againV_int, againV_bool, fillI, over, boxV, V.cells, V.one, List.all_cons, List.all_nil, List.take_succ_cons, List.take_zero, List.drop_succ_cons, List.drop_zero, Nat.reduceLeDiff, Nat.le_refl, true_and, and_true, and_self, List.append_nil, alloc_next, set_next, kill_next, Int.reduceBNe, Int.reduceBEq, bne_self_eq_false, beq_self_eq_true, c56, k56_0, k56_1, h]

theorem s17_bad (n : Int) (h : ¬ (1 ≤ n ∧ n ≤ 400)) : call PF 17 [.int .i64 n] s = some (.tuple [.ptr none, .int .i64 2], s) := by
  rw [call_run F17]
  have h' : (decide (1 ≤ n) && decide (n ≤ 400)) = false := by simpa using h
  simp -implicitDefEqProofs only [↓go_skip, ↓go_seq, ↓go_region, ↓go_cond, ↓go_block, ↓go_exit, ↓go_ret, ↓go_loop, ↓goOps_plain, goOps_nil, ↓goOps_guard, MK_run, seqK_n, seqK_x, seqK_r, blockK_n, blockK_x, blockK_r, roundK_n, roundK_x, roundK_r, contO_some, guardO_tt, guardO_ff, guardO_tf, guardO_ft, guardO_tuple, condO_t, condO_f,
    x_mov, x_pick, x_build, x_bin, x_eql, x_un, x_conv, x_mkFunc, x_nilCheck, x_lenSlice, x_slice, x_fieldAddr, x_field, x_extract, x_indexAddr, x_load, x_again, look_load, look_lookup, look_len, x_alloc, x_box, x_buildSlice, x_mkMap, x_mkSlice, x_callv, x_lookup, x_lenMap, x_store, x_mapSet, x_append, execI_call,
    put_some, put_none, List.set_cons_succ, List.set_cons_zero, ev_t, ev_c, List.getD_cons_succ, List.getD_cons_zero, maskEnv_t, maskEnv_f, maskEnv_nil, List.map_cons, List.map_nil,
    binI_int, intI_add, intI_sub, intI_mul, intI_eql, intI_neq, intI_lss, intI_leq, intI_gtr, intI_geq, unI_not, eqI_nil, eqI_ptr, withS_some, pickV_bool, convV_int, nilV_ptr, nilV_func, lenV_slice, fldV_ptr, partV_agg, extV_tuple, callvV_func,
    Option.map_some, Option.bind_some, Option.isNone_none, Option.isNone_some, List.getElem?_cons_zero, List.getElem?_cons_succ, decide_true, decide_false, if_true, if_false, Bool.not_true, Bool.not_false, Bool.false_eq_true, ne_eq, reduceCtorEq, not_false_eq_true, not_true_eq_false, Bool.true_and, Bool.false_and, Bool.and_true, Bool.and_false, Bool.true_or, Bool.false_or, Bool.or_true, Bool.or_false,
    finR_n, finR_r, List.length_cons, List.length_nil, Nat.reduceAdd, Nat.reduceSub, List.replicate_succ, List.replicate_zero, List.cons_append, List.nil_append, resultsI, packRes, Option.getD_none, Option.getD_some, Nat.zero_add, Nat.add_zero, Nat.reduceEqDiff, Nat.reduceMul, Nat.mul_one, againV_slice, againV_ptr, againV_map, againV_int, againV_bool, fillI, over, boxV, V.cells, V.one, List.all_cons, List.all_nil, List.take_succ_cons, List.take_zero, List.drop_succ_cons, List.drop_zero, Nat.reduceLeDiff, Nat.le_refl, true_and, and_true, and_self, List.append_nil, alloc_next, set_next, kill_next, Int.reduceBNe, Int.reduceBEq, bne_self_eq_false, beq_self_eq_true, c17, k17_0, k17_1, k17_2, s56, h']

theorem s17 (n : Int) (h1 : 1 ≤ n) (h2 : n ≤ 400) : call PF 17 [.int .i64 n] s = some (.tuple [.ptr (some ⟨.new (s.next + 1), 0⟩), .int .i64 0], (s.alloc (.cells (zeros [.bool false] n.toNat) none)).alloc (.cells [.slice (some ⟨.new s.next, 0⟩) n.toNat (some n.toNat)] none)) := by
  rw [call_run F17]
  have h' : (decide (1 ≤ n) && decide (n ≤ 400)) = true := by simp [h1, h2]
  have hm := mkV_int (s := s) (bytes := 1) (z := [.bool false]) (k := .i64) (k' := .i64) (l := n) (c := n) (by omega) (by omega) (by omega) (by omega)
  simp -implicitDefEqProofs only [↓go_skip, ↓go_seq, ↓go_region, ↓go_cond, ↓go_block, ↓go_exit, ↓go_ret, ↓go_loop, ↓goOps_plain, goOps_nil, ↓goOps_guard, MK_run, seqK_n, seqK_x, seqK_r, blockK_n, blockK_x, blockK_r, roundK_n, roundK_x, roundK_r, contO_some, guardO_tt, guardO_ff, guardO_tf, guardO_ft, guardO_tuple, condO_t, condO_f,
    x_mov, x_pick, x_build, x_bin, x_eql, x_un, x_conv, x_mkFunc, x_nilCheck, x_lenSlice, x_slice, x_fieldAddr, x_field, x_extract, x_indexAddr, x_load, x_again, look_load, look_lookup, look_len, x_alloc, x_box, x_buildSlice, x_mkMap, x_mkSlice, x_callv, x_lookup, x_lenMap, x_store, x_mapSet, x_append, execI_call,
    put_some, put_none, List.set_cons_succ, List.set_cons_zero, ev_t, ev_c, List.getD_cons_succ, List.getD_cons_zero, maskEnv_t, maskEnv_f, maskEnv_nil, List.map_cons, List.map_nil,
    binI_int, intI_add, intI_sub, intI_mul, intI_eql, intI_neq, intI_lss, intI_leq, intI_gtr, intI_geq, unI_not, eqI_nil, eqI_ptr, withS_some, pickV_bool, convV_int, nilV_ptr, nilV_func, lenV_slice, fldV_ptr, partV_agg, extV_tuple, callvV_func,
    Option.map_some, Option.bind_some, Option.isNone_none, Option.isNone_some, List.getElem?_cons_zero, List.getElem?_cons_succ, decide_true, decide_false, if_true, if_false, Bool.not_true, Bool.not_false, Bool.false_eq_true, ne_eq, reduceCtorEq, not_false_eq_true, not_true_eq_false, Bool.true_and, Bool.false_and, Bool.and_true, Bool.and_false, Bool.true_or, Bool.false_or, Bool.or_true, Bool.or_false,
    finR_n, finR_r, List.length_cons, List.length_nil, Nat.reduceAdd, Nat.reduceSub, List.replicate_succ, List.replicate_zero, List.cons_append, List.nil_append, resultsI, packRes, Option.getD_none, Option.getD_some, Nat.zero_add, Nat.add_zero, Nat.reduceEqDiff, Nat.reduceMul, Nat.mul_one, againV_slice, againV_ptr, againV_map, againV_int, againV_bool, fillI, over, boxV, V.cells, V.one, List.all_cons, List.all_nil, List.take_succ_cons, List.take_zero, List.drop_succ_cons, List.drop_zero, Nat.reduceLeDiff, Nat.le_refl, true_and, and_true, and_self, List.append_nil, alloc_next, set_next, kill_next, Int.reduceBNe, Int.reduceBEq, bne_self_eq_false, beq_self_eq_true, c17, k17_0, k17_1, k17_2, s56, h', hm]

theorem s18_bad (n : Int) (h : ¬ (1 ≤ n ∧ n ≤ 400)) : call PF 18 [.int .i64 n] s = some (.tuple [.ptr none, .int .i64 2], s) := by
  rw [call_run F18]
  by_cases h1 : n < 1
  · simp -implicitDefEqProofs only [↓go_skip, ↓go_seq, ↓go_region, ↓go_cond, ↓go_block, ↓go_exit, ↓go_ret, ↓go_loop, ↓goOps_plain, goOps_nil, ↓goOps_guard, MK_run, seqK_n, seqK_x, seqK_r, blockK_n, blockK_x, blockK_r, roundK_n, roundK_x, roundK_r, contO_some, guardO_tt, guardO_ff, guardO_tf, guardO_ft, guardO_tuple, condO_t, condO_f,
    x_mov, x_pick, x_build, x_bin, x_eql, x_un, x_conv, x_mkFunc, x_nilCheck, x_lenSlice, x_slice, x_fieldAddr, x_field, x_extract, x_indexAddr, x_load, x_again, look_load, look_lookup, look_len, x_alloc, x_box, x_buildSlice, x_mkMap, x_mkSlice, x_callv, x_lookup, x_lenMap, x_store, x_mapSet, x_append, execI_call,
    put_some, put_none, List.set_cons_succ, List.set_cons_zero, ev_t, ev_c, List.getD_cons_succ, List.getD_cons_zero, maskEnv_t, maskEnv_f, maskEnv_nil, List.map_cons, List.map_nil,
    binI_int, intI_add, intI_sub, intI_mul, intI_eql, intI_neq, intI_lss, intI_leq, intI_gtr, intI_geq, unI_not, eqI_nil, eqI_ptr, withS_some, pickV_bool, convV_int, nilV_ptr, nilV_func, lenV_slice, fldV_ptr, partV_agg, extV_tuple, callvV_func,
    Option.map_some, Option.bind_some, Option.isNone_none, Option.isNone_some, List.getElem?_cons_zero, List.getElem?_cons_succ, decide_true, decide_false, if_true, if_false, Bool.not_true, Bool.not_false, Bool.false_eq_true, ne_eq, reduceCtorEq, not_false_eq_true, not_true_eq_false, Bool.true_and, Bool.false_and, Bool.and_true, Bool.and_false, Bool.true_or, Bool.false_or, Bool.or_true, Bool.or_false,
    finR_n, finR_r, List.length_cons, List.length_nil, Nat.reduceAdd, Nat.reduceSub, List.replicate_succ, List.replicate_zero, List.cons_append, List.nil_append, resultsI, packRes, Option.getD_none, Option.getD_some, Nat.zero_add, Nat.add_zero, Nat.reduceEqDiff, Nat.reduceMul, Nat.mul_one, againV_slice, againV_ptr, againV_map, againV_int, againV_bool, fillI, over, boxV, V.cells, V.one, List.all_cons, List.all_nil, List.take_succ_cons, List.take_zero, List.drop_succ_cons, List.drop_zero, Nat.reduceLeDiff, Nat.le_refl, true_and, and_true, and_self, List.append_nil, alloc_next, set_next, kill_next, Int.reduceBNe, Int.reduceBEq, bne_self_eq_false, beq_self_eq_true, c18, k18_0, k18_1, k18_2, h1]
  · have h2 : n > 400 := by omega
    simp -implicitDefEqProofs only [↓go_skip, ↓go_seq, ↓go_region, ↓go_cond, ↓go_block, ↓go_exit, ↓go_ret, ↓go_loop, ↓goOps_plain, goOps_nil, ↓goOps_guard, MK_run, seqK_n, seqK_x, seqK_r, blockK_n, blockK_x, blockK_r, roundK_n, roundK_x, roundK_r, contO_some, guardO_tt, guardO_ff, guardO_tf, guardO_ft, guardO_tuple, condO_t, condO_f,
    x_mov, x_pick, x_build, x_bin, x_eql, x_un, x_conv, x_mkFunc, x_nilCheck, x_lenSlice, x_slice, x_fieldAddr, x_field, x_extract, x_indexAddr, x_load, x_again, look_load, look_lookup, look_len, x_alloc, x_box, x_buildSlice, x_mkMap, x_mkSlice, x_callv, x_lookup, x_lenMap, x_store, x_mapSet, x_append, execI_call,
    put_some, put_none, List.set_cons_succ, List.set_cons_zero, ev_t, ev_c, List.getD_cons_succ, List.getD_cons_zero, maskEnv_t, maskEnv_f, maskEnv_nil, List.map_cons, List.map_nil,
    binI_int, intI_add, intI_sub, intI_mul, intI_eql, intI_neq, intI_lss, intI_leq, intI_gtr, intI_geq, unI_not, eqI_nil, eqI_ptr, withS_some, pickV_bool, convV_int, nilV_ptr, nilV_func, lenV_slice, fldV_ptr, partV_agg, extV_tuple, callvV_func,
    Option.map_some, Option.bind_some, Option.isNone_none, Option.isNone_some, List.getElem?_cons_zero, List.getElem?_cons_succ, decide_true, decide_false, if_true, if_false, Bool.not_true, Bool.not_false, Bool.false_eq_true, ne_eq, reduceCtorEq, not_false_eq_true, not_true_eq_false, Bool.true_and, Bool.false_and, Bool.and_true, Bool.and_false, Bool.true_or, Bool.false_or, Bool.or_true, Bool.or_false,
    finR_n, finR_r, List.length_cons, List.length_nil, Nat.reduceAdd, Nat.reduceSub, List.replicate_succ, List.replicate_zero, List.cons_append, List.nil_append, resultsI, packRes, Option.getD_none, Option.getD_some, Nat.zero_add, Nat.add_zero, Nat.reduceEqDiff, Nat.reduceMul, Nat.mul_one, againV_slice, againV_ptr, againV_map, againV_int, againV_bool, fillI, over, boxV, V.cells, V.one, List.all_cons, List.all_nil, List.take_succ_cons, List.take_zero, List.drop_succ_cons, List.drop_zero, Nat.reduceLeDiff, Nat.le_refl, true_and, and_true, and_self, List.append_nil, alloc_next, set_next, kill_next, Int.reduceBNe, Int.reduceBEq, bne_self_eq_false, beq_self_eq_true, c18, k18_0, k18_1, k18_2, h1, h2]

theorem s18 (n : Int) (h1 : 1 ≤ n) (h2 : n ≤ 400) : call PF 18 [.int .i64 n] s = some (.tuple [.ptr (some ⟨.new (s.next + 1), 0⟩), .int .i64 0], (s.alloc (.cells (zeros [.bool false] n.toNat) none)).alloc (.cells [.slice (some ⟨.new s.next, 0⟩) n.toNat (some n.toNat)] none)) := by
  rw [call_run F18]
  have h1' : ¬ n < 1 := by omega
  have h2' : ¬ n > 400 := by omega
  have hm := mkV_int (s := s) (bytes := 1) (z := [.bool false]) (k := .i64) (k' := .i64) (l := n) (c := n) (by omega) (by omega) (by omega) (by omega)
  simp -implicitDefEqProofs only [↓go_skip, ↓go_seq, ↓go_region, ↓go_cond, ↓go_block, ↓go_exit, ↓go_ret, ↓go_loop, ↓goOps_plain, goOps_nil, ↓goOps_guard, MK_run, seqK_n, seqK_x, seqK_r, blockK_n, blockK_x, blockK_r, roundK_n, roundK_x, roundK_r, contO_some, guardO_tt, guardO_ff, guardO_tf, guardO_ft, guardO_tuple, condO_t, condO_f,
    x_mov, x_pick, x_build, x_bin, x_eql, x_un, x_conv, x_mkFunc, x_nilCheck, x_lenSlice, x_slice, x_fieldAddr, x_field, x_extract, x_indexAddr, x_load, x_again, look_load, look_lookup, look_len, x_alloc, x_box, x_buildSlice, x_mkMap, x_mkSlice, x_callv, x_lookup, x_lenMap, x_store, x_mapSet, x_append, execI_call,
    put_some, put_none, List.set_cons_succ, List.set_cons_zero, ev_t, ev_c, List.getD_cons_succ, List.getD_cons_zero, maskEnv_t, maskEnv_f, maskEnv_nil, List.map_cons, List.map_nil,
    binI_int, intI_add, intI_sub, intI_mul, intI_eql, intI_neq, intI_lss, intI_leq, intI_gtr, intI_geq, unI_not, eqI_nil, eqI_ptr, withS_some, pickV_bool, convV_int, nilV_ptr, nilV_func, lenV_slice, fldV_ptr, partV_agg, extV_tuple, callvV_func,
    Option.map_some, Option.bind_some, Option.isNone_none, Option.isNone_some, List.getElem?_cons_zero, List.getElem?_cons_succ, decide_true, decide_false, if_true, if_false, Bool.not_true, Bool.not_false, Bool.false_eq_true, ne_eq, reduceCtorEq, not_false_eq_true, not_true_eq_false, Bool.true_and, Bool.false_and, Bool.and_true, Bool.and_false, Bool.true_or, Bool.false_or, Bool.or_true, Bool.or_false,
    finR_n, finR_r, List.length_cons, List.length_nil, Nat.reduceAdd, Nat.reduceSub, List.replicate_succ, List.replicate_zero, List.cons_append, List.nil_append, resultsI, packRes, Option.getD_none, Option.getD_some, Nat.zero_add, Nat.add_zero, Nat.reduceEqDiff, Nat.reduceMul, Nat.mul_one, againV_slice, againV_ptr, againV_map, againV_int, againV_bool, fillI, over, boxV, V.cells, V.one, List.all_cons, List.all_nil, List.take_succ_cons, List.take_zero, List.drop_succ_cons, List.drop_zero, Nat.reduceLeDiff, Nat.le_refl, true_and, and_true, and_self, List.append_nil, alloc_next, set_next, kill_next, Int.reduceBNe, Int.reduceBEq, bne_self_eq_false, beq_self_eq_true, c18, k18_0, k18_1, k18_2, h1', h2', hm]

theorem count_both : ∀ bs : List Bool, bs.count true + bs.count false = bs.length
  | [] => rfl
  | b :: bs => by
    have := count_both bs
    cases b <;> simp <;> omega

/-- A pool: its object, its row, which pages are in use. -/
def PoolAt (s : St) (p r : Nat) (bs : List Bool) : Prop :=
  s.new p = some (.cells [.slice (some ⟨.new r, 0⟩) bs.length (some bs.length)] none) ∧ s.new r = some (.cells (bs.map .bool) none)

variable {s}
theorem used_loop {r : Nat} {bs : List Bool} {cp : Option Nat} {v2 : V} {K : Kt} (hr : s.new r = some (.cells (bs.map .bool) none)) (hb : bs.length ≤ 400) :
    ∀ (m i c : Nat), i + m = bs.length → c ≤ i →
    loop PF (.loop l21_0) [.any, .any, v2, .int .i64 c, .any, .any, .any, .any, .any, .any, .any, .slice (some ⟨.new r, 0⟩) bs.length cp, .int .i64 bs.length, .int .i64 i, .any, .any, .any, .any, .any, .any, .any, .any] s K =
      K (.exit 0) [.any, .any, .any, .int .i64 (c + (bs.drop i).count true : Nat), .any, .any, .any, .any, .any, .any, .any, .any, .any, .any, .any, .any, .any, .any, .any, .any, .any, .any] s
  | 0, i, c, hi, hc => by
    have hlt : ¬ ((i : Int) < (bs.length : Int)) := by omega
    refine round fun LL hLL => ?_
    simp -implicitDefEqProofs only [↓go_skip, ↓go_seq, ↓go_region, ↓go_cond, ↓go_block, ↓go_exit, ↓go_ret, ↓go_loop, ↓goOps_plain, goOps_nil, ↓goOps_guard, MK_run, seqK_n, seqK_x, seqK_r, blockK_n, blockK_x, blockK_r, roundK_n, roundK_x, roundK_r, contO_some, guardO_tt, guardO_ff, guardO_tf, guardO_ft, guardO_tuple, condO_t, condO_f,
    x_mov, x_pick, x_build, x_bin, x_eql, x_un, x_conv, x_mkFunc, x_nilCheck, x_lenSlice, x_slice, x_fieldAddr, x_field, x_extract, x_indexAddr, x_load, x_again, look_load, look_lookup, look_len, x_alloc, x_box, x_buildSlice, x_mkMap, x_mkSlice, x_callv, x_lookup, x_lenMap, x_store, x_mapSet, x_append, execI_call,
    put_some, put_none, List.set_cons_succ, List.set_cons_zero, ev_t, ev_c, List.getD_cons_succ, List.getD_cons_zero, maskEnv_t, maskEnv_f, maskEnv_nil, List.map_cons, List.map_nil,
    binI_int, intI_add, intI_sub, intI_mul, intI_eql, intI_neq, intI_lss, intI_leq, intI_gtr, intI_geq, unI_not, eqI_nil, eqI_ptr, withS_some, pickV_bool, convV_int, nilV_ptr, nilV_func, lenV_slice, fldV_ptr, partV_agg, extV_tuple, callvV_func,
    Option.map_some, Option.bind_some, Option.isNone_none, Option.isNone_some, List.getElem?_cons_zero, List.getElem?_cons_succ, decide_true, decide_false, if_true, if_false, Bool.not_true, Bool.not_false, Bool.false_eq_true, ne_eq, reduceCtorEq, not_false_eq_true, not_true_eq_false, Bool.true_and, Bool.false_and, Bool.and_true, Bool.and_false, Bool.true_or, Bool.false_or, Bool.or_true, Bool.or_false,
    finR_n, finR_r, List.length_cons, List.length_nil, Nat.reduceAdd, Nat.reduceSub, List.replicate_succ, List.replicate_zero, List.cons_append, List.nil_append, resultsI, packRes, Option.getD_none, Option.getD_some, Nat.zero_add, Nat.add_zero, Nat.reduceEqDiff, Nat.reduceMul, Nat.mul_one, againV_slice, againV_ptr, againV_map, againV_int, againV_bool, fillI, over, boxV, V.cells, V.one, List.all_cons, List.all_nil, List.take_succ_cons, List.take_zero, List.drop_succ_cons, List.drop_zero, Nat.reduceLeDiff, Nat.le_refl, true_and, and_true, and_self, List.append_nil, alloc_next, set_next, kill_next, Int.reduceBNe, Int.reduceBEq, bne_self_eq_false, beq_self_eq_true, l21_0, k21_4, k21_5, k21_6, hlt]
    rw [List.drop_eq_nil_of_le (by omega)]
    rfl
  | m + 1, i, c, hi, hc => by
    have hlt : ((i : Int) < (bs.length : Int)) := by omega
    have hi' : i < bs.length := by omega
    have hix := ix_cell (sz := 1) (k := r) (off := 0) (c := cp) (kk := .i64) hi'
    have hld := load_cell (off := i) hr (v := .bool bs[i]) (by simp [hi'])
    have hw : wrapI .i64 ((i : Int) + 1) = .int .i64 ((i + 1 : Nat) : Int) := by rw [wrap64 (by omega) (by omega)]; rfl
    have hw2 : wrapI .i64 ((c : Int) + 1) = .int .i64 ((c + 1 : Nat) : Int) := by rw [wrap64 (by omega) (by omega)]; rfl
    refine round fun LL hLL => ?_
    have hd : bs.drop i = bs[i] :: bs.drop (i + 1) := List.drop_eq_getElem_cons hi'
    cases hbi : bs[i] with
    | false =>
      rw [hbi] at hld
      simp -implicitDefEqProofs only [↓go_skip, ↓go_seq, ↓go_region, ↓go_cond, ↓go_block, ↓go_exit, ↓go_ret, ↓go_loop, ↓goOps_plain, goOps_nil, ↓goOps_guard, MK_run, seqK_n, seqK_x, seqK_r, blockK_n, blockK_x, blockK_r, roundK_n, roundK_x, roundK_r, contO_some, guardO_tt, guardO_ff, guardO_tf, guardO_ft, guardO_tuple, condO_t, condO_f,
    x_mov, x_pick, x_build, x_bin, x_eql, x_un, x_conv, x_mkFunc, x_nilCheck, x_lenSlice, x_slice, x_fieldAddr, x_field, x_extract, x_indexAddr, x_load, x_again, look_load, look_lookup, look_len, x_alloc, x_box, x_buildSlice, x_mkMap, x_mkSlice, x_callv, x_lookup, x_lenMap, x_store, x_mapSet, x_append, execI_call,
    put_some, put_none, List.set_cons_succ, List.set_cons_zero, ev_t, ev_c, List.getD_cons_succ, List.getD_cons_zero, maskEnv_t, maskEnv_f, maskEnv_nil, List.map_cons, List.map_nil,
    binI_int, intI_add, intI_sub, intI_mul, intI_eql, intI_neq, intI_lss, intI_leq, intI_gtr, intI_geq, unI_not, eqI_nil, eqI_ptr, withS_some, pickV_bool, convV_int, nilV_ptr, nilV_func, lenV_slice, fldV_ptr, partV_agg, extV_tuple, callvV_func,
    Option.map_some, Option.bind_some, Option.isNone_none, Option.isNone_some, List.getElem?_cons_zero, List.getElem?_cons_succ, decide_true, decide_false, if_true, if_false, Bool.not_true, Bool.not_false, Bool.false_eq_true, ne_eq, reduceCtorEq, not_false_eq_true, not_true_eq_false, Bool.true_and, Bool.false_and, Bool.and_true, Bool.and_false, Bool.true_or, Bool.false_or, Bool.or_true, Bool.or_false,
    finR_n, finR_r, List.length_cons, List.length_nil, Nat.reduceAdd, Nat.reduceSub, List.replicate_succ, List.replicate_zero, List.cons_append, List.nil_append, resultsI, packRes, Option.getD_none, Option.getD_some, Nat.zero_add, Nat.add_zero, Nat.reduceEqDiff, Nat.reduceMul, Nat.mul_one, againV_slice, againV_ptr, againV_map, againV_int, againV_bool, fillI, over, boxV, V.cells, V.one, List.all_cons, List.all_nil, List.take_succ_cons, List.take_zero, List.drop_succ_cons, List.drop_zero, Nat.reduceLeDiff, Nat.le_refl, true_and, and_true, and_self, List.append_nil, alloc_next, set_next, kill_next, Int.reduceBNe, Int.reduceBEq, bne_self_eq_false, beq_self_eq_true, l21_0, k21_4, k21_5, k21_6, k21_7, k21_8, hlt, hix, hld, hw]
      rw [hLL, used_loop hr hb m (i + 1) c (by omega) (by omega), hd, hbi]
      simp
    | true =>
      rw [hbi] at hld
      simp -implicitDefEqProofs only [↓go_skip, ↓go_seq, ↓go_region, ↓go_cond, ↓go_block, ↓go_exit, ↓go_ret, ↓go_loop, ↓goOps_plain, goOps_nil, ↓goOps_guard, MK_run, seqK_n, seqK_x, seqK_r, blockK_n, blockK_x, blockK_r, roundK_n, roundK_x, roundK_r, contO_some, guardO_tt, guardO_ff, guardO_tf, guardO_ft, guardO_tuple, condO_t, condO_f,
    x_mov, x_pick, x_build, x_bin, x_eql, x_un, x_conv, x_mkFunc, x_nilCheck, x_lenSlice, x_slice, x_fieldAddr, x_field, x_extract, x_indexAddr, x_load, x_again, look_load, look_lookup, look_len, x_alloc, x_box, x_buildSlice, x_mkMap, x_mkSlice, x_callv, x_lookup, x_lenMap, x_store, x_mapSet, x_append, execI_call,
    put_some, put_none, List.set_cons_succ, List.set_cons_zero, ev_t, ev_c, List.getD_cons_succ, List.getD_cons_zero, maskEnv_t, maskEnv_f, maskEnv_nil, List.map_cons, List.map_nil,
    binI_int, intI_add, intI_sub, intI_mul, intI_eql, intI_neq, intI_lss, intI_leq, intI_gtr, intI_geq, unI_not, eqI_nil, eqI_ptr, withS_some, pickV_bool, convV_int, nilV_ptr, nilV_func, lenV_slice, fldV_ptr, partV_agg, extV_tuple, callvV_func,
    Option.map_some, Option.bind_some, Option.isNone_none, Option.isNone_some, List.getElem?_cons_zero, List.getElem?_cons_succ, decide_true, decide_false, if_true, if_false, Bool.not_true, Bool.not_false, Bool.false_eq_true, ne_eq, reduceCtorEq, not_false_eq_true, not_true_eq_false, Bool.true_and, Bool.false_and, Bool.and_true, Bool.and_false, Bool.true_or, Bool.false_or, Bool.or_true, Bool.or_false,
    finR_n, finR_r, List.length_cons, List.length_nil, Nat.reduceAdd, Nat.reduceSub, List.replicate_succ, List.replicate_zero, List.cons_append, List.nil_append, resultsI, packRes, Option.getD_none, Option.getD_some, Nat.zero_add, Nat.add_zero, Nat.reduceEqDiff, Nat.reduceMul, Nat.mul_one, againV_slice, againV_ptr, againV_map, againV_int, againV_bool, fillI, over, boxV, V.cells, V.one, List.all_cons, List.all_nil, List.take_succ_cons, List.take_zero, List.drop_succ_cons, List.drop_zero, Nat.reduceLeDiff, Nat.le_refl, true_and, and_true, and_self, List.append_nil, alloc_next, set_next, kill_next, Int.reduceBNe, Int.reduceBEq, bne_self_eq_false, beq_self_eq_true, l21_0, k21_4, k21_5, k21_6, k21_7, k21_8, hlt, hix, hld, hw, hw2]
      rw [hLL, used_loop hr hb m (i + 1) (c + 1) (by omega) (by omega), hd, hbi]
      simp only [List.count_cons_self, Nat.add_assoc, Nat.add_comm 1]

theorem s21_nil (s : St) : call PF 21 [.ptr none] s = some (.int .i64 0, s) := by
  rw [call_run F21]
  simp -implicitDefEqProofs only [↓go_skip, ↓go_seq, ↓go_region, ↓go_cond, ↓go_block, ↓go_exit, ↓go_ret, ↓go_loop, ↓goOps_plain, goOps_nil, ↓goOps_guard, MK_run, seqK_n, seqK_x, seqK_r, blockK_n, blockK_x, blockK_r, roundK_n, roundK_x, roundK_r, contO_some, guardO_tt, guardO_ff, guardO_tf, guardO_ft, guardO_tuple, condO_t, condO_f,
    x_mov, x_pick, x_build, x_bin, x_eql, x_un, x_conv, x_mkFunc, x_nilCheck, x_lenSlice, x_slice, x_fieldAddr, x_field, x_extract, x_indexAddr, x_load, x_again, look_load, look_lookup, look_len, x_alloc, x_box, x_buildSlice, x_mkMap, x_mkSlice, x_callv, x_lookup, x_lenMap, x_store, x_mapSet, x_append, execI_call,
    put_some, put_none, List.set_cons_succ, List.set_cons_zero, ev_t, ev_c, List.getD_cons_succ, List.getD_cons_zero, maskEnv_t, maskEnv_f, maskEnv_nil, List.map_cons, List.map_nil,
    binI_int, intI_add, intI_sub, intI_mul, intI_eql, intI_neq, intI_lss, intI_leq, intI_gtr, intI_geq, unI_not, eqI_nil, eqI_ptr, withS_some, pickV_bool, convV_int, nilV_ptr, nilV_func, lenV_slice, fldV_ptr, partV_agg, extV_tuple, callvV_func,
    Option.map_some, Option.bind_some, Option.isNone_none, Option.isNone_some, List.getElem?_cons_zero, List.getElem?_cons_succ, decide_true, decide_false, if_true, if_false, Bool.not_true, Bool.not_false, Bool.false_eq_true, ne_eq, reduceCtorEq, not_false_eq_true, not_true_eq_false, Bool.true_and, Bool.false_and, Bool.and_true, Bool.and_false, Bool.true_or, Bool.false_or, Bool.or_true, Bool.or_false,
    finR_n, finR_r, List.length_cons, List.length_nil, Nat.reduceAdd, Nat.reduceSub, List.replicate_succ, List.replicate_zero, List.cons_append, List.nil_append, resultsI, packRes, Option.getD_none, Option.getD_some, Nat.zero_add, Nat.add_zero, Nat.reduceEqDiff, Nat.reduceMul, Nat.mul_one, againV_slice, againV_ptr, againV_map, againV_int, againV_bool, fillI, over, boxV, V.cells, V.one, List.all_cons, List.all_nil, List.take_succ_cons, List.take_zero, List.drop_succ_cons, List.drop_zero, Nat.reduceLeDiff, Nat.le_refl, true_and, and_true, and_self, List.append_nil, alloc_next, set_next, kill_next, Int.reduceBNe, Int.reduceBEq, bne_self_eq_false, beq_self_eq_true, c21, k21_0, k21_1, k21_2]

theorem s21 {p r : Nat} {bs : List Bool} (h : PoolAt s p r bs) (hb : bs.length ≤ 400) : call PF 21 [.ptr (some ⟨.new p, 0⟩)] s = some (.int .i64 (bs.count true : Nat), s) := by
  rw [call_run F21]
  have hld := load_cell (off := 0) h.1 rfl
  simp -implicitDefEqProofs only [↓go_skip, ↓go_seq, ↓go_region, ↓go_cond, ↓go_block, ↓go_exit, ↓go_ret, ↓go_loop, ↓goOps_plain, goOps_nil, ↓goOps_guard, MK_run, seqK_n, seqK_x, seqK_r, blockK_n, blockK_x, blockK_r, roundK_n, roundK_x, roundK_r, contO_some, guardO_tt, guardO_ff, guardO_tf, guardO_ft, guardO_tuple, condO_t, condO_f,
    x_mov, x_pick, x_build, x_bin, x_eql, x_un, x_conv, x_mkFunc, x_nilCheck, x_lenSlice, x_slice, x_fieldAddr, x_field, x_extract, x_indexAddr, x_load, x_again, look_load, look_lookup, look_len, x_alloc, x_box, x_buildSlice, x_mkMap, x_mkSlice, x_callv, x_lookup, x_lenMap, x_store, x_mapSet, x_append, execI_call,
    put_some, put_none, List.set_cons_succ, List.set_cons_zero, ev_t, ev_c, List.getD_cons_succ, List.getD_cons_zero, maskEnv_t, maskEnv_f, maskEnv_nil, List.map_cons, List.map_nil,
    binI_int, intI_add, intI_sub, intI_mul, intI_eql, intI_neq, intI_lss, intI_leq, intI_gtr, intI_geq, unI_not, eqI_nil, eqI_ptr, withS_some, pickV_bool, convV_int, nilV_ptr, nilV_func, lenV_slice, fldV_ptr, partV_agg, extV_tuple, callvV_func,
    Option.map_some, Option.bind_some, Option.isNone_none, Option.isNone_some, List.getElem?_cons_zero, List.getElem?_cons_succ, decide_true, decide_false, if_true, if_false, Bool.not_true, Bool.not_false, Bool.false_eq_true, ne_eq, reduceCtorEq, not_false_eq_true, not_true_eq_false, Bool.true_and, Bool.false_and, Bool.and_true, Bool.and_false, Bool.true_or, Bool.false_or, Bool.or_true, Bool.or_false,
    finR_n, finR_r, List.length_cons, List.length_nil, Nat.reduceAdd, Nat.reduceSub, List.replicate_succ, List.replicate_zero, List.cons_append, List.nil_append, resultsI, packRes, Option.getD_none, Option.getD_some, Nat.zero_add, Nat.add_zero, Nat.reduceEqDiff, Nat.reduceMul, Nat.mul_one, againV_slice, againV_ptr, againV_map, againV_int, againV_bool, fillI, over, boxV, V.cells, V.one, List.all_cons, List.all_nil, List.take_succ_cons, List.take_zero, List.drop_succ_cons, List.drop_zero, Nat.reduceLeDiff, Nat.le_refl, true_and, and_true, and_self, List.append_nil, alloc_next, set_next, kill_next, Int.reduceBNe, Int.reduceBEq, bne_self_eq_false, beq_self_eq_true, c21, k21_0, k21_1, k21_2, k21_3, k21_4, hld]
  refine (used_loop h.2 hb bs.length 0 0 (by omega) (by omega)).trans ?_
  simp -implicitDefEqProofs only [↓go_skip, ↓go_seq, ↓go_region, ↓go_cond, ↓go_block, ↓go_exit, ↓go_ret, ↓go_loop, ↓goOps_plain, goOps_nil, ↓goOps_guard, MK_run, seqK_n, seqK_x, seqK_r, blockK_n, blockK_x, blockK_r, roundK_n, roundK_x, roundK_r, contO_some, guardO_tt, guardO_ff, guardO_tf, guardO_ft, guardO_tuple, condO_t, condO_f,
    x_mov, x_pick, x_build, x_bin, x_eql, x_un, x_conv, x_mkFunc, x_nilCheck, x_lenSlice, x_slice, x_fieldAddr, x_field, x_extract, x_indexAddr, x_load, x_again, look_load, look_lookup, look_len, x_alloc, x_box, x_buildSlice, x_mkMap, x_mkSlice, x_callv, x_lookup, x_lenMap, x_store, x_mapSet, x_append, execI_call,
    put_some, put_none, List.set_cons_succ, List.set_cons_zero, ev_t, ev_c, List.getD_cons_succ, List.getD_cons_zero, maskEnv_t, maskEnv_f, maskEnv_nil, List.map_cons, List.map_nil,
    binI_int, intI_add, intI_sub, intI_mul, intI_eql, intI_neq, intI_lss, intI_leq, intI_gtr, intI_geq, unI_not, eqI_nil, eqI_ptr, withS_some, pickV_bool, convV_int, nilV_ptr, nilV_func, lenV_slice, fldV_ptr, partV_agg, extV_tuple, callvV_func,
    Option.map_some, Option.bind_some, Option.isNone_none, Option.isNone_some, List.getElem?_cons_zero, List.getElem?_cons_succ, decide_true, decide_false, if_true, if_false, Bool.not_true, Bool.not_false, Bool.false_eq_true, ne_eq, reduceCtorEq, not_false_eq_true, not_true_eq_false, Bool.true_and, Bool.false_and, Bool.and_true, Bool.and_false, Bool.true_or, Bool.false_or, Bool.or_true, Bool.or_false,
    finR_n, finR_r, List.length_cons, List.length_nil, Nat.reduceAdd, Nat.reduceSub, List.replicate_succ, List.replicate_zero, List.cons_append, List.nil_append, resultsI, packRes, Option.getD_none, Option.getD_some, Nat.zero_add, Nat.add_zero, Nat.reduceEqDiff, Nat.reduceMul, Nat.mul_one, againV_slice, againV_ptr, againV_map, againV_int, againV_bool, fillI, over, boxV, V.cells, V.one, List.all_cons, List.all_nil, List.take_succ_cons, List.take_zero, List.drop_succ_cons, List.drop_zero, Nat.reduceLeDiff, Nat.le_refl, true_and, and_true, and_self, List.append_nil, alloc_next, set_next, kill_next, Int.reduceBNe, Int.reduceBEq, bne_self_eq_false, beq_self_eq_true, k21_2]

theorem used2_loop {p r : Nat} {bs : List Bool} {v2 : V} {K : Kt} (h : PoolAt s p r bs) (hb : bs.length ≤ 400) :
    ∀ (m i c : Nat), i + m = bs.length → c ≤ i →
    loop PF (.loop l37_0) [.ptr (some ⟨.new p, 0⟩), .any, v2, .int .i64 c, .int .i64 i, .any, .any, .any, .any, .any, .any, .any, .any, .any, .any, .any, .any, .any, .any, .any, .any, .any, .any, .any, .any, .any] s K =
      K (.exit 0) [.any, .any, .any, .int .i64 (c + (bs.drop i).count true : Nat), .any, .any, .any, .any, .any, .any, .any, .any, .any, .any, .any, .any, .any, .any, .any, .any, .any, .any, .any, .any, .any, .any] s
  | 0, i, c, hi, hc => by
    have hlt : ¬ ((i : Int) < (bs.length : Int)) := by omega
    have hl0 := load_cell (off := 0) h.1 rfl
    refine round fun LL hLL => ?_
    simp -implicitDefEqProofs only [↓go_skip, ↓go_seq, ↓go_region, ↓go_cond, ↓go_block, ↓go_exit, ↓go_ret, ↓go_loop, ↓goOps_plain, goOps_nil, ↓goOps_guard, MK_run, seqK_n, seqK_x, seqK_r, blockK_n, blockK_x, blockK_r, roundK_n, roundK_x, roundK_r, contO_some, guardO_tt, guardO_ff, guardO_tf, guardO_ft, guardO_tuple, condO_t, condO_f,
    x_mov, x_pick, x_build, x_bin, x_eql, x_un, x_conv, x_mkFunc, x_nilCheck, x_lenSlice, x_slice, x_fieldAddr, x_field, x_extract, x_indexAddr, x_load, x_again, look_load, look_lookup, look_len, x_alloc, x_box, x_buildSlice, x_mkMap, x_mkSlice, x_callv, x_lookup, x_lenMap, x_store, x_mapSet, x_append, execI_call,
    put_some, put_none, List.set_cons_succ, List.set_cons_zero, ev_t, ev_c, List.getD_cons_succ, List.getD_cons_zero, maskEnv_t, maskEnv_f, maskEnv_nil, List.map_cons, List.map_nil,
    binI_int, intI_add, intI_sub, intI_mul, intI_eql, intI_neq, intI_lss, intI_leq, intI_gtr, intI_geq, unI_not, eqI_nil, eqI_ptr, withS_some, pickV_bool, convV_int, nilV_ptr, nilV_func, lenV_slice, fldV_ptr, partV_agg, extV_tuple, callvV_func,
    Option.map_some, Option.bind_some, Option.isNone_none, Option.isNone_some, List.getElem?_cons_zero, List.getElem?_cons_succ, decide_true, decide_false, if_true, if_false, Bool.not_true, Bool.not_false, Bool.false_eq_true, ne_eq, reduceCtorEq, not_false_eq_true, not_true_eq_false, Bool.true_and, Bool.false_and, Bool.and_true, Bool.and_false, Bool.true_or, Bool.false_or, Bool.or_true, Bool.or_false,
    finR_n, finR_r, List.length_cons, List.length_nil, Nat.reduceAdd, Nat.reduceSub, List.replicate_succ, List.replicate_zero, List.cons_append, List.nil_append, resultsI, packRes, Option.getD_none, Option.getD_some, Nat.zero_add, Nat.add_zero, Nat.reduceEqDiff, Nat.reduceMul, Nat.mul_one, againV_slice, againV_ptr, againV_map, againV_int, againV_bool, fillI, over, boxV, V.cells, V.one, List.all_cons, List.all_nil, List.take_succ_cons, List.take_zero, List.drop_succ_cons, List.drop_zero, Nat.reduceLeDiff, Nat.le_refl, true_and, and_true, and_self, List.append_nil, alloc_next, set_next, kill_next, Int.reduceBNe, Int.reduceBEq, bne_self_eq_false, beq_self_eq_true, l37_0, k37_4, k37_5, k37_6, hlt, hl0]
    rw [List.drop_eq_nil_of_le (by omega)]
    rfl
  | m + 1, i, c, hi, hc => by
    have hlt : ((i : Int) < (bs.length : Int)) := by omega
    have hi' : i < bs.length := by omega
    have hl0 := load_cell (off := 0) h.1 rfl
    have hix := ix_cell (sz := 1) (k := r) (off := 0) (c := some bs.length) (kk := .i64) hi'
    have hld := load_cell (off := i) h.2 (v := .bool bs[i]) (by simp [hi'])
    have hw : wrapI .i64 ((i : Int) + 1) = .int .i64 ((i + 1 : Nat) : Int) := by rw [wrap64 (by omega) (by omega)]; rfl
    have hw2 : wrapI .i64 ((c : Int) + 1) = .int .i64 ((c + 1 : Nat) : Int) := by rw [wrap64 (by omega) (by omega)]; rfl
    refine round fun LL hLL => ?_
    have hd : bs.drop i = bs[i] :: bs.drop (i + 1) := List.drop_eq_getElem_cons hi'
    cases hbi : bs[i] with
    | false =>
      rw [hbi] at hld
      simp -implicitDefEqProofs only [↓go_skip, ↓go_seq, ↓go_region, ↓go_cond, ↓go_block, ↓go_exit, ↓go_ret, ↓go_loop, ↓goOps_plain, goOps_nil, ↓goOps_guard, MK_run, seqK_n, seqK_x, seqK_r, blockK_n, blockK_x, blockK_r, roundK_n, roundK_x, roundK_r, contO_some, guardO_tt, guardO_ff, guardO_tf, guardO_ft, guardO_tuple, condO_t, condO_f,
    x_mov, x_pick, x_build, x_bin, x_eql, x_un, x_conv, x_mkFunc, x_nilCheck, x_lenSlice, x_slice, x_fieldAddr, x_field, x_extract, x_indexAddr, x_load, x_again, look_load, look_lookup, look_len, x_alloc, x_box, x_buildSlice, x_mkMap, x_mkSlice, x_callv, x_lookup, x_lenMap, x_store, x_mapSet, x_append, execI_call,
    put_some, put_none, List.set_cons_succ, List.set_cons_zero, ev_t, ev_c, List.getD_cons_succ, List.getD_cons_zero, maskEnv_t, maskEnv_f, maskEnv_nil, List.map_cons, List.map_nil,
    binI_int, intI_add, intI_sub, intI_mul, intI_eql, intI_neq, intI_lss, intI_leq, intI_gtr, intI_geq, unI_not, eqI_nil, eqI_ptr, withS_some, pickV_bool, convV_int, nilV_ptr, nilV_func, lenV_slice, fldV_ptr, partV_agg, extV_tuple, callvV_func,
    Option.map_some, Option.bind_some, Option.isNone_none, Option.isNone_some, List.getElem?_cons_zero, List.getElem?_cons_succ, decide_true, decide_false, if_true, if_false, Bool.not_true, Bool.not_false, Bool.false_eq_true, ne_eq, reduceCtorEq, not_false_eq_true, not_true_eq_false, Bool.true_and, Bool.false_and, Bool.and_true, Bool.and_false, Bool.true_or, Bool.false_or, Bool.or_true, Bool.or_false,
    finR_n, finR_r, List.length_cons, List.length_nil, Nat.reduceAdd, Nat.reduceSub, List.replicate_succ, List.replicate_zero, List.cons_append, List.nil_append, resultsI, packRes, Option.getD_none, Option.getD_some, Nat.zero_add, Nat.add_zero, Nat.reduceEqDiff, Nat.reduceMul, Nat.mul_one, againV_slice, againV_ptr, againV_map, againV_int, againV_bool, fillI, over, boxV, V.cells, V.one, List.all_cons, List.all_nil, List.take_succ_cons, List.take_zero, List.drop_succ_cons, List.drop_zero, Nat.reduceLeDiff, Nat.le_refl, true_and, and_true, and_self, List.append_nil, alloc_next, set_next, kill_next, Int.reduceBNe, Int.reduceBEq, bne_self_eq_false, beq_self_eq_true, l37_0, k37_4, k37_5, k37_6, k37_7, hlt, hl0, hix, hld, hw]
      rw [hLL, used2_loop h hb m (i + 1) c (by omega) (by omega), hd, hbi]
      simp
    | true =>
      rw [hbi] at hld
      simp -implicitDefEqProofs only [↓go_skip, ↓go_seq, ↓go_region, ↓go_cond, ↓go_block, ↓go_exit, ↓go_ret, ↓go_loop, ↓goOps_plain, goOps_nil, ↓goOps_guard, MK_run, seqK_n, seqK_x, seqK_r, blockK_n, blockK_x, blockK_r, roundK_n, roundK_x, roundK_r, contO_some, guardO_tt, guardO_ff, guardO_tf, guardO_ft, guardO_tuple, condO_t, condO_f,
    x_mov, x_pick, x_build, x_bin, x_eql, x_un, x_conv, x_mkFunc, x_nilCheck, x_lenSlice, x_slice, x_fieldAddr, x_field, x_extract, x_indexAddr, x_load, x_again, look_load, look_lookup, look_len, x_alloc, x_box, x_buildSlice, x_mkMap, x_mkSlice, x_callv, x_lookup, x_lenMap, x_store, x_mapSet, x_append, execI_call,
    put_some, put_none, List.set_cons_succ, List.set_cons_zero, ev_t, ev_c, List.getD_cons_succ, List.getD_cons_zero, maskEnv_t, maskEnv_f, maskEnv_nil, List.map_cons, List.map_nil,
    binI_int, intI_add, intI_sub, intI_mul, intI_eql, intI_neq, intI_lss, intI_leq, intI_gtr, intI_geq, unI_not, eqI_nil, eqI_ptr, withS_some, pickV_bool, convV_int, nilV_ptr, nilV_func, lenV_slice, fldV_ptr, partV_agg, extV_tuple, callvV_func,
    Option.map_some, Option.bind_some, Option.isNone_none, Option.isNone_some, List.getElem?_cons_zero, List.getElem?_cons_succ, decide_true, decide_false, if_true, if_false, Bool.not_true, Bool.not_false, Bool.false_eq_true, ne_eq, reduceCtorEq, not_false_eq_true, not_true_eq_false, Bool.true_and, Bool.false_and, Bool.and_true, Bool.and_false, Bool.true_or, Bool.false_or, Bool.or_true, Bool.or_false,
    finR_n, finR_r, List.length_cons, List.length_nil, Nat.reduceAdd, Nat.reduceSub, List.replicate_succ, List.replicate_zero, List.cons_append, List.nil_append, resultsI, packRes, Option.getD_none, Option.getD_some, Nat.zero_add, Nat.add_zero, Nat.reduceEqDiff, Nat.reduceMul, Nat.mul_one, againV_slice, againV_ptr, againV_map, againV_int, againV_bool, fillI, over, boxV, V.cells, V.one, List.all_cons, List.all_nil, List.take_succ_cons, List.take_zero, List.drop_succ_cons, List.drop_zero, Nat.reduceLeDiff, Nat.le_refl, true_and, and_true, and_self, List.append_nil, alloc_next, set_next, kill_next, Int.reduceBNe, Int.reduceBEq, bne_self_eq_false, beq_self_eq_true, l37_0, k37_4, k37_5, k37_6, k37_7, hlt, hl0, hix, hld, hw, hw2]
      rw [hLL, used2_loop h hb m (i + 1) (c + 1) (by omega) (by omega), hd, hbi]
      simp only [List.count_cons_self, Nat.add_assoc, Nat.add_comm 1]

theorem s37_nil (s : St) : call PF 37 [.ptr none] s = some (.int .i64 0, s) := by
  rw [call_run F37]
  simp -implicitDefEqProofs only [↓go_skip, ↓go_seq, ↓go_region, ↓go_cond, ↓go_block, ↓go_exit, ↓go_ret, ↓go_loop, ↓goOps_plain, goOps_nil, ↓goOps_guard, MK_run, seqK_n, seqK_x, seqK_r, blockK_n, blockK_x, blockK_r, roundK_n, roundK_x, roundK_r, contO_some, guardO_tt, guardO_ff, guardO_tf, guardO_ft, guardO_tuple, condO_t, condO_f,
    x_mov, x_pick, x_build, x_bin, x_eql, x_un, x_conv, x_mkFunc, x_nilCheck, x_lenSlice, x_slice, x_fieldAddr, x_field, x_extract, x_indexAddr, x_load, x_again, look_load, look_lookup, look_len, x_alloc, x_box, x_buildSlice, x_mkMap, x_mkSlice, x_callv, x_lookup, x_lenMap, x_store, x_mapSet, x_append, execI_call,
    put_some, put_none, List.set_cons_succ, List.set_cons_zero, ev_t, ev_c, List.getD_cons_succ, List.getD_cons_zero, maskEnv_t, maskEnv_f, maskEnv_nil, List.map_cons, List.map_nil,
    binI_int, intI_add, intI_sub, intI_mul, intI_eql, intI_neq, intI_lss, intI_leq, intI_gtr, intI_geq, unI_not, eqI_nil, eqI_ptr, withS_some, pickV_bool, convV_int, nilV_ptr, nilV_func, lenV_slice, fldV_ptr, partV_agg, extV_tuple, callvV_func,
    Option.map_some, Option.bind_some, Option.isNone_none, Option.isNone_some, List.getElem?_cons_zero, List.getElem?_cons_succ, decide_true, decide_false, if_true, if_false, Bool.not_true, Bool.not_false, Bool.false_eq_true, ne_eq, reduceCtorEq, not_false_eq_true, not_true_eq_false, Bool.true_and, Bool.false_and, Bool.and_true, Bool.and_false, Bool.true_or, Bool.false_or, Bool.or_true, Bool.or_false,
    finR_n, finR_r, List.length_cons, List.length_nil, Nat.reduceAdd, Nat.reduceSub, List.replicate_succ, List.replicate_zero, List.cons_append, List.nil_append, resultsI, packRes, Option.getD_none, Option.getD_some, Nat.zero_add, Nat.add_zero, Nat.reduceEqDiff, Nat.reduceMul, Nat.mul_one, againV_slice, againV_ptr, againV_map, againV_int, againV_bool, fillI, over, boxV, V.cells, V.one, List.all_cons, List.all_nil, List.take_succ_cons, List.take_zero, List.drop_succ_cons, List.drop_zero, Nat.reduceLeDiff, Nat.le_refl, true_and, and_true, and_self, List.append_nil, alloc_next, set_next, kill_next, Int.reduceBNe, Int.reduceBEq, bne_self_eq_false, beq_self_eq_true, c37, k37_0, k37_1, k37_2]

theorem s37 {p r : Nat} {bs : List Bool} (h : PoolAt s p r bs) (hb : bs.length ≤ 400) : call PF 37 [.ptr (some ⟨.new p, 0⟩)] s = some (.int .i64 (bs.count true : Nat), s) := by
  rw [call_run F37]
  simp -implicitDefEqProofs only [↓go_skip, ↓go_seq, ↓go_region, ↓go_cond, ↓go_block, ↓go_exit, ↓go_ret, ↓go_loop, ↓goOps_plain, goOps_nil, ↓goOps_guard, MK_run, seqK_n, seqK_x, seqK_r, blockK_n, blockK_x, blockK_r, roundK_n, roundK_x, roundK_r, contO_some, guardO_tt, guardO_ff, guardO_tf, guardO_ft, guardO_tuple, condO_t, condO_f,
    x_mov, x_pick, x_build, x_bin, x_eql, x_un, x_conv, x_mkFunc, x_nilCheck, x_lenSlice, x_slice, x_fieldAddr, x_field, x_extract, x_indexAddr, x_load, x_again, look_load, look_lookup, look_len, x_alloc, x_box, x_buildSlice, x_mkMap, x_mkSlice, x_callv, x_lookup, x_lenMap, x_store, x_mapSet, x_append, execI_call,
    put_some, put_none, List.set_cons_succ, List.set_cons_zero, ev_t, ev_c, List.getD_cons_succ, List.getD_cons_zero, maskEnv_t, maskEnv_f, maskEnv_nil, List.map_cons, List.map_nil,
    binI_int, intI_add, intI_sub, intI_mul, intI_eql, intI_neq, intI_lss, intI_leq, intI_gtr, intI_geq, unI_not, eqI_nil, eqI_ptr, withS_some, pickV_bool, convV_int, nilV_ptr, nilV_func, lenV_slice, fldV_ptr, partV_agg, extV_tuple, callvV_func,
    Option.map_some, Option.bind_some, Option.isNone_none, Option.isNone_some, List.getElem?_cons_zero, List.getElem?_cons_succ, decide_true, decide_false, if_true, if_false, Bool.not_true, Bool.not_false, Bool.false_eq_true, ne_eq, reduceCtorEq, not_false_eq_true, not_true_eq_false, Bool.true_and, Bool.false_and, Bool.and_true, Bool.and_false, Bool.true_or, Bool.false_or, Bool.or_true, Bool.or_false,
    finR_n, finR_r, List.length_cons, List.length_nil, Nat.reduceAdd, Nat.reduceSub, List.replicate_succ, List.replicate_zero, List.cons_append, List.nil_append, resultsI, packRes, Option.getD_none, Option.getD_some, Nat.zero_add, Nat.add_zero, Nat.reduceEqDiff, Nat.reduceMul, Nat.mul_one, againV_slice, againV_ptr, againV_map, againV_int, againV_bool, fillI, over, boxV, V.cells, V.one, List.all_cons, List.all_nil, List.take_succ_cons, List.take_zero, List.drop_succ_cons, List.drop_zero, Nat.reduceLeDiff, Nat.le_refl, true_and, and_true, and_self, List.append_nil, alloc_next, set_next, kill_next, Int.reduceBNe, Int.reduceBEq, bne_self_eq_false, beq_self_eq_true, c37, k37_0, k37_1, k37_2, k37_3, k37_4]
  refine (used2_loop h hb bs.length 0 0 (by omega) (by omega)).trans ?_
  simp -implicitDefEqProofs only [↓go_skip, ↓go_seq, ↓go_region, ↓go_cond, ↓go_block, ↓go_exit, ↓go_ret, ↓go_loop, ↓goOps_plain, goOps_nil, ↓goOps_guard, MK_run, seqK_n, seqK_x, seqK_r, blockK_n, blockK_x, blockK_r, roundK_n, roundK_x, roundK_r, contO_some, guardO_tt, guardO_ff, guardO_tf, guardO_ft, guardO_tuple, condO_t, condO_f,
    x_mov, x_pick, x_build, x_bin, x_eql, x_un, x_conv, x_mkFunc, x_nilCheck, x_lenSlice, x_slice, x_fieldAddr, x_field, x_extract, x_indexAddr, x_load, x_again, look_load, look_lookup, look_len, x_alloc, x_box, x_buildSlice, x_mkMap, x_mkSlice, x_callv, x_lookup, x_lenMap, x_store, x_mapSet, x_append, execI_call,
    put_some, put_none, List.set_cons_succ, List.set_cons_zero, ev_t, ev_c, List.getD_cons_succ, List.getD_cons_zero, maskEnv_t, maskEnv_f, maskEnv_nil, List.map_cons, List.map_nil,
    binI_int, intI_add, intI_sub, intI_mul, intI_eql, intI_neq, intI_lss, intI_leq, intI_gtr, intI_geq, unI_not, eqI_nil, eqI_ptr, withS_some, pickV_bool, convV_int, nilV_ptr, nilV_func, lenV_slice, fldV_ptr, partV_agg, extV_tuple, callvV_func,
    Option.map_some, Option.bind_some, Option.isNone_none, Option.isNone_some, List.getElem?_cons_zero, List.getElem?_cons_succ, decide_true, decide_false, if_true, if_false, Bool.not_true, Bool.not_false, Bool.false_eq_true, ne_eq, reduceCtorEq, not_false_eq_true, not_true_eq_false, Bool.true_and, Bool.false_and, Bool.and_true, Bool.and_false, Bool.true_or, Bool.false_or, Bool.or_true, Bool.or_false,
    finR_n, finR_r, List.length_cons, List.length_nil, Nat.reduceAdd, Nat.reduceSub, List.replicate_succ, List.replicate_zero, List.cons_append, List.nil_append, resultsI, packRes, Option.getD_none, Option.getD_some, Nat.zero_add, Nat.add_zero, Nat.reduceEqDiff, Nat.reduceMul, Nat.mul_one, againV_slice, againV_ptr, againV_map, againV_int, againV_bool, fillI, over, boxV, V.cells, V.one, List.all_cons, List.all_nil, List.take_succ_cons, List.take_zero, List.drop_succ_cons, List.drop_zero, Nat.reduceLeDiff, Nat.le_refl, true_and, and_true, and_self, List.append_nil, alloc_next, set_next, kill_next, Int.reduceBNe, Int.reduceBEq, bne_self_eq_false, beq_self_eq_true, k37_2]

theorem s19_nil (s : St) : call PF 19 [.ptr none] s = some (.int .i64 0, s) := by
  rw [call_run F19]
  simp -implicitDefEqProofs only [↓go_skip, ↓go_seq, ↓go_region, ↓go_cond, ↓go_block, ↓go_exit, ↓go_ret, ↓go_loop, ↓goOps_plain, goOps_nil, ↓goOps_guard, MK_run, seqK_n, seqK_x, seqK_r, blockK_n, blockK_x, blockK_r, roundK_n, roundK_x, roundK_r, contO_some, guardO_tt, guardO_ff, guardO_tf, guardO_ft, guardO_tuple, condO_t, condO_f,
    x_mov, x_pick, x_build, x_bin, x_eql, x_un, x_conv, x_mkFunc, x_nilCheck, x_lenSlice, x_slice, x_fieldAddr, x_field, x_extract, x_indexAddr, x_load, x_again, look_load, look_lookup, look_len, x_alloc, x_box, x_buildSlice, x_mkMap, x_mkSlice, x_callv, x_lookup, x_lenMap, x_store, x_mapSet, x_append, execI_call,
    put_some, put_none, List.set_cons_succ, List.set_cons_zero, ev_t, ev_c, List.getD_cons_succ, List.getD_cons_zero, maskEnv_t, maskEnv_f, maskEnv_nil, List.map_cons, List.map_nil,
    binI_int, intI_add, intI_sub, intI_mul, intI_eql, intI_neq, intI_lss, intI_leq, intI_gtr, intI_geq, unI_not, eqI_nil, eqI_ptr, withS_some, pickV_bool, convV_int, nilV_ptr, nilV_func, lenV_slice, fldV_ptr, partV_agg, extV_tuple, callvV_func,
    Option.map_some, Option.bind_some, Option.isNone_none, Option.isNone_some, List.getElem?_cons_zero, List.getElem?_cons_succ, decide_true, decide_false, if_true, if_false, Bool.not_true, Bool.not_false, Bool.false_eq_true, ne_eq, reduceCtorEq, not_false_eq_true, not_true_eq_false, Bool.true_and, Bool.false_and, Bool.and_true, Bool.and_false, Bool.true_or, Bool.false_or, Bool.or_true, Bool.or_false,
    finR_n, finR_r, List.length_cons, List.length_nil, Nat.reduceAdd, Nat.reduceSub, List.replicate_succ, List.replicate_zero, List.cons_append, List.nil_append, resultsI, packRes, Option.getD_none, Option.getD_some, Nat.zero_add, Nat.add_zero, Nat.reduceEqDiff, Nat.reduceMul, Nat.mul_one, againV_slice, againV_ptr, againV_map, againV_int, againV_bool, fillI, over, boxV, V.cells, V.one, List.all_cons, List.all_nil, List.take_succ_cons, List.take_zero, List.drop_succ_cons, List.drop_zero, Nat.reduceLeDiff, Nat.le_refl, true_and, and_true, and_self, List.append_nil, alloc_next, set_next, kill_next, Int.reduceBNe, Int.reduceBEq, bne_self_eq_false, beq_self_eq_true, c19, k19_0, k19_1, k19_2]

theorem s19 {p r : Nat} {bs : List Bool} (h : PoolAt s p r bs) (hb : bs.length ≤ 400) : call PF 19 [.ptr (some ⟨.new p, 0⟩)] s = some (.int .i64 (bs.count false : Nat), s) := by
  rw [call_run F19]
  have hl0 := load_cell (off := 0) h.1 rfl
  have hc : bs.count true + bs.count false = bs.length := count_both bs
  have hw : wrapI .i64 ((bs.length : Int) - (bs.count true : Nat)) = .int .i64 (bs.count false : Nat) := by rw [wrap64 (by omega) (by omega)]; congr 1; omega
  simp -implicitDefEqProofs only [↓go_skip, ↓go_seq, ↓go_region, ↓go_cond, ↓go_block, ↓go_exit, ↓go_ret, ↓go_loop, ↓goOps_plain, goOps_nil, ↓goOps_guard, MK_run, seqK_n, seqK_x, seqK_r, blockK_n, blockK_x, blockK_r, roundK_n, roundK_x, roundK_r, contO_some, guardO_tt, guardO_ff, guardO_tf, guardO_ft, guardO_tuple, condO_t, condO_f,
    x_mov, x_pick, x_build, x_bin, x_eql, x_un, x_conv, x_mkFunc, x_nilCheck, x_lenSlice, x_slice, x_fieldAddr, x_field, x_extract, x_indexAddr, x_load, x_again, look_load, look_lookup, look_len, x_alloc, x_box, x_buildSlice, x_mkMap, x_mkSlice, x_callv, x_lookup, x_lenMap, x_store, x_mapSet, x_append, execI_call,
    put_some, put_none, List.set_cons_succ, List.set_cons_zero, ev_t, ev_c, List.getD_cons_succ, List.getD_cons_zero, maskEnv_t, maskEnv_f, maskEnv_nil, List.map_cons, List.map_nil,
    binI_int, intI_add, intI_sub, intI_mul, intI_eql, intI_neq, intI_lss, intI_leq, intI_gtr, intI_geq, unI_not, eqI_nil, eqI_ptr, withS_some, pickV_bool, convV_int, nilV_ptr, nilV_func, lenV_slice, fldV_ptr, partV_agg, extV_tuple, callvV_func,
    Option.map_some, Option.bind_some, Option.isNone_none, Option.isNone_some, List.getElem?_cons_zero, List.getElem?_cons_succ, decide_true, decide_false, if_true, if_false, Bool.not_true, Bool.not_false, Bool.false_eq_true, ne_eq, reduceCtorEq, not_false_eq_true, not_true_eq_false, Bool.true_and, Bool.false_and, Bool.and_true, Bool.and_false, Bool.true_or, Bool.false_or, Bool.or_true, Bool.or_false,
    finR_n, finR_r, List.length_cons, List.length_nil, Nat.reduceAdd, Nat.reduceSub, List.replicate_succ, List.replicate_zero, List.cons_append, List.nil_append, resultsI, packRes, Option.getD_none, Option.getD_some, Nat.zero_add, Nat.add_zero, Nat.reduceEqDiff, Nat.reduceMul, Nat.mul_one, againV_slice, againV_ptr, againV_map, againV_int, againV_bool, fillI, over, boxV, V.cells, V.one, List.all_cons, List.all_nil, List.take_succ_cons, List.take_zero, List.drop_succ_cons, List.drop_zero, Nat.reduceLeDiff, Nat.le_refl, true_and, and_true, and_self, List.append_nil, alloc_next, set_next, kill_next, Int.reduceBNe, Int.reduceBEq, bne_self_eq_false, beq_self_eq_true, c19, k19_0, k19_1, k19_2, hl0, s21 h hb, hw]

theorem s20_nil (s : St) : call PF 20 [.ptr none] s = some (.int .i64 0, s) := by
  rw [call_run F20]
  simp -implicitDefEqProofs only [↓go_skip, ↓go_seq, ↓go_region, ↓go_cond, ↓go_block, ↓go_exit, ↓go_ret, ↓go_loop, ↓goOps_plain, goOps_nil, ↓goOps_guard, MK_run, seqK_n, seqK_x, seqK_r, blockK_n, blockK_x, blockK_r, roundK_n, roundK_x, roundK_r, contO_some, guardO_tt, guardO_ff, guardO_tf, guardO_ft, guardO_tuple, condO_t, condO_f,
    x_mov, x_pick, x_build, x_bin, x_eql, x_un, x_conv, x_mkFunc, x_nilCheck, x_lenSlice, x_slice, x_fieldAddr, x_field, x_extract, x_indexAddr, x_load, x_again, look_load, look_lookup, look_len, x_alloc, x_box, x_buildSlice, x_mkMap, x_mkSlice, x_callv, x_lookup, x_lenMap, x_store, x_mapSet, x_append, execI_call,
    put_some, put_none, List.set_cons_succ, List.set_cons_zero, ev_t, ev_c, List.getD_cons_succ, List.getD_cons_zero, maskEnv_t, maskEnv_f, maskEnv_nil, List.map_cons, List.map_nil,
    binI_int, intI_add, intI_sub, intI_mul, intI_eql, intI_neq, intI_lss, intI_leq, intI_gtr, intI_geq, unI_not, eqI_nil, eqI_ptr, withS_some, pickV_bool, convV_int, nilV_ptr, nilV_func, lenV_slice, fldV_ptr, partV_agg, extV_tuple, callvV_func,
    Option.map_some, Option.bind_some, Option.isNone_none, Option.isNone_some, List.getElem?_cons_zero, List.getElem?_cons_succ, decide_true, decide_false, if_true, if_false, Bool.not_true, Bool.not_false, Bool.false_eq_true, ne_eq, reduceCtorEq, not_false_eq_true, not_true_eq_false, Bool.true_and, Bool.false_and, Bool.and_true, Bool.and_false, Bool.true_or, Bool.false_or, Bool.or_true, Bool.or_false,
    finR_n, finR_r, List.length_cons, List.length_nil, Nat.reduceAdd, Nat.reduceSub, List.replicate_succ, List.replicate_zero, List.cons_append, List.nil_append, resultsI, packRes, Option.getD_none, Option.getD_some, Nat.zero_add, Nat.add_zero, Nat.reduceEqDiff, Nat.reduceMul, Nat.mul_one, againV_slice, againV_ptr, againV_map, againV_int, againV_bool, fillI, over, boxV, V.cells, V.one, List.all_cons, List.all_nil, List.take_succ_cons, List.take_zero, List.drop_succ_cons, List.drop_zero, Nat.reduceLeDiff, Nat.le_refl, true_and, and_true, and_self, List.append_nil, alloc_next, set_next, kill_next, Int.reduceBNe, Int.reduceBEq, bne_self_eq_false, beq_self_eq_true, c20, k20_0, k20_1, k20_2]

theorem s20 {p r : Nat} {bs : List Bool} (h : PoolAt s p r bs) (hb : bs.length ≤ 400) : call PF 20 [.ptr (some ⟨.new p, 0⟩)] s = some (.int .i64 (bs.count false : Nat), s) := by
  rw [call_run F20]
  have hl0 := load_cell (off := 0) h.1 rfl
  have hc : bs.count true + bs.count false = bs.length := count_both bs
  have hw : wrapI .i64 ((bs.length : Int) - (bs.count true : Nat)) = .int .i64 (bs.count false : Nat) := by rw [wrap64 (by omega) (by omega)]; congr 1; omega
  simp -implicitDefEqProofs only [↓go_skip, ↓go_seq, ↓go_region, ↓go_cond, ↓go_block, ↓go_exit, ↓go_ret, ↓go_loop, ↓goOps_plain, goOps_nil, ↓goOps_guard, MK_run, seqK_n, seqK_x, seqK_r, blockK_n, blockK_x, blockK_r, roundK_n, roundK_x, roundK_r, contO_some, guardO_tt, guardO_ff, guardO_tf, guardO_ft, guardO_tuple, condO_t, condO_f,
    x_mov, x_pick, x_build, x_bin, x_eql, x_un, x_conv, x_mkFunc, x_nilCheck, x_lenSlice, x_slice, x_fieldAddr, x_field, x_extract, x_indexAddr, x_load, x_again, look_load, look_lookup, look_len, x_alloc, x_box, x_buildSlice, x_mkMap, x_mkSlice, x_callv, x_lookup, x_lenMap, x_store, x_mapSet, x_append, execI_call,
    put_some, put_none, List.set_cons_succ, List.set_cons_zero, ev_t, ev_c, List.getD_cons_succ, List.getD_cons_zero, maskEnv_t, maskEnv_f, maskEnv_nil, List.map_cons, List.map_nil,
    binI_int, intI_add, intI_sub, intI_mul, intI_eql, intI_neq, intI_lss, intI_leq, intI_gtr, intI_geq, unI_not, eqI_nil, eqI_ptr, withS_some, pickV_bool, convV_int, nilV_ptr, nilV_func, lenV_slice, fldV_ptr, partV_agg, extV_tuple, callvV_func,
    Option.map_some, Option.bind_some, Option.isNone_none, Option.isNone_some, List.getElem?_cons_zero, List.getElem?_cons_succ, decide_true, decide_false, if_true, if_false, Bool.not_true, Bool.not_false, Bool.false_eq_true, ne_eq, reduceCtorEq, not_false_eq_true, not_true_eq_false, Bool.true_and, Bool.false_and, Bool.and_true, Bool.and_false, Bool.true_or, Bool.false_or, Bool.or_true, Bool.or_false,
    finR_n, finR_r, List.length_cons, List.length_nil, Nat.reduceAdd, Nat.reduceSub, List.replicate_succ, List.replicate_zero, List.cons_append, List.nil_append, resultsI, packRes, Option.getD_none, Option.getD_some, Nat.zero_add, Nat.add_zero, Nat.reduceEqDiff, Nat.reduceMul, Nat.mul_one, againV_slice, againV_ptr, againV_map, againV_int, againV_bool, fillI, over, boxV, V.cells, V.one, List.all_cons, List.all_nil, List.take_succ_cons, List.take_zero, List.drop_succ_cons, List.drop_zero, Nat.reduceLeDiff, Nat.le_refl, true_and, and_true, and_self, List.append_nil, alloc_next, set_next, kill_next, Int.reduceBNe, Int.reduceBEq, bne_self_eq_false, beq_self_eq_true, c20, k20_0, k20_1, k20_2, hl0, s37 h hb, hw]

theorem s22_nil (s : St) : call PF 22 [.ptr none] s = some (.tuple [.ptr none, .int .i64 6], s) := by
  rw [call_run F22]
  simp -implicitDefEqProofs only [↓go_skip, ↓go_seq, ↓go_region, ↓go_cond, ↓go_block, ↓go_exit, ↓go_ret, ↓go_loop, ↓goOps_plain, goOps_nil, ↓goOps_guard, MK_run, seqK_n, seqK_x, seqK_r, blockK_n, blockK_x, blockK_r, roundK_n, roundK_x, roundK_r, contO_some, guardO_tt, guardO_ff, guardO_tf, guardO_ft, guardO_tuple, condO_t, condO_f,
    x_mov, x_pick, x_build, x_bin, x_eql, x_un, x_conv, x_mkFunc, x_nilCheck, x_lenSlice, x_slice, x_fieldAddr, x_field, x_extract, x_indexAddr, x_load, x_again, look_load, look_lookup, look_len, x_alloc, x_box, x_buildSlice, x_mkMap, x_mkSlice, x_callv, x_lookup, x_lenMap, x_store, x_mapSet, x_append, execI_call,
    put_some, put_none, List.set_cons_succ, List.set_cons_zero, ev_t, ev_c, List.getD_cons_succ, List.getD_cons_zero, maskEnv_t, maskEnv_f, maskEnv_nil, List.map_cons, List.map_nil,
    binI_int, intI_add, intI_sub, intI_mul, intI_eql, intI_neq, intI_lss, intI_leq, intI_gtr, intI_geq, unI_not, eqI_nil, eqI_ptr, withS_some, pickV_bool, convV_int, nilV_ptr, nilV_func, lenV_slice, fldV_ptr, partV_agg, extV_tuple, callvV_func,
    Option.map_some, Option.bind_some, Option.isNone_none, Option.isNone_some, List.getElem?_cons_zero, List.getElem?_cons_succ, decide_true, decide_false, if_true, if_false, Bool.not_true, Bool.not_false, Bool.false_eq_true, ne_eq, reduceCtorEq, not_false_eq_true, not_true_eq_false, Bool.true_and, Bool.false_and, Bool.and_true, Bool.and_false, Bool.true_or, Bool.false_or, Bool.or_true, Bool.or_false,
    finR_n, finR_r, List.length_cons, List.length_nil, Nat.reduceAdd, Nat.reduceSub, List.replicate_succ, List.replicate_zero, List.cons_append, List.nil_append, resultsI, packRes, Option.getD_none, Option.getD_some, Nat.zero_add, Nat.add_zero, Nat.reduceEqDiff, Nat.reduceMul, Nat.mul_one, againV_slice, againV_ptr, againV_map, againV_int, againV_bool, fillI, over, boxV, V.cells, V.one, List.all_cons, List.all_nil, List.take_succ_cons, List.take_zero, List.drop_succ_cons, List.drop_zero, Nat.reduceLeDiff, Nat.le_refl, true_and, and_true, and_self, List.append_nil, alloc_next, set_next, kill_next, Int.reduceBNe, Int.reduceBEq, bne_self_eq_false, beq_self_eq_true, c22, k22_0, k22_1, k22_2]
end
end Go.Proofs.Ytoldkemimhebaaa
