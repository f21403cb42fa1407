/- The machine's equations, in two bundles. -/
import Derived.Test.YtfcaamoapdibiaaGreatDoorIm18
set_option linter.defProp false
namespace Go.IM













def GL := And.intro (@List.set_cons_succ.{0}) (And.intro (@List.set_cons_zero.{0}) (And.intro (@List.getD_cons_succ.{0}) (And.intro (@List.getD_cons_zero.{0}) (And.intro (@List.map_cons.{0, 0}) (And.intro (@List.map_nil.{0, 0}) (And.intro (@Option.map_some.{0, 0}) (And.intro (@Option.map_none.{0, 0}) (And.intro (@Option.bind_none.{0, 0}) (And.intro (@Option.bind_some.{0, 0}) (And.intro (@Option.isNone_none.{0}) (And.intro (@Option.isNone_some.{0}) (And.intro (@List.getElem?_cons_zero.{0}) (And.intro (@List.getElem?_cons_succ.{0}) (And.intro @decide_true (And.intro @decide_false (And.intro (@if_true.{1}) (And.intro (@if_false.{1}) (And.intro @Bool.not_true (And.intro @Bool.not_false (And.intro @Bool.false_eq_true (And.intro (@ne_eq.{1}) (And.intro @not_false_eq_true (And.intro @not_true_eq_false (And.intro @Bool.true_and (And.intro @Bool.false_and (And.intro @Bool.and_true (And.intro @Bool.and_false (And.intro @Bool.true_or (And.intro @Bool.false_or (And.intro @Bool.or_true (And.intro @Bool.or_false (And.intro (@List.length_cons.{0}) (And.intro (@List.length_nil.{0}) (And.intro (@List.replicate_succ.{0}) (And.intro (@List.replicate_zero.{0}) (And.intro (@List.cons_append.{0}) (And.intro (@List.nil_append.{0}) (And.intro (@Option.getD_none.{0}) (And.intro (@Option.getD_some.{0}) (And.intro @Nat.zero_add (And.intro @Nat.add_zero (And.intro @Nat.mul_one (And.intro (@List.all_cons.{0}) (And.intro (@List.all_nil.{0}) (And.intro (@List.take_succ_cons.{0}) (And.intro (@List.take_zero.{0}) (And.intro (@List.drop_succ_cons.{0}) (And.intro (@List.drop_zero.{0}) (And.intro @Nat.le_refl (And.intro @true_and (And.intro @and_true (And.intro @and_self (And.intro (@List.append_nil.{0}) (And.intro (@bne_self_eq_false.{0}) (And.intro (@beq_self_eq_true.{0}) (And.intro (@List.length_append.{0}) (@List.set_nil.{0})))))))))))))))))))))))))))))))))))))))))))))))))))))))))
end Go.IM
