/- PageApart: the words of objects are apart. -/
import Derived.Test.YtoldkemimhebaaaPg4
set_option linter.unusedSimpArgs false
set_option linter.unusedVariables false
namespace Go.Proofs.Ytoldkemimhebaaa
open Go Go.IM

/-- The words of an object in a page. -/
def wordsO (x : Obj) : List Nat := if x.at_ < 1000000 then (List.range (x.ws.length + 1)).map fun m => x.at_ + m else []
def wordsR (r : Reg) : List Nat := r.objs.flatMap wordsO
theorem wordsO_mem {x : Obj} {w : Nat} (h : w ∈ wordsO x) : x.at_ ≤ w ∧ w < x.at_ + (x.ws.length + 1) := by
  unfold wordsO at h
  split at h
  · obtain ⟨m, hm, rfl⟩ := List.mem_map.1 h
    have := List.mem_range.1 hm
    omega
  · cases h
theorem wordsO_nodup (x : Obj) : (wordsO x).Nodup := by
  unfold wordsO
  split
  · refine List.Pairwise.map _ (fun a b h => ?_) List.nodup_range
    omega
  · exact List.nodup_nil
theorem words_objs : ∀ l : List Obj, (l.map fun x => (x.at_, x.ws.length + 1)).Pairwise (fun x y => x.1 + x.2 ≤ y.1 ∨ y.1 + y.2 ≤ x.1) → (l.flatMap wordsO).Nodup
  | [], _ => List.nodup_nil
  | x :: l, h => by
    rw [List.map_cons, List.pairwise_cons] at h
    rw [List.flatMap_cons, List.nodup_append]
    refine ⟨wordsO_nodup x, words_objs l h.2, fun a ha b hb e => ?_⟩
    obtain ⟨y, hy, hb⟩ := List.mem_flatMap.1 hb
    have h1 := h.1 (y.at_, y.ws.length + 1) (List.mem_map.2 ⟨y, hy, rfl⟩)
    have h2 := wordsO_mem ha
    have h3 := wordsO_mem hb
    simp only at h1
    omega
theorem RInv.word {r : Reg} (h : RInv r) {w : Nat} (hw : w ∈ wordsR r) : ∃ p ∈ r.pages, p * 32 ≤ w ∧ w < p * 32 + 32 := by
  obtain ⟨x, hx, hw⟩ := List.mem_flatMap.1 hw
  by_cases hs : r.size = 0
  · obtain ⟨p, hp, h1, h2, -⟩ := ((h.inf hs).facts h.os).2.1 (x.at_, x.ws.length + 1) (List.mem_map.2 ⟨x, hx, rfl⟩)
    have := wordsO_mem hw
    simp only at h1 h2
    exact ⟨p, hp, by omega, by omega⟩
  · have := (h.fin (by omega)).2.2.2 x hx
    unfold wordsO at hw
    rw [if_neg (by omega)] at hw
    cases hw
theorem RInv.words {r : Reg} (h : RInv r) : (wordsR r).Nodup := by
  by_cases hs : r.size = 0
  · exact words_objs _ ((h.inf hs).facts h.os).2.2.2.2.2
  · have : wordsR r = [] := by
      refine List.eq_nil_iff_forall_not_mem.2 fun w hw => ?_
      obtain ⟨x, hx, hw⟩ := List.mem_flatMap.1 hw
      have := (h.fin (by omega)).2.2.2 x hx
      unfold wordsO at hw
      rw [if_neg (by omega)] at hw
      cases hw
    rw [this]; exact List.nodup_nil
theorem words_regs : ∀ L : List Reg, (∀ r ∈ L, RInv r) → (L.flatMap (·.pages)).Nodup → (L.flatMap wordsR).Nodup
  | [], _, _ => List.nodup_nil
  | r :: L, h, hp => by
    rw [List.flatMap_cons, List.nodup_append] at hp
    rw [List.flatMap_cons, List.nodup_append]
    refine ⟨(h r (List.mem_cons_self ..)).words, words_regs L (fun x hx => h x (List.mem_cons_of_mem _ hx)) hp.2.1, fun a ha b hb e => ?_⟩
    subst e
    obtain ⟨r', hr', hb⟩ := List.mem_flatMap.1 hb
    obtain ⟨p, m1, a1, a2⟩ := (h r (List.mem_cons_self ..)).word ha
    obtain ⟨q, m2, b1, b2⟩ := (h r' (List.mem_cons_of_mem _ hr')).word hb
    have : p = q := by omega
    exact hp.2.2 p m1 q (List.mem_flatMap.2 ⟨r', hr', m2⟩) this
/-- What the map of taken words answers. -/
def tf (W : List Nat) (a : Int) : Option V := if a ∈ W.map (fun w : Nat => (w : Int)) then some (.bool true) else none
theorem tf_nil : tf [] = fun _ => none := by funext a; simp [tf]
theorem tf_add (W : List Nat) (w : Nat) : (fun b : Int => if b = ((w : Nat) : Int) then some (V.bool true) else tf W b) = tf (W ++ [w]) := by
  funext b
  unfold tf
  by_cases h : b = (w : Int)
  · simp [h]
  · simp [h]
theorem tf_new {W : List Nat} {w : Nat} (h : w ∉ W) : tf W ((w : Nat) : Int) = none := by
  unfold tf
  rw [if_neg]
  intro hm
  obtain ⟨x, hx, e⟩ := List.mem_map.1 hm
  have : x = w := by omega
  exact h (this ▸ hx)

-- virgate/virgatelaw15.PageApart
def l4_0 : IC := (.seq (.seq (.seq (.region [oa 39 (.mov (.t 8)), oa 40 (.mov (.t 0)), oa 41 (.lenSlice (.t 40)), oa 42 (.bin .lss (.t 39) (.t 41))] (kp 158 [0,3,7,8,42]))
  (.cond (.t 42)
  (sk 158 [0,3,7,8])
  (sx 158 [7] 0)))
  (.seq (.block 1
  (.region [oa 45 (.mov (.t 3)), oa 46 (.indexAddr 1 (.t 45) (ai 0)), oa 47 (.load none (.t 46)), oa 48 (.mov (.t 0)), oa 49 (.mov (.t 8)), oa 50 (.indexAddr 11 (.t 48) (.t 49)), oa 51 (.load (some 11) (.t 50)), oa 52 (.call 26 [(.t 47), (.t 51)])] (kp 158 [0,3,7,8])))
  (.region [oa 43 (.mov (.t 8)), oa 44 (.bin .add (.t 43) (ai 1)), oa 8 (.mov (.t 44))] (kp 158 [0,3,7,8]))))
  (sk 158 [0,3,7,8]))
def l4_1 : IC := (.seq (.seq (.seq (.region [oa 102 (.mov (.t 20)), oa 103 (.mov (.t 13)), oa 104 (.lenSlice (.t 103)), oa 105 (.bin .lss (.t 102) (.t 104))] (kp 158 [7,9,10,11,13,15,17,19,20,105]))
  (.cond (.t 105)
  (sk 158 [7,9,10,11,13,15,17,19,20])
  (sx 158 [7,9,10,11,13,15,17,19] 6)))
  (.seq (.block 7
  (.region [oa 108 (.mov (.t 19)), oa 109 (.mov (.t 108)), oc 110 (.mov (.t 13)) 109 ff, oc 111 (.mov (.t 20)) 109 ff, oc 112 (.indexAddr 1 (.t 110) (.t 111)) 109 ff, oc 113 (.load none (.t 112)) 109 ff, oc 114 (.mov (.t 11)) 109 ff, oc 115 (.mov (.t 15)) 109 ff, oc 116 (.indexAddr 2 (.t 114) (.t 115)) 109 ff, oc 117 (.fieldAddr 0 (.t 116)) 109 ff, oc 118 (.load none (.t 117)) 109 ff, oc 119 (.bin .quo (.t 118) (ai 32)) 109 ff, oc 120 (.bin .eql (.t 113) (.t 119)) 109 ff, oc 121 (.mov (.t 120)) 109 ff, oc 122 (.mov (.t 11)) 121 tt, oc 123 (.mov (.t 15)) 121 tt, oc 124 (.indexAddr 2 (.t 122) (.t 123)) 121 tt, oc 125 (.fieldAddr 0 (.t 124)) 121 tt, oc 126 (.load none (.t 125)) 121 tt, oc 127 (.bin .rem (.t 126) (ai 32)) 121 tt, oc 128 (.mov (.t 17)) 121 tt, oc 129 (.bin .add (.t 127) (.t 128)) 121 tt, oc 130 (.bin .lss (.t 129) (ai 32)) 121 tt, oc 131 (.pick (.t 121) (.t 130) (.c (.bool false))) 109 ff, oa 132 (.pick (.t 109) (.c (.bool true)) (.t 131)), oa 19 (.mov (.t 132))] (kp 158 [7,9,10,11,13,15,17,19,20])))
  (.region [oa 106 (.mov (.t 20)), oa 107 (.bin .add (.t 106) (ai 1)), oa 20 (.mov (.t 107))] (kp 158 [7,9,10,11,13,15,17,19,20]))))
  (sk 158 [7,9,10,11,13,15,17,19,20]))
def l4_2 : IC := (.seq (.seq (.seq (.region [oa 133 (.mov (.t 21)), oa 134 (.mov (.t 17)), oa 135 (.bin .leq (.t 133) (.t 134))] (kp 158 [7,9,10,11,13,15,17,19,21,135]))
  (.cond (.t 135)
  (sk 158 [7,9,10,11,13,15,17,19,21])
  (sx 158 [7,9,10,11,13,15,19] 8)))
  (.seq (.block 9
  (.seq (.seq (.region [oa 138 (.mov (.t 9)), oa 139 (.mov (.t 11)), oa 140 (.mov (.t 15)), oa 141 (.indexAddr 2 (.t 139) (.t 140)), oa 142 (.fieldAddr 0 (.t 141)), oa 143 (.load none (.t 142)), oa 144 (.mov (.t 21)), oa 145 (.bin .add (.t 143) (.t 144)), oa 146 (.lookup (.one .i) (.bool false) false (.t 138) (.t 145))] (kp 158 [7,9,10,11,13,15,17,19,21,146]))
  (.cond (.t 146)
  (.seq (.region [oa 2 (.mov (.c (.bool false)))] (kp 158 [2]))
  (sr 158 [2]))
  (sk 158 [7,9,10,11,13,15,17,19,21])))
  (.region [oa 147 (.mov (.t 9)), oa 148 (.mov (.t 11)), oa 149 (.mov (.t 15)), oa 150 (.indexAddr 2 (.t 148) (.t 149)), oa 151 (.fieldAddr 0 (.t 150)), oa 152 (.load none (.t 151)), oa 153 (.mov (.t 21)), oa 154 (.bin .add (.t 152) (.t 153)), ob (.mapSet (.one .i) (.t 147) (.t 154) (.c (.bool true)))] (kp 158 [7,9,10,11,13,15,17,19,21]))))
  (.region [oa 136 (.mov (.t 21)), oa 137 (.bin .add (.t 136) (ai 1)), oa 21 (.mov (.t 137))] (kp 158 [7,9,10,11,13,15,17,19,21]))))
  (sk 158 [7,9,10,11,13,15,17,19,21]))
def l4_3 : IC := (.seq (.seq (.seq (.region [oa 78 (.mov (.t 15)), oa 79 (.mov (.t 11)), oa 80 (.lenSlice (.t 79)), oa 81 (.bin .lss (.t 78) (.t 80))] (kp 158 [7,9,10,11,13,15,81]))
  (.cond (.t 81)
  (sk 158 [7,9,10,11,13,15])
  (sx 158 [7,9,10] 4)))
  (.seq (.block 5
  (.seq (.region [oa 85 (.mov (.t 7)), oa 86 (.mov (.t 11)), oa 87 (.mov (.t 15)), oa 88 (.indexAddr 2 (.t 86) (.t 87)), oa 89 (.load (some 2) (.t 88)), oa 90 (.call 30 [(.t 85), (.t 89)]), oa 84 (.mov (.t 90)), oa 91 (.extract (.t 84) 0), oa 92 (.extract (.t 84) 1), oa 93 (.extract (.t 84) 2), oa 16 (.mov (.t 91)), oa 17 (.mov (.t 92)), oa 18 (.mov (.t 93))] (kp 158 [7,9,10,11,13,15,17,18]))
  (.seq (.seq (.region [oa 94 (.mov (.t 18)), oa 95 (.bin .neq (.t 94) (ai 0))] (kp 158 [7,9,10,11,13,15,17,95]))
  (.cond (.t 95)
  (.seq (.region [oa 2 (.mov (.c (.bool false)))] (kp 158 [2]))
  (sr 158 [2]))
  (sk 158 [7,9,10,11,13,15,17])))
  (.seq (.seq (.region [oa 96 (.mov (.t 11)), oa 97 (.mov (.t 15)), oa 98 (.indexAddr 2 (.t 96) (.t 97)), oa 99 (.fieldAddr 0 (.t 98)), oa 100 (.load none (.t 99)), oa 101 (.bin .geq (.t 100) (ai 1000000))] (kp 158 [7,9,10,11,13,15,17,101]))
  (.cond (.t 101)
  (sx 158 [7,9,10,11,13,15] 5)
  (sk 158 [7,9,10,11,13,15,17])))
  (.seq (.region [oa 19 (.mov (.c (.bool false)))] (kp 158 [7,9,10,11,13,15,17,19]))
  (.seq (.seq (.region [oa 20 (.mov (ai 0))] (kp 158 [7,9,10,11,13,15,17,19,20]))
  (.block 6
  (.seq (sk 158 [7,9,10,11,13,15,17,19,20])
  (.loop l4_1))))
  (.seq (.seq (.region [oa 21 (.mov (ai 0))] (kp 158 [7,9,10,11,13,15,17,19,21]))
  (.block 8
  (.seq (sk 158 [7,9,10,11,13,15,17,19,21])
  (.loop l4_2))))
  (.seq (.region [oa 155 (.mov (.t 19)), oa 156 (.un .not (.t 155))] (kp 158 [7,9,10,11,13,15,156]))
  (.cond (.t 156)
  (.seq (.region [oa 2 (.mov (.c (.bool false)))] (kp 158 [2]))
  (sr 158 [2]))
  (sk 158 [7,9,10,11,13,15]))))))))))
  (.region [oa 82 (.mov (.t 15)), oa 83 (.bin .add (.t 82) (ai 1)), oa 15 (.mov (.t 83))] (kp 158 [7,9,10,11,13,15]))))
  (sk 158 [7,9,10,11,13,15]))
def l4_4 : IC := (.seq (.seq (.seq (.region [oa 54 (.mov (.t 10)), oa 55 (.mov (.t 7)), oa 56 (.call 27 [(.t 55)]), oa 57 (.bin .lss (.t 54) (.t 56))] (kp 158 [7,9,10,57]))
  (.cond (.t 57)
  (sk 158 [7,9,10])
  (sx 158 [] 2)))
  (.seq (.block 3
  (.seq (.region [oa 61 (.mov (.t 7)), oa 62 (.mov (.t 10)), oa 63 (.call 28 [(.t 61), (.t 62)]), oa 60 (.mov (.t 63)), oa 64 (.extract (.t 60) 0), oa 65 (.extract (.t 60) 1), oa 11 (.mov (.t 64)), oa 12 (.mov (.t 65))] (kp 158 [7,9,10,11,12]))
  (.seq (.region [oa 67 (.mov (.t 7)), oa 68 (.mov (.t 10)), oa 69 (.call 29 [(.t 67), (.t 68)]), oa 66 (.mov (.t 69)), oa 70 (.extract (.t 66) 0), oa 71 (.extract (.t 66) 1), oa 13 (.mov (.t 70)), oa 14 (.mov (.t 71))] (kp 158 [7,9,10,11,12,13,14]))
  (.seq (.seq (.region [oa 72 (.mov (.t 12)), oa 73 (.bin .neq (.t 72) (ai 0)), oa 74 (.mov (.t 73)), oc 75 (.mov (.t 14)) 74 ff, oc 76 (.bin .neq (.t 75) (ai 0)) 74 ff, oa 77 (.pick (.t 74) (.c (.bool true)) (.t 76))] (kp 158 [7,9,10,11,13,77]))
  (.cond (.t 77)
  (.seq (.region [oa 2 (.mov (.c (.bool false)))] (kp 158 [2]))
  (sr 158 [2]))
  (sk 158 [7,9,10,11,13])))
  (.seq (.region [oa 15 (.mov (ai 0))] (kp 158 [7,9,10,11,13,15]))
  (.block 4
  (.seq (sk 158 [7,9,10,11,13,15])
  (.loop l4_3))))))))
  (.region [oa 58 (.mov (.t 10)), oa 59 (.bin .add (.t 58) (ai 1)), oa 10 (.mov (.t 59))] (kp 158 [7,9,10]))))
  (sk 158 [7,9,10]))
def c4 : IFn := ⟨158, [(2, none)],
  (.seq (.region [oa 2 (.mov (.c (.bool false)))] (kp 158 [0]))
  (.seq (.seq (.region [oa 22 (.mov (.t 0)), oa 23 (.call 24 [(.t 22)])] (kp 158 [0,23]))
  (.cond (.t 23)
  (.seq (.region [oa 24 (.call 23 []), oa 2 (.mov (.t 24))] (kp 158 [2]))
  (sr 158 [2]))
  (sk 158 [0])))
  (.seq (.region [oa 26 (.call 25 [(ai 12), (ai 1)]), oa 25 (.mov (.t 26)), oa 27 (.extract (.t 25) 0), oa 28 (.extract (.t 25) 1), oa 29 (.extract (.t 25) 2), oa 30 (.extract (.t 25) 3), oa 3 (.mov (.t 27)), oa 4 (.mov (.t 28)), oa 5 (.mov (.t 29)), oa 6 (.mov (.t 30))] (kp 158 [0,3,6]))
  (.seq (.seq (.region [oa 31 (.mov (.t 6)), oa 32 (.un .not (.t 31))] (kp 158 [0,3,32]))
  (.cond (.t 32)
  (.seq (.region [oa 2 (.mov (.c (.bool false)))] (kp 158 [2]))
  (sr 158 [2]))
  (sk 158 [0,3])))
  (.seq (.region [oa 33 (.mov (.t 3)), oa 34 (.indexAddr 1 (.t 33) (ai 0)), oa 35 (.load none (.t 34)), oa 36 (.nilCheck (.t 35)), oa 37 (.fieldAddr 0 (.t 36)), oa 38 (.load none (.t 37)), oa 7 (.mov (.t 38))] (kp 158 [0,3,7]))
  (.seq (.seq (.region [oa 8 (.mov (ai 0))] (kp 158 [0,3,7,8]))
  (.block 0
  (.seq (sk 158 [0,3,7,8])
  (.loop l4_0))))
  (.seq (.region [oa 53 .mkMap, oa 9 (.mov (.t 53))] (kp 158 [7,9]))
  (.seq (.seq (.region [oa 10 (.mov (ai 0))] (kp 158 [7,9,10]))
  (.block 2
  (.seq (sk 158 [7,9,10])
  (.loop l4_4))))
  (.seq (.region [oa 157 (.call 23 []), oa 2 (.mov (.t 157))] (kp 158 [2]))
  (sr 158 [2]))))))))))⟩
theorem F4 : shutF Try.prog 4 = some c4 := by kernel_rfl


section
variable {o : Nat → Option O} {s : St} {C F : Ch} {Q : V → St → Prop} {p r q t : Nat} {u : List Bool} {others : List Nat} {G : PairG}
set_option maxRecDepth 10000
set_option maxHeartbeats 4000000

theorem quo32 {a : Nat} (h : a < 2 ^ 62) : intI .quo .i64 (a : Int) 32 = some (I ((a / 32 : Nat) : Int)) := by
  have e : ((a : Int)).tdiv 32 = ((a / 32 : Nat) : Int) := by
    rw [Int.tdiv_eq_ediv_of_nonneg (by omega)]; rfl
  show (if (32 : Int) = 0 then none else some (wrapI .i64 ((a : Int).tdiv 32))) = _
  rw [if_neg (by decide), e, wrap64 (by omega) (by omega)]
theorem rem32 {a : Nat} : intI .rem .i64 (a : Int) 32 = some (I ((a % 32 : Nat) : Int)) := by
  have := rem_i64 (a := (a : Int)) (n := 32) (by omega) (by omega)
  simpa using this
theorem wp_eq {a b : Res} (e : a = b) (h : WP b Q) : WP a Q := by rw [e]; exact h
/-- Is it in this page? -/
def inP (at_ n p : Nat) : Bool := decide (p = at_ / 32 ∧ at_ % 32 + n < 32)

theorem in_loop {rk pk k n life : Nat} {v7 v9 v10 : V} {objs : List PObj} {pages : List Nat} {x : PObj} {K : Kt} (hC : Holds o s C)
    (mo : (rk, rowO 2 objs.length (objs.flatMap (encP life))) ∈ C) (mp : (pk, pagesO pages) ∈ C) (hx : objs[k]? = some x) (hat : x.b.at_ < 1000000) (hn : n ≤ 100) (hl : pages.length ≤ 400) :
    ∀ (m i : Nat) (b : Bool), i + m = pages.length →
    loop PF (.loop l4_1) (sp 158 [(7, v7), (9, v9), (10, v10), (11, rowV rk objs.length), (13, rowV pk pages.length), (15, I k), (17, I n), (19, .bool b), (20, I i)]) s K =
      K (.exit 6) (sp 158 [(7, v7), (9, v9), (10, v10), (11, rowV rk objs.length), (13, rowV pk pages.length), (15, I k), (17, I n), (19, .bool (b || (pages.drop i).any (inP x.b.at_ n)))]) s
  | 0, i, b, hi => by
    have e : i = pages.length := by omega
    subst e
    have hlt : ¬ ((pages.length : Int) < (pages.length : Int)) := by omega
    have hd : pages.drop pages.length = [] := List.drop_eq_nil_of_le (by omega)
    refine round fun LL hLL => ?_
    simp -implicitDefEqProofs only [↓GP, GB, GL, Nat.reduceAdd, Nat.reduceSub, Nat.reduceEqDiff, Nat.reduceMul, Nat.reduceLeDiff, Int.reduceBNe, Int.reduceBEq, Nat.reduceLT, reduceCtorEq, l4_1, rowV_len, hlt, hd, List.any_nil, Bool.or_false]
  | m + 1, i, b, hi => by
    have hlt : ((i : Int) < (pages.length : Int)) := by omega
    have hi' : i < pages.length := by omega
    have hk : k < objs.length := (List.getElem?_eq_some_iff.1 hx).1
    obtain ⟨k1, g1, e1, e2⟩ := (SlAt.row mp).get hC hi' 1
    obtain ⟨k2, g2, e3, e4⟩ := (SlAt.row mo).get hC hk 2
    have hat2 : (objs.flatMap (encP life))[k * 2]? = some (I x.b.at_) := by
      have := tab_get (enc := encP life) (sz := 2) (fun _ => rfl) objs [] (f := 0) hx (by omega)
      simpa [encP] using this
    have w := wrap_add1 (a := i) (by omega)
    have hq := quo32 (a := x.b.at_) (by omega)
    have hr := rem32 (a := x.b.at_)
    have ha : wrapI .i64 (((x.b.at_ % 32 : Nat) : Int) + (n : Int)) = I ((x.b.at_ % 32 + n : Nat) : Int) := by rw [wrap64 (by omega) (by omega)]; rfl
    have hstep : ((pages.drop i).any (inP x.b.at_ n)) = (inP x.b.at_ n pages[i] || (pages.drop (i + 1)).any (inP x.b.at_ n)) := by
      rw [List.drop_eq_getElem_cons hi', List.any_cons]
    have hb1 : ((pages[i] : Nat) : Int) = ((x.b.at_ / 32 : Nat) : Int) ↔ pages[i] = x.b.at_ / 32 := by omega
    refine round fun LL hLL => ?_
    cases b with
    | true =>
      simp -implicitDefEqProofs only [↓GP, GB, GL, Nat.reduceAdd, Nat.reduceSub, Nat.reduceEqDiff, Nat.reduceMul, Nat.reduceLeDiff, Int.reduceBNe, Int.reduceBEq, Nat.reduceLT, reduceCtorEq, l4_1, rowV_len, hlt, w]
      rw [hLL, in_loop hC mo mp hx hat hn hl m (i + 1) true (by omega)]; simp
    | false =>
      by_cases h1 : pages[i] = x.b.at_ / 32
      · by_cases h2 : x.b.at_ % 32 + n < 32
        · have h2' : (((x.b.at_ % 32 + n : Nat)) : Int) < 32 := by omega
          have hb : (((pages[i] : Nat) : Int) == ((x.b.at_ / 32 : Nat) : Int)) = true := by rw [h1]; simp
          simp -implicitDefEqProofs only [↓GP, GB, GL, Nat.reduceAdd, Nat.reduceSub, Nat.reduceEqDiff, Nat.reduceMul, Nat.reduceLeDiff, Int.reduceBNe, Int.reduceBEq, Nat.reduceLT, reduceCtorEq, l4_1, rowV_len, hlt, w, e1, e2, e3, e4, pages_get hi', hat2, hq, hr, ha, hb, h2']
          rw [hLL, in_loop hC mo mp hx hat hn hl m (i + 1) true (by omega), hstep]; simp [inP, h1, h2]
        · have h2' : ¬ (((x.b.at_ % 32 + n : Nat)) : Int) < 32 := by omega
          have hb : (((pages[i] : Nat) : Int) == ((x.b.at_ / 32 : Nat) : Int)) = true := by rw [h1]; simp
          simp -implicitDefEqProofs only [↓GP, GB, GL, Nat.reduceAdd, Nat.reduceSub, Nat.reduceEqDiff, Nat.reduceMul, Nat.reduceLeDiff, Int.reduceBNe, Int.reduceBEq, Nat.reduceLT, reduceCtorEq, l4_1, rowV_len, hlt, w, e1, e2, e3, e4, pages_get hi', hat2, hq, hr, ha, hb, h2']
          rw [hLL, in_loop hC mo mp hx hat hn hl m (i + 1) false (by omega), hstep]; simp [inP, h1, h2]
      · have hb : (((pages[i] : Nat) : Int) == ((x.b.at_ / 32 : Nat) : Int)) = false := by simp; omega
        simp -implicitDefEqProofs only [↓GP, GB, GL, Nat.reduceAdd, Nat.reduceSub, Nat.reduceEqDiff, Nat.reduceMul, Nat.reduceLeDiff, Int.reduceBNe, Int.reduceBEq, Nat.reduceLT, reduceCtorEq, l4_1, rowV_len, hlt, w, e1, e2, e3, e4, pages_get hi', hat2, hq, hr, ha, hb]
        rw [hLL, in_loop hC mo mp hx hat hn hl m (i + 1) false (by omega), hstep]; simp [inP, h1]

theorem word_loop {tk rk k n life : Nat} {v7 v10 v13 v19 : V} {objs : List PObj} {x : PObj} {K : Kt} {W : List Nat}
    (mo : (rk, rowO 2 objs.length (objs.flatMap (encP life))) ∈ C) (hx : objs[k]? = some x) (hat : x.b.at_ < 1000000) (hn : n ≤ 100) (hW : (W ++ (List.range (n + 1)).map (x.b.at_ + ·)).Nodup)
    (q : ∀ s' X', MapIs (fun n : Int => I n) (tf (W ++ (List.range (n + 1)).map (x.b.at_ + ·))) X' → Holds o s' ((tk, some X') :: C) →
      WP (K (.exit 8) (sp 158 [(7, v7), (9, .map (some (.new tk))), (10, v10), (11, rowV rk objs.length), (13, v13), (15, I k), (19, v19)]) s') Q) :
    ∀ (j m : Nat) (s : St) (X : O), m + j = n + 1 → MapIs (fun n : Int => I n) (tf (W ++ (List.range m).map (x.b.at_ + ·))) X → Holds o s ((tk, some X) :: C) →
    WP (loop PF (.loop l4_2) (sp 158 [(7, v7), (9, .map (some (.new tk))), (10, v10), (11, rowV rk objs.length), (13, v13), (15, I k), (17, I n), (19, v19), (21, I m)]) s K) Q
  | 0, m, s, X, hi, hm, H => by
    have e' : m = n + 1 := by omega
    subst e'
    have hlt : ¬ (((n + 1 : Nat) : Int) ≤ (n : Int)) := by omega
    refine wp_round fun LL hLL => ?_
    simp -implicitDefEqProofs only [↓GP, GB, GL, Nat.reduceAdd, Nat.reduceSub, Nat.reduceEqDiff, Nat.reduceMul, Nat.reduceLeDiff, Int.reduceBNe, Int.reduceBEq, Nat.reduceLT, reduceCtorEq, l4_2, hlt]
    exact q s X hm H
  | j + 1, m, s, X, hi, hm, H => by
    have hle : ((m : Int) ≤ (n : Int)) := by omega
    have hk : k < objs.length := (List.getElem?_eq_some_iff.1 hx).1
    obtain ⟨k2, g2, e3, e4⟩ := ((SlAt.row mo).mono (D := (tk, some X) :: C) (fun x hx => List.mem_cons_of_mem _ hx)).get H hk 2
    have hat2 : (objs.flatMap (encP life))[k * 2]? = some (I x.b.at_) := by
      have := tab_get (enc := encP life) (sz := 2) (fun _ => rfl) objs [] (f := 0) hx (by omega)
      simpa [encP] using this
    have w := wrap_add1 (a := m) (by omega)
    have wa : wrapI .i64 ((x.b.at_ : Int) + (m : Int)) = I ((x.b.at_ + m : Nat) : Int) := by rw [wrap64 (by omega) (by omega)]; rfl
    have hnew : x.b.at_ + m ∉ W ++ (List.range m).map (x.b.at_ + ·) := by
      rw [List.nodup_append] at hW
      intro hmem
      rcases List.mem_append.1 hmem with h | h
      · exact hW.2.2 _ h _ (List.mem_map.2 ⟨m, List.mem_range.2 (by omega), rfl⟩) rfl
      · obtain ⟨a, ha, e⟩ := List.mem_map.1 h
        have := List.mem_range.1 ha
        omega
    have hlk := lookup_map (s := s) (k := tk) keyOk_int hm H.g0 (.bool false) false ((x.b.at_ + m : Nat) : Int)
    rw [tf_new hnew] at hlk
    refine wp_round fun LL hLL => ?_
    simp -implicitDefEqProofs only [↓GP, GB, GL, Nat.reduceAdd, Nat.reduceSub, Nat.reduceEqDiff, Nat.reduceMul, Nat.reduceLeDiff, Int.reduceBNe, Int.reduceBEq, Nat.reduceLT, reduceCtorEq, l4_2, hle, e3, e4, hat2, wa, hlk]
    refine wp_mapSet (enc := fun n : Int => I n) keyOk_int hm H.g0 fun X' hm' => ?_
    simp -implicitDefEqProofs only [↓GP, GB, GL, Nat.reduceAdd, Nat.reduceSub, Nat.reduceEqDiff, Nat.reduceMul, Nat.reduceLeDiff, Int.reduceBNe, Int.reduceBEq, Nat.reduceLT, reduceCtorEq, w]
    rw [hLL]
    have ew : W ++ (List.range m).map (x.b.at_ + ·) ++ [x.b.at_ + m] = W ++ (List.range (m + 1)).map (x.b.at_ + ·) := by
      rw [List.range_succ, List.map_append, List.append_assoc]; rfl
    rw [tf_add, ew] at hm'
    exact word_loop mo hx hat hn hW q j (m + 1) _ X' (by omega) hm' (H.set0 X')

theorem find_self {x : PObj} : ∀ l : List PObj, (l.map (·.b.at_)).Nodup → x ∈ l → l.find? (fun y => decide ((y.b.at_ : Int) = (x.b.at_ : Int))) = some x
  | [], _, h => by cases h
  | y :: l, hn, h => by
    rw [List.map_cons, List.nodup_cons] at hn
    rw [List.find?_cons]
    rcases List.mem_cons.1 h with rfl | h
    · simp
    · have : ¬ ((y.b.at_ : Int) = (x.b.at_ : Int)) := fun e => hn.1 (List.mem_map.2 ⟨x, h, by omega⟩)
      simp only [this, decide_false]
      exact find_self l hn.2 h
theorem pfind_self {g : PReg} {x : PObj} (hx : x ∈ g.objs) (hn : (g.objs.map (·.b.at_)).Nodup) : ∀ rs : List PReg, (rs.map (·.life)).Nodup → g ∈ rs → pfind x.b.at_ g.life rs = some x
  | [], _, h => by cases h
  | r :: rs, hl, h => by
    rw [List.map_cons, List.nodup_cons] at hl
    unfold pfind
    rw [List.findSome?_cons]
    rcases List.mem_cons.1 h with rfl | h
    · simp [pf, find_self g.objs hn hx]
    · have : ¬ ((r.life : Int) = (g.life : Int)) := fun e => hl.1 (List.mem_map.2 ⟨g, h, by omega⟩)
      simp only [pf, this, if_false]
      exact pfind_self hx hn rs hl.2 h
theorem in_page {r : Reg} (h : RInv r) {x : Obj} (hx : x ∈ r.objs) (hat : x.at_ < 1000000) : r.pages.any (inP x.at_ x.ws.length) = true := by
  by_cases hs : r.size = 0
  · obtain ⟨p, hp, h1, h2, -⟩ := ((h.inf hs).facts h.os).2.1 (x.at_, x.ws.length + 1) (List.mem_map.2 ⟨x, hx, rfl⟩)
    simp only at h1 h2
    refine List.any_eq_true.2 ⟨p, hp, decide_eq_true ⟨?_, ?_⟩⟩ <;> omega
  · have := (h.fin (by omega)).2.2.2 x hx; omega
abbrev wp_ (g : PReg) : List Nat := g.objs.flatMap fun x => wordsO x.b

theorem obj_loop {tk rk pk : Nat} {hp : PHeap} {g : PReg} {v10 : V} {K : Kt} {W : List Nat} (hin : In C p hp) (h : POk u hp) (hg : g ∈ hp.regs)
    (mo : (rk, rowO 2 g.objs.length (g.objs.flatMap (encP g.life))) ∈ C) (mp : (pk, pagesO g.pages) ∈ C) (hW : (W ++ wp_ g).Nodup)
    (q : ∀ s' X', MapIs (fun n : Int => I n) (tf (W ++ wp_ g)) X' → Holds o s' ((tk, some X') :: C) →
      WP (K (.exit 4) (sp 158 [(7, ptrN hp.id), (9, .map (some (.new tk))), (10, v10)]) s') Q) :
    ∀ (m k : Nat) (s : St) (X : O), k + m = g.objs.length → MapIs (fun n : Int => I n) (tf (W ++ (g.objs.take k).flatMap fun x => wordsO x.b)) X → Holds o s ((tk, some X) :: C) →
    WP (loop PF (.loop l4_3) (sp 158 [(7, ptrN hp.id), (9, .map (some (.new tk))), (10, v10), (11, rowV rk g.objs.length), (13, rowV pk g.pages.length), (15, I k)]) s K) Q
  | 0, k, s, X, hi, hm, H => by
    have hlt : ¬ ((k : Int) < (g.objs.length : Int)) := by omega
    rw [List.take_of_length_le (by omega)] at hm
    refine wp_round fun LL hLL => ?_
    simp -implicitDefEqProofs only [↓GP, GB, GL, Nat.reduceAdd, Nat.reduceSub, Nat.reduceEqDiff, Nat.reduceMul, Nat.reduceLeDiff, Int.reduceBNe, Int.reduceBEq, Nat.reduceLT, reduceCtorEq, l4_3, rowV_len, hlt]
    exact q s X hm H
  | m + 1, k, s, X, hi, hm, H => by
    have hlt : ((k : Int) < (g.objs.length : Int)) := by omega
    have hk : k < g.objs.length := by omega
    have hx : g.objs[k]? = some g.objs[k] := by simp [hk]
    generalize hxe : g.objs[k] = x at hx
    have mx : x ∈ g.objs := List.mem_of_getElem? hx
    have hR : RInv g.m := h.inv.reg _ (List.mem_map.2 ⟨g, hg, rfl⟩)
    have hnd : (g.objs.map (·.b.at_)).Nodup := by
      have := hR.nodup
      simp only [PReg.m, List.map_map] at this
      exact this
    have hld : (hp.regs.map (·.life)).Nodup := by
      have := h.inv.nodup
      rw [List.map_map] at this
      exact this
    have hf := pfind_self mx hnd hp.regs hld hg
    have hlife := h.inv.life _ (List.mem_map.2 ⟨g, hg, rfl⟩)
    have hws := hR.ws x.b (List.mem_map.2 ⟨x, mx, rfl⟩)
    have hpl := (h.g hg).2
    have hno := hR.nobjs
    simp only [PReg.m, List.length_map] at hno
    simp only [PReg.m] at hlife
    obtain ⟨k2, g2, e3, e4⟩ := ((SlAt.row mo).mono (D := (tk, some X) :: C) (fun x hx => List.mem_cons_of_mem _ hx)).get H hk 2
    have hld2 := ldN_tab (enc := encP g.life) (sz := 2) (fun _ => rfl) g.objs g2 hx
    have hat2 : (g.objs.flatMap (encP g.life))[k * 2]? = some (I x.b.at_) := by
      have := tab_get (enc := encP g.life) (sz := 2) (fun _ => rfl) g.objs [] (f := 0) hx (by omega)
      simpa [encP] using this
    have htk : (g.objs.take (k + 1)).flatMap (fun x => wordsO x.b) = (g.objs.take k).flatMap (fun x => wordsO x.b) ++ wordsO x.b := by
      rw [List.take_add_one, hx]; simp
    have w := wrap_add1 (a := k) (by omega)
    refine wp_round fun LL hLL => ?_
    simp -implicitDefEqProofs only [↓GP, GB, GL, Nat.reduceAdd, Nat.reduceSub, Nat.reduceEqDiff, Nat.reduceMul, Nat.reduceLeDiff, Int.reduceBNe, Int.reduceBEq, Nat.reduceLT, reduceCtorEq, l4_3, rowV_len, hlt, e3, e4, hld2, encP]
    refine wp_in (s30 H (hin.cons _) h.ne h.len h.pok (by omega) hf fun s1 h1 => ?_)
    obtain ⟨k3, g3, e5, e6⟩ := ((SlAt.row mo).mono (D := (tk, some X) :: C) (fun x hx => List.mem_cons_of_mem _ hx)).get h1 hk 2
    by_cases hat : x.b.at_ < 1000000
    · have hge : ¬ ((x.b.at_ : Int) ≥ 1000000) := by omega
      simp -implicitDefEqProofs only [↓GP, GB, GL, Nat.reduceAdd, Nat.reduceSub, Nat.reduceEqDiff, Nat.reduceMul, Nat.reduceLeDiff, Int.reduceBNe, Int.reduceBEq, Nat.reduceLT, reduceCtorEq, e5, e6, hat2, hge, ge_iff_le, Int.reduceBNe]
      have wl : wordsO x.b = (List.range (x.b.ws.length + 1)).map (x.b.at_ + ·) := by unfold wordsO; rw [if_pos hat]
      have hnw : ((W ++ (g.objs.take k).flatMap fun x => wordsO x.b) ++ (List.range (x.b.ws.length + 1)).map (x.b.at_ + ·)).Nodup := by
        rw [← wl, List.append_assoc, ← htk]
        have e : wp_ g = (g.objs.take (k + 1)).flatMap (fun x => wordsO x.b) ++ (g.objs.drop (k + 1)).flatMap (fun x => wordsO x.b) := by rw [← List.flatMap_append, List.take_append_drop]
        refine hW.sublist (List.Sublist.append (List.Sublist.refl _) ?_)
        rw [e]; exact List.sublist_append_left _ _
      have hinp : g.pages.any (inP x.b.at_ x.b.ws.length) = true := in_page hR (x := x.b) (List.mem_map.2 ⟨x, mx, rfl⟩) hat
      refine wp_eq (in_loop (C := (tk, some X) :: C) h1 (List.mem_cons_of_mem _ mo) (List.mem_cons_of_mem _ mp) hx hat (by omega) (by omega) g.pages.length 0 false (by omega)) ?_
      simp -implicitDefEqProofs only [↓GP, GB, GL, Nat.reduceAdd, Nat.reduceSub, Nat.reduceEqDiff, Nat.reduceMul, Nat.reduceLeDiff, Int.reduceBNe, Int.reduceBEq, Nat.reduceLT, reduceCtorEq, List.drop_zero, hinp, Bool.false_or]
      refine word_loop (C := C) (W := W ++ (g.objs.take k).flatMap fun x => wordsO x.b) mo hx hat (by omega) hnw (fun s2 X2 hm2 h2 => ?_) (x.b.ws.length + 1) 0 s1 X (by omega) (by simpa using hm) h1
      simp -implicitDefEqProofs only [↓GP, GB, GL, Nat.reduceAdd, Nat.reduceSub, Nat.reduceEqDiff, Nat.reduceMul, Nat.reduceLeDiff, Int.reduceBNe, Int.reduceBEq, Nat.reduceLT, reduceCtorEq, w]
      rw [hLL]
      refine obj_loop hin h hg mo mp hW q m (k + 1) s2 X2 (by omega) ?_ h2
      rw [htk, wl, ← List.append_assoc]
      exact hm2
    · have hge : ((x.b.at_ : Int) ≥ 1000000) := by omega
      simp -implicitDefEqProofs only [↓GP, GB, GL, Nat.reduceAdd, Nat.reduceSub, Nat.reduceEqDiff, Nat.reduceMul, Nat.reduceLeDiff, Int.reduceBNe, Int.reduceBEq, Nat.reduceLT, reduceCtorEq, e5, e6, hat2, hge, ge_iff_le, Int.reduceBNe, w]
      rw [hLL]
      refine obj_loop hin h hg mo mp hW q m (k + 1) s1 X (by omega) ?_ h1
      rw [htk]
      have : wordsO x.b = [] := by unfold wordsO; rw [if_neg hat]
      rw [this, List.append_nil]; exact hm

theorem reg_loop {tk : Nat} {hp : PHeap}  {K : Kt} (hin : In C p hp) (h : POk u hp)
    (q : ∀ s' X', Holds o s' ((tk, some X') :: C) → WP (K (.exit 2) (sp 158 []) s') Q) :
    ∀ (m i : Nat) (s : St) (X : O), i + m = hp.regs.length → MapIs (fun n : Int => I n) (tf ((hp.regs.take i).flatMap wp_)) X → Holds o s ((tk, some X) :: C) →
    WP (loop PF (.loop l4_4) (sp 158 [(7, ptrN hp.id), (9, .map (some (.new tk))), (10, I i)]) s K) Q
  | 0, i, s, X, hi, hm, H => by
    have hlt : ¬ ((i : Int) < (hp.regs.length : Int)) := by omega
    have e := s27 H (hin.cons _)
    refine wp_round fun LL hLL => ?_
    simp -implicitDefEqProofs only [↓GP, GB, GL, Nat.reduceAdd, Nat.reduceSub, Nat.reduceEqDiff, Nat.reduceMul, Nat.reduceLeDiff, Int.reduceBNe, Int.reduceBEq, Nat.reduceLT, reduceCtorEq, l4_4, e, hlt]
    exact q s X H
  | m + 1, i, s, X, hi, hm, H => by
    have hlt : ((i : Int) < (hp.regs.length : Int)) := by omega
    have hi' : i < hp.regs.length := by omega
    have hpl := h.len
    have e := s27 H (hin.cons _)
    have hg : hp.regs[i]? = some hp.regs[i] := by simp [hi']
    generalize hge : hp.regs[i] = g at hg
    have mg : g ∈ hp.regs := List.mem_of_getElem? hg
    have hR : RInv g.m := h.inv.reg _ (List.mem_map.2 ⟨g, mg, rfl⟩)
    obtain ⟨g1, g2⟩ := h.g mg
    have hno := hR.nobjs
    simp only [PReg.m, List.length_map] at hno
    have htk : (hp.regs.take (i + 1)).flatMap wp_ = (hp.regs.take i).flatMap wp_ ++ wp_ g := by
      rw [List.take_add_one, hg]; simp
    have hW : ((hp.regs.take i).flatMap wp_ ++ wp_ g).Nodup := by
      have hall := words_regs (hp.regs.map PReg.m) h.inv.reg h.pool.nodup
      rw [List.flatMap_map] at hall
      have e : (hp.regs.flatMap fun r => wordsR r.m) = hp.regs.flatMap wp_ := by
        congr 1; funext r; simp only [wordsR, PReg.m, List.flatMap_map]
      rw [e] at hall
      have e2 : hp.regs.flatMap wp_ = (hp.regs.take (i + 1)).flatMap wp_ ++ (hp.regs.drop (i + 1)).flatMap wp_ := by rw [← List.flatMap_append, List.take_append_drop]
      rw [e2] at hall
      rw [← htk]
      exact (List.nodup_append.1 hall).1
    have w := wrap_add1 (a := i) (by omega)
    refine wp_round fun LL hLL => ?_
    simp -implicitDefEqProofs only [↓GP, GB, GL, Nat.reduceAdd, Nat.reduceSub, Nat.reduceEqDiff, Nat.reduceMul, Nat.reduceLeDiff, Int.reduceBNe, Int.reduceBEq, Nat.reduceLT, reduceCtorEq, l4_4, e, hlt]
    refine wp_in (s28 H (hin.cons _) hpl hg (by omega) fun s1 rk h1 => ?_)
    simp -implicitDefEqProofs only [↓GP, GB, GL, Nat.reduceAdd, Nat.reduceSub, Nat.reduceEqDiff, Nat.reduceMul, Nat.reduceLeDiff, Int.reduceBNe, Int.reduceBEq, Nat.reduceLT, reduceCtorEq]
    refine wp_in (s29 h1 ((hin.cons _).cons _) hpl hg (by omega) fun s2 pk h2 => ?_)
    simp -implicitDefEqProofs only [↓GP, GB, GL, Nat.reduceAdd, Nat.reduceSub, Nat.reduceEqDiff, Nat.reduceMul, Nat.reduceLeDiff, Int.reduceBNe, Int.reduceBEq, Nat.reduceLT, reduceCtorEq, Int.reduceBNe]
    refine obj_loop (C := (pk, pagesO g.pages) :: (rk, rowO 2 g.objs.length (g.objs.flatMap (encP g.life))) :: C) ((hin.cons _).cons _) h mg (List.mem_cons_of_mem _ (List.mem_cons_self ..)) (List.mem_cons_self ..) hW (fun s3 X3 hm3 h3 => ?_) g.objs.length 0 s2 X (by omega) (by simpa using hm) (h2.r2)
    simp -implicitDefEqProofs only [↓GP, GB, GL, Nat.reduceAdd, Nat.reduceSub, Nat.reduceEqDiff, Nat.reduceMul, Nat.reduceLeDiff, Int.reduceBNe, Int.reduceBEq, Nat.reduceLT, reduceCtorEq, w]
    rw [hLL]
    refine reg_loop hin h q m (i + 1) s3 X3 (by omega) (by rw [htk]; exact hm3) ?_
    exact h3.r1.tl.r1.tl

theorem acts_apart {hk : Nat} {v v7 : V} {l : List (ActG × List Bool)} {K : Kt} (hA : ActsAt o v l) (hl : l.length ≤ 150) :
    ∀ (m i : Nat) (s : St) (u : List Bool) (G : PairG), i + m = l.length → PairOk u others G → G.ws.length ≤ 1000 * i → Holds o s (World p r q t u G ((hk, rowO 1 1 [ptrN G.id]) :: F)) →
    (∀ s' u' G', PairOk u' others G' → G'.id = G.id → G'.hp.id = G.hp.id → u'.length = u.length → G'.hp.lives ≤ G.hp.lives + m → Holds o s' (World p r q t u' G' ((hk, rowO 1 1 [ptrN G.id]) :: F)) → WP (K (.exit 0) (sp 158 [(7, v7)]) s') Q) →
    WP (loop PF (.loop l4_0) (sp 158 [(0, v), (3, rowV hk 1), (7, v7), (8, I i)]) s K) Q
  | 0, i, s, u, G, hi, h, hw, H, k => by
    have hlt : ¬ ((i : Int) < (l.length : Int)) := by omega
    refine wp_round fun LL hLL => ?_
    simp -implicitDefEqProofs only [↓GP, GB, GL, Nat.reduceAdd, Nat.reduceSub, Nat.reduceEqDiff, Nat.reduceMul, Nat.reduceLeDiff, Int.reduceBNe, Int.reduceBEq, Nat.reduceLT, reduceCtorEq, l4_0, hA.len, hlt]
    exact k s u G h rfl rfl rfl (by omega) H
  | m + 1, i, s, u, G, hi, h, hw, H, k => by
    have hlt : ((i : Int) < (l.length : Int)) := by omega
    have hi' : i < l.length := by omega
    obtain ⟨ad, a1, a2⟩ := hA.get i hi'
    have a3 := (a2 s H.old).1
    have mi := List.getElem_mem hi'
    have fh := H.mem (World.fr (List.mem_cons_self ..) : (hk, some (.cells [ptrN G.id] (some 1))) ∈ World p r q t u G ((hk, rowO 1 1 [ptrN G.id]) :: F))
    have hix := ix_row (sz := 1) (k := hk) (n := 1) (i := 0) (kk := .i64) (by omega)
    have hw1 := wrap_add1 (a := i) (by omega)
    simp only [Int.natCast_zero, Nat.zero_mul] at hix
    refine wp_round fun LL hLL => ?_
    simp -implicitDefEqProofs only [↓GP, GB, GL, Nat.reduceAdd, Nat.reduceSub, Nat.reduceEqDiff, Nat.reduceMul, Nat.reduceLeDiff, Int.reduceBNe, Int.reduceBEq, Nat.reduceLT, reduceCtorEq, l4_0, hA.len, hlt, hix, fh, a1, a3]
    refine wp_in (s26 (bs := l[i].2) l[i].1 (hA.d _ mi).1 (hA.some_ _ mi) h (by omega) H fun s1 u1 G1 n1 h1 => ?_)
    simp -implicitDefEqProofs only [↓GP, GB, GL, Nat.reduceAdd, Nat.reduceSub, Nat.reduceEqDiff, Nat.reduceMul, Nat.reduceLeDiff, Int.reduceBNe, Int.reduceBEq, Nat.reduceLT, reduceCtorEq, hw1]
    rw [hLL]
    refine acts_apart hA hl m (i + 1) s1 u1 G1 (by omega) n1.ok (by have := n1.ws; omega) (by rw [n1.id]; exact h1) fun s2 u2 G2 ok2 e1 e2 e3 e4 h2 => k s2 u2 G2 ok2 (e1.trans n1.id) (e2.trans n1.pid) (e3.trans n1.ul) (by have := n1.lv; omega) (by rw [← n1.id]; exact h2)

/-- PageApart: it answers true. -/
theorem pageApart_im {v : V} {l : List (ActG × List Bool)} (hA : ActsAt o v l) (hll : l.length < 2 ^ 61) (s : St) (hs : s.old = o) : ∃ st, call PF 4 [v] s = some (.bool true, st) := by
  suffices WP (call PF 4 [v] s) fun v' _ => v' = .bool true by
    obtain ⟨v', st, e, rfl⟩ := this
    exact ⟨st, e⟩
  have e24 := s24 hs hA hll
  cases hlg : longB l with
  | true =>
    rw [hlg] at e24
    obtain ⟨t, ht, -⟩ := sane15 s
    rw [call_run F4]; simp -implicitDefEqProofs only [↓GP, GB, GL, Nat.reduceAdd, Nat.reduceSub, Nat.reduceEqDiff, Nat.reduceMul, Nat.reduceLeDiff, Int.reduceBNe, Int.reduceBEq, Nat.reduceLT, reduceCtorEq, c4, e24, ht]
  | false =>
    rw [hlg] at e24
    have hl : l.length ≤ 150 := by
      unfold longB at hlg
      rw [Bool.or_eq_false_iff] at hlg
      have := hlg.2
      simp at this; exact this
    rw [call_run F4]; simp -implicitDefEqProofs only [↓GP, GB, GL, Nat.reduceAdd, Nat.reduceSub, Nat.reduceEqDiff, Nat.reduceMul, Nat.reduceLeDiff, Int.reduceBNe, Int.reduceBEq, Nat.reduceLT, reduceCtorEq, c4, e24]
    have H0 : Holds o s [] := ⟨hs, List.nodup_nil, (fun k x m => by cases m), (fun k m => by cases m)⟩
    refine wp_in (s25 (n := 12) (by omega) (by omega) H0 fun s1 p r q t G hk ok hws hlv h1 => ?_)
    have h2 : Holds o s1 (World p r q t (List.replicate 12 false) G ((hk, rowO 1 1 [ptrN G.id]) :: [])) := (Holds.of (h1) (fun k => by simp +arith only [HA, HB]) (fun k x => by simp only [HA, HC]; grind only))
    have fh := h2.mem (World.fr (List.mem_cons_self ..) : (hk, some (.cells [ptrN G.id] (some 1))) ∈ World p r q t (List.replicate 12 false) G ((hk, rowO 1 1 [ptrN G.id]) :: []))
    have fG := h2.mem World.id
    simp only [PairG.hd] at fG
    have hix := ix_row (sz := 1) (k := hk) (n := 1) (i := 0) (kk := .i64) (by omega)
    simp only [Int.natCast_zero, Nat.zero_mul] at hix
    simp -implicitDefEqProofs only [↓GP, GB, GL, Nat.reduceAdd, Nat.reduceSub, Nat.reduceEqDiff, Nat.reduceMul, Nat.reduceLeDiff, Int.reduceBNe, Int.reduceBEq, Nat.reduceLT, reduceCtorEq, hix, fh, fG]
    refine acts_apart (F := []) hA hl l.length 0 s1 (List.replicate 12 false) G (by omega) ok (by rw [hws]; simp) h2 fun s2 u2 G2 ok2 e1 e2 e3 e4 h3 => ?_
    simp -implicitDefEqProofs only [↓GP, GB, GL, Nat.reduceAdd, Nat.reduceSub, Nat.reduceEqDiff, Nat.reduceMul, Nat.reduceLeDiff, Int.reduceBNe, Int.reduceBEq, Nat.reduceLT, reduceCtorEq]
    have hp2 := ok2.toP
    have h4 := h3.alloc (.map [] 0)
    rw [← e2]
    refine reg_loop (C := World p r q t u2 G2 ((hk, rowO 1 1 [ptrN G.id]) :: [])) (p := p) World.in_ hp2 (fun s3 X3 h5 => ?_) G2.hp.regs.length 0 _ (.map [] 0) (by omega) ?_ h4
    · obtain ⟨t', ht', -⟩ := sane15 s3
      simp -implicitDefEqProofs only [↓GP, GB, GL, Nat.reduceAdd, Nat.reduceSub, Nat.reduceEqDiff, Nat.reduceMul, Nat.reduceLeDiff, Int.reduceBNe, Int.reduceBEq, Nat.reduceLT, reduceCtorEq, ht']
    · simp only [List.take_zero, List.flatMap_nil, tf_nil]
      exact mapIs_nil
end
end Go.Proofs.Ytoldkemimhebaaa
