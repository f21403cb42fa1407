/- Proved here: the statement 'CollectAlikes' of layer 16: for all two lists of acts and lists of roots it returns true, never panics, and its input reads as before; without conditions. -/
import Derived.Deep.Grids
import Derived.Deep.Slices
import Derived.Lib.SmallJoins
import Derived.Test.YtoldkemimhebaaaRd4

set_option linter.unusedSimpArgs false
set_option linter.unusedVariables false
namespace Go.Proofs.Ytoldkemimhebaaa
open Go Go.IM
section
variable {o : Nat → Option O} {s : St} {C F : Ch} {Q : V → St → Prop} {p q : Nat}
set_option maxRecDepth 10000
set_option maxHeartbeats 4000000
def lookW : List (Int × Int) → List (Int × Int) → Int × Int → Option (Int × Int)
  | a :: l, b :: m, w => if a = w then some b else lookW l m w
  | _, _, _ => none
def finR (hc : RHeap) (w : Int × Int) : Bool := match rfind w.1 w.2 hc.regs 0 with
  | some (a, _) => match hc.regs[a]? with
    | some g => decide (0 < g.size)
    | none => false
  | none => false
end
end Go.Proofs.Ytoldkemimhebaaa

set_option linter.unusedSimpArgs false
set_option linter.unusedVariables false
namespace Go.Proofs.Ytoldkemimhebaaa
open Go Go.IM
theorem lookW_mem : ∀ {fr tt : List (Int × Int)} {w n : Int × Int}, lookW fr tt w = some n → w ∈ fr ∧ n ∈ tt
  | [], _, _, _, h => by simp [lookW] at h
  | _ :: _, [], _, _, h => by simp [lookW] at h
  | a :: fr, b :: tt, w, n, h => by
    rw [lookW] at h
    split at h
    · rename_i e; cases h; subst e; exact ⟨List.mem_cons_self .., List.mem_cons_self ..⟩
    · obtain ⟨h1, h2⟩ := lookW_mem h
      exact ⟨List.mem_cons_of_mem _ h1, List.mem_cons_of_mem _ h2⟩
theorem lookW_none {w : Int × Int} : ∀ {fr tt : List (Int × Int)}, w ∉ fr → lookW fr tt w = none
  | [], _, _ => by simp [lookW]
  | _ :: _, [], _ => by simp [lookW]
  | a :: fr, b :: tt, h => by
    have e : ¬ a = w := fun e => h (by rw [e]; exact List.mem_cons_self ..)
    rw [lookW, if_neg e]
    exact lookW_none fun m => h (List.mem_cons_of_mem _ m)
theorem look_upd (w : Int × Int) : ∀ {ks ns : List (Int × Int)} (f : ToF), ks.Nodup → ns.length = ks.length → ((ks.zip ns).foldl updF f) w = (lookW ks ns w).or (f w)
  | [], _, f, _, _ => by simp [lookW]
  | _ :: _, [], _, _, h => by simp at h
  | k :: ks, n :: ns, f, hn, hl => by
    rw [List.nodup_cons] at hn
    rw [List.zip_cons_cons, List.foldl_cons, look_upd w _ hn.2 (by simpa using hl), lookW]
    by_cases e : k = w
    · subst e
      rw [lookW_none hn.1, if_pos rfl, Option.none_or]
      unfold updF; rw [if_pos rfl]; rfl
    · rw [if_neg e]
      unfold updF; rw [if_neg (fun h => e h.symm)]
theorem look_map : ∀ {ks ns : List (Int × Int)}, ks.Nodup → ns.length = ks.length → ks.map (fun w => (lookW ks ns w).getD (0, 0)) = ns
  | [], [], _, _ => rfl
  | [], _ :: _, _, h => by simp at h
  | _ :: _, [], _, h => by simp at h
  | k :: ks, n :: ns, hn, hl => by
    rw [List.nodup_cons] at hn
    rw [List.map_cons, lookW, if_pos rfl]
    congr 1
    rw [← look_map hn.2 (by simpa using hl : ns.length = ks.length)]
    have := look_map hn.2 (by simpa using hl : ns.length = ks.length)
    refine List.map_congr_left fun w hw => ?_
    have e : ¬ k = w := fun e => hn.1 (by rw [e]; exact hw)
    rw [this, lookW, if_neg e]
def wordsAll (rs : List Reg) : List (Int × Int) := rs.flatMap wordsR
theorem wordsR_life {g : Reg} {w : Int × Int} (h : w ∈ wordsR g) : w.2 = g.life := by
  obtain ⟨x, _, rfl⟩ := List.mem_map.1 h; rfl
theorem wordsR_nodup {g : Reg} (h : RInv g) : (wordsR g).Nodup := by
  have := h.nodup
  unfold wordsR
  rw [show (fun x : Obj => ((x.at_ : Int), (g.life : Int))) = (fun n : Nat => ((n : Int), (g.life : Int))) ∘ (fun x : Obj => x.at_) from rfl, ← List.map_map]
  exact List.Pairwise.map _ (fun a b (h : a ≠ b) e => h (by have := congrArg Prod.fst e; simp only at this; omega)) this
def keptAll (L : List (Int × Int)) (rs : List Reg) : List (Int × Int) := rs.flatMap fun g => if 0 < g.pages.length then (wordsR g).filter (decide <| · ∈ L) else []
theorem kept_words (L : List (Int × Int)) (g : Reg) : (keptM L g).map (fun x => ((x.at_ : Int), (g.life : Int))) = (wordsR g).filter (decide <| · ∈ L) := by
  unfold keptM wordsR
  rw [List.filter_map]; rfl
structure ColInv2 (L : List (Int × Int)) (A B : List Reg) (S : ColS) : Prop where
  fx : ∀ w, w ∈ S.fx ↔ ∃ g ∈ A, ¬ 0 < g.pages.length ∧ w ∈ wordsR g
  mv : ∀ w n, S.mv w = some n → w ∈ keptAll L A ∧ n.2 = w.2
  perm : (wordsAll S.regs).Perm (S.objs ++ (keptAll L A).map (toD S.mv))
theorem ColInv2.ext {L : List (Int × Int)} {A B : List Reg} {S : ColS} {g g' : Reg} {u' : List Bool} {ks ns : List (Int × Int)} (h : ColInv2 L A (g :: B) S) (hp : 0 < g.pages.length) (hlife : ∀ w ∈ keptAll L A, w ∉ wordsR g) (hka : keptAll L (A ++ [g]) = keptAll L A ++ ks) (hkn : ks.Nodup) (hkl : ns.length = ks.length)
    (hkg : ∀ w ∈ ks, w ∈ wordsR g) (hns : ∀ n ∈ ns, n.2 = g.life) (hw : wordsR g' = ns) : ColInv2 L (A ++ [g]) B ⟨S.regs ++ [g'], u', (ks.zip ns).foldl updF S.mv, S.fx, S.objs⟩ := by
  have hup := fun w => look_upd w S.mv hkn hkl
  refine ⟨fun w => ?_, fun w n e => ?_, ?_⟩
  · simp only [h.fx w, List.mem_append, List.mem_singleton]
    constructor
    · rintro ⟨g0, m0, q⟩; exact ⟨g0, .inl m0, q⟩
    · rintro ⟨g0, m0 | rfl, q1, q2⟩
      · exact ⟨g0, m0, q1, q2⟩
      · exact absurd hp q1
  · simp only at e
    rw [hup] at e
    cases hl : lookW ks ns w with
    | some m =>
      rw [hl, Option.some_or] at e
      cases e
      obtain ⟨h1, h2⟩ := lookW_mem hl
      rw [hka]
      exact ⟨List.mem_append_right _ h1, by rw [hns _ h2, wordsR_life (hkg _ h1)]⟩
    | none =>
      rw [hl, Option.none_or] at e
      obtain ⟨h1, h2⟩ := h.mv w n e
      rw [hka]
      exact ⟨List.mem_append_left _ h1, h2⟩
  · have hpm := h.perm
    unfold wordsAll at *
    simp only
    rw [List.flatMap_append, List.flatMap_cons, List.flatMap_nil, List.append_nil, hw, hka, List.map_append, ← List.append_assoc]
    have e1 : (keptAll L A).map (toD ((ks.zip ns).foldl updF S.mv)) = (keptAll L A).map (toD S.mv) := List.map_congr_left fun w hw => by
      unfold toD
      rw [hup, lookW_none (fun m => hlife w hw (hkg w m)), Option.none_or]
    have e2 : ks.map (toD ((ks.zip ns).foldl updF S.mv)) = ns := by
      refine Eq.trans (List.map_congr_left fun w hw => ?_) (look_map hkn hkl)
      unfold toD
      rw [hup]
      obtain ⟨n, h1, h2⟩ := updF_mem ks ns (fun _ => none) w hkl hw
      rw [look_upd w _ hkn hkl] at h2
      simp only [Option.or_none] at h2
      rw [h2]; rfl
    rw [e1, e2]
    exact hpm.append_right _
theorem ColInv2.step {L : List (Int × Int)} {lv : Nat} {A B : List Reg} {S : ColS} {g : Reg} (hc : ColInv L lv A (g :: B) S) (h : ColInv2 L A (g :: B) S) : ColInv2 L (A ++ [g]) B (colStep L S g) := by
  have hI := hc.ok.inv
  have hri := hI.reg g (by simp)
  have hn := hI.nodup
  rw [List.map_append, List.map_cons, hc.lives, List.nodup_append] at hn
  have hlife : ∀ w ∈ keptAll L A, w ∉ wordsR g := by
    intro w hw hg
    obtain ⟨g0, m0, hw⟩ := List.mem_flatMap.1 hw
    split at hw
    · have h1 := wordsR_life (List.mem_filter.1 hw).1
      have h2 := wordsR_life hg
      exact hn.2.2 _ (List.mem_map.2 ⟨g0, m0, rfl⟩) _ (List.mem_cons_self ..) (by omega)
    · cases hw
  have hka : keptAll L (A ++ [g]) = keptAll L A ++ (if 0 < g.pages.length then (wordsR g).filter (decide <| · ∈ L) else []) := by
    unfold keptAll; rw [List.flatMap_append, List.flatMap_cons, List.flatMap_nil, List.append_nil]
  unfold colStep
  by_cases hp : 0 < g.pages.length
  · rw [if_pos hp] at hka ⊢
    have hs : g.size = 0 := by
      rcases Nat.eq_zero_or_pos g.size with h | h
      · exact h
      · have := (hri.fin h).1; rw [this] at hp; simp at hp
    obtain ⟨ats, u', fill', pages', hlay, hnd, hpl, hal, hul, hR⟩ := hc.ok.turn hs (ys := keptM L g) (List.filter_sublist ..)
    rw [hlay]
    have hkn : ((wordsR g).filter (decide <| · ∈ L)).Nodup := (wordsR_nodup hri).sublist (List.filter_sublist ..)
    have hkl : (ats.map fun a : Nat => ((a : Int), (g.life : Int))).length = ((wordsR g).filter (decide <| · ∈ L)).length := by rw [← kept_words]; simp [hal]
    rw [kept_words]
    refine h.ext hp hlife hka hkn hkl (fun w hw => (List.mem_filter.1 hw).1) (fun n hn => by obtain ⟨a, _, rfl⟩ := List.mem_map.1 hn; rfl) ?_
    have := congrArg (List.map fun z : Nat × Nat => ((z.1 : Int), (g.life : Int))) (layObj_os (keptM L g) ats hal)
    rw [List.map_map] at this
    refine (show _ = _ from this).trans ?_
    have e3 : ∀ Z : List (Nat × Nat), Z.map (fun z : Nat × Nat => ((z.1 : Int), (g.life : Int))) = (Z.map Prod.fst).map (fun a : Nat => ((a : Int), (g.life : Int))) := fun Z => by rw [List.map_map]; rfl
    rw [e3, List.map_fst_zip (by simp [hal])]
  · rw [if_neg hp] at hka ⊢
    rw [List.append_nil] at hka
    refine ⟨fun w => ?_, fun w n e => by rw [hka]; exact h.mv w n e, ?_⟩
    · simp only [List.mem_append, h.fx w, List.mem_singleton]
      constructor
      · rintro (⟨g0, m0, q⟩ | q)
        · exact ⟨g0, .inl m0, q⟩
        · exact ⟨g, .inr rfl, hp, q⟩
      · rintro ⟨g0, m0 | rfl, q1, q2⟩
        · exact .inl ⟨g0, m0, q1, q2⟩
        · exact .inr q2
    · unfold wordsAll at *
      simp only
      rw [List.flatMap_append, List.flatMap_cons, List.flatMap_nil, List.append_nil, hka, List.append_assoc]
      refine (h.perm.append_right _).trans ?_
      rw [List.append_assoc]
      exact List.Perm.append_left _ List.perm_append_comm
theorem ColInv2.all {L : List (Int × Int)} {lv : Nat} : ∀ {B A : List Reg} {S : ColS}, ColInv L lv A B S → ColInv2 L A B S → ColInv2 L (A ++ B) [] (B.foldl (colStep L) S)
  | [], A, S, _, h => by simpa using h
  | g :: B, A, S, h1, h => by
    have := (h.step h1).all (h1.step)
    rw [List.append_assoc] at this
    exact this
theorem ColInv2.start {L : List (Int × Int)} {u : List Bool} {B : List Reg} : ColInv2 L [] B ⟨[], u, fun _ => none, [], []⟩ :=
  ⟨fun w => ⟨fun h => (by cases h), fun ⟨_, h, _⟩ => (by cases h)⟩, (fun w n h => by cases h), List.Perm.refl _⟩
end Go.Proofs.Ytoldkemimhebaaa

set_option linter.unusedSimpArgs false
set_option linter.unusedVariables false
namespace Go.Proofs.Ytoldkemimhebaaa
open Go Go.IM
def l47_0 : IC := (.seq (.seq (.seq (.region [oa 59 (.mov (.t 15)), oa 60 (.mov (.t 12)), oa 61 (.lenSlice (.t 60)), oa 62 (.bin .lss (.t 59) (.t 61))] (kp 160 [0,1,6,8,9,10,11,12,14,15,62]))
  (.cond (.t 62)
  (sk 160 [0,1,6,8,9,10,11,12,14,15])
  (sx 160 [0,1,6,8,9,10,11,14] 2)))
  (.seq (.block 3
  (.seq (.region [oa 65 (.mov (.t 6)), oa 66 (.mov (.t 12)), oa 67 (.mov (.t 15)), oa 68 (.indexAddr 2 (.t 66) (.t 67)), oa 69 (.load (some 2) (.t 68)), oa 70 (.call 96 [(.t 65), (.t 69)])] (kp 160 [0,1,6,8,9,10,11,12,14,15,70]))
  (.cond (.t 70)
  (.region [oa 71 (.mov (.t 14)), oa 72 (.mov (.t 12)), oa 73 (.mov (.t 15)), oa 74 (.indexAddr 2 (.t 72) (.t 73)), oa 75 (.load (some 2) (.t 74)), oa 76 (.buildSlice 1 [(.int .i64 (0)), (.int .i64 (0))] [(0, 2, (.t 75))]), oa 77 (.append 2 16 (.t 71) (.t 76)), oa 14 (.mov (.t 77))] (kp 160 [0,1,6,8,9,10,11,12,14,15]))
  (sk 160 [0,1,6,8,9,10,11,12,14,15]))))
  (.region [oa 63 (.mov (.t 15)), oa 64 (.bin .add (.t 63) (ai 1)), oa 15 (.mov (.t 64))] (kp 160 [0,1,6,8,9,10,11,12,14,15]))))
  (sk 160 [0,1,6,8,9,10,11,12,14,15]))
def j47_1xabaabbbb : IC := (.seq (.region [oa 79 (.mov (.t 0)), oa 80 (.mov (.t 11)), oa 81 (.mov (.t 14)), oa 82 (.call 97 [(.t 79), (.t 80), (.t 81)]), oa 78 (.mov (.t 82)), oa 83 (.extract (.t 78) 0), oa 84 (.extract (.t 78) 1), oa 16 (.mov (.t 83)), oa 17 (.mov (.t 84))] (kp 160 [0,1,6,8,9,10,11,14,16]))
  (.seq (.region [oa 85 (.mov (.t 9)), oa 86 (.mov (.t 14)), oa 87 (.append 2 16 (.t 85) (.t 86)), oa 9 (.mov (.t 87))] (kp 160 [0,1,6,8,9,10,11,16]))
  (.region [oa 88 (.mov (.t 10)), oa 89 (.mov (.t 16)), oa 90 (.append 2 16 (.t 88) (.t 89)), oa 10 (.mov (.t 90))] (kp 160 [0,1,6,8,9,10,11]))))
def l47_1 : IC := (.seq (.seq (.seq (.region [oa 35 (.mov (.t 11)), oa 36 (.mov (.t 0)), oa 37 (.nilCheck (.t 36)), oa 38 (.fieldAddr 1 (.t 37)), oa 39 (.load none (.t 38)), oa 40 (.lenSlice (.t 39)), oa 41 (.bin .lss (.t 35) (.t 40))] (kp 160 [0,1,6,8,9,10,11,41]))
  (.cond (.t 41)
  (sk 160 [0,1,6,8,9,10,11])
  (sx 160 [0,1,8,9,10] 0)))
  (.seq (.block 1
  (.seq (.seq (.region [oa 44 (.mov (.t 0)), oa 45 (.nilCheck (.t 44)), oa 46 (.fieldAddr 1 (.t 45)), oa 47 (.load none (.t 46)), oa 48 (.mov (.t 11)), oa 49 (.indexAddr 5 (.t 47) (.t 48)), oa 50 (.fieldAddr 0 (.t 49)), oa 51 (.load none (.t 50)), oa 52 (.bin .gtr (.t 51) (ai 0))] (kp 160 [0,1,6,8,9,10,11,52]))
  (.cond (.t 52)
  (sx 160 [0,1,6,8,9,10,11] 1)
  (sk 160 [0,1,6,8,9,10,11])))
  (.seq (.region [oa 54 (.mov (.t 0)), oa 55 (.mov (.t 11)), oa 56 (.call 81 [(.t 54), (.t 55)]), oa 53 (.mov (.t 56)), oa 57 (.extract (.t 53) 0), oa 58 (.extract (.t 53) 1), oa 12 (.mov (.t 57)), oa 13 (.mov (.t 58))] (kp 160 [0,1,6,8,9,10,11,12]))
  (.seq (.region [oa 14 (.mov (.c (.slice none 0 (some 0))))] (kp 160 [0,1,6,8,9,10,11,12,14]))
  (.seq (.seq (.region [oa 15 (.mov (ai 0))] (kp 160 [0,1,6,8,9,10,11,12,14,15]))
  (.block 2
  (.seq (sk 160 [0,1,6,8,9,10,11,12,14,15])
  (.loop l47_0))))
  j47_1xabaabbbb)))))
  (.region [oa 42 (.mov (.t 11)), oa 43 (.bin .add (.t 42) (ai 1)), oa 11 (.mov (.t 43))] (kp 160 [0,1,6,8,9,10,11]))))
  (sk 160 [0,1,6,8,9,10,11]))
def l47_2 : IC := (.seq (.seq (.seq (.region [oa 125 (.mov (.t 21)), oa 126 (.mov (.t 20)), oa 127 (.lenSlice (.t 126)), oa 128 (.bin .lss (.t 125) (.t 127))] (kp 160 [0,1,8,9,10,18,19,20,21,128]))
  (.cond (.t 128)
  (sk 160 [0,1,8,9,10,18,19,20,21])
  (sx 160 [0,1,8,9,10,18,19] 8)))
  (.seq (.block 9
  (.region [oa 131 (.mov (.t 20)), oa 132 (.mov (.t 21)), oa 133 (.mov (.t 8)), oa 134 (.mov (.t 9)), oa 135 (.mov (.t 10)), oa 136 (.mov (.t 20)), oa 137 (.mov (.t 21)), oa 138 (.indexAddr 2 (.t 136) (.t 137)), oa 139 (.load (some 2) (.t 138)), oa 140 (.call 98 [(.t 133), (.t 134), (.t 135), (.t 139)]), oa 141 (.indexAddr 2 (.t 131) (.t 132)), ob (.store 2 (.t 141) (.t 140))] (kp 160 [0,1,8,9,10,18,19,20,21])))
  (.region [oa 129 (.mov (.t 21)), oa 130 (.bin .add (.t 129) (ai 1)), oa 21 (.mov (.t 130))] (kp 160 [0,1,8,9,10,18,19,20,21]))))
  (sk 160 [0,1,8,9,10,18,19,20,21]))
def l47_3 : IC := (.seq (.seq (.seq (.region [oa 100 (.mov (.t 19)), oa 101 (.mov (.t 0)), oa 102 (.nilCheck (.t 101)), oa 103 (.fieldAddr 1 (.t 102)), oa 104 (.load none (.t 103)), oa 105 (.mov (.t 18)), oa 106 (.indexAddr 5 (.t 104) (.t 105)), oa 107 (.fieldAddr 4 (.t 106)), oa 108 (.load none (.t 107)), oa 109 (.lenSlice (.t 108)), oa 110 (.bin .lss (.t 100) (.t 109))] (kp 160 [0,1,8,9,10,18,19,110]))
  (.cond (.t 110)
  (sk 160 [0,1,8,9,10,18,19])
  (sx 160 [0,1,8,9,10,18] 6)))
  (.seq (.block 7
  (.seq (.region [oa 113 (.mov (.t 0)), oa 114 (.nilCheck (.t 113)), oa 115 (.fieldAddr 1 (.t 114)), oa 116 (.load none (.t 115)), oa 117 (.mov (.t 18)), oa 118 (.indexAddr 5 (.t 116) (.t 117)), oa 119 (.fieldAddr 4 (.t 118)), oa 120 (.load none (.t 119)), oa 121 (.mov (.t 19)), oa 122 (.indexAddr 3 (.t 120) (.t 121)), oa 123 (.fieldAddr 2 (.t 122)), oa 124 (.load none (.t 123)), oa 20 (.mov (.t 124))] (kp 160 [0,1,8,9,10,18,19,20]))
  (.seq (.region [oa 21 (.mov (ai 0))] (kp 160 [0,1,8,9,10,18,19,20,21]))
  (.block 8
  (.seq (sk 160 [0,1,8,9,10,18,19,20,21])
  (.loop l47_2))))))
  (.region [oa 111 (.mov (.t 19)), oa 112 (.bin .add (.t 111) (ai 1)), oa 19 (.mov (.t 112))] (kp 160 [0,1,8,9,10,18,19]))))
  (sk 160 [0,1,8,9,10,18,19]))
def l47_4 : IC := (.seq (.seq (.seq (.region [oa 91 (.mov (.t 18)), oa 92 (.mov (.t 0)), oa 93 (.nilCheck (.t 92)), oa 94 (.fieldAddr 1 (.t 93)), oa 95 (.load none (.t 94)), oa 96 (.lenSlice (.t 95)), oa 97 (.bin .lss (.t 91) (.t 96))] (kp 160 [0,1,8,9,10,18,97]))
  (.cond (.t 97)
  (sk 160 [0,1,8,9,10,18])
  (sx 160 [1,8,9,10] 4)))
  (.seq (.block 5
  (.seq (.region [oa 19 (.mov (ai 0))] (kp 160 [0,1,8,9,10,18,19]))
  (.block 6
  (.seq (sk 160 [0,1,8,9,10,18,19])
  (.loop l47_3)))))
  (.region [oa 98 (.mov (.t 18)), oa 99 (.bin .add (.t 98) (ai 1)), oa 18 (.mov (.t 99))] (kp 160 [0,1,8,9,10,18]))))
  (sk 160 [0,1,8,9,10,18]))
def l47_5 : IC := (.seq (.seq (.seq (.region [oa 142 (.mov (.t 23)), oa 143 (.mov (.t 1)), oa 144 (.lenSlice (.t 143)), oa 145 (.bin .lss (.t 142) (.t 144))] (kp 160 [1,8,9,10,22,23,145]))
  (.cond (.t 145)
  (sk 160 [1,8,9,10,22,23])
  (sx 160 [22] 10)))
  (.seq (.block 11
  (.region [oa 148 (.mov (.t 22)), oa 149 (.mov (.t 8)), oa 150 (.mov (.t 9)), oa 151 (.mov (.t 10)), oa 152 (.mov (.t 1)), oa 153 (.mov (.t 23)), oa 154 (.indexAddr 2 (.t 152) (.t 153)), oa 155 (.load (some 2) (.t 154)), oa 156 (.call 98 [(.t 149), (.t 150), (.t 151), (.t 155)]), oa 157 (.buildSlice 1 [(.int .i64 (0)), (.int .i64 (0))] [(0, 2, (.t 156))]), oa 158 (.append 2 16 (.t 148) (.t 157)), oa 22 (.mov (.t 158))] (kp 160 [1,8,9,10,22,23])))
  (.region [oa 146 (.mov (.t 23)), oa 147 (.bin .add (.t 146) (ai 1)), oa 23 (.mov (.t 147))] (kp 160 [1,8,9,10,22,23]))))
  (sk 160 [1,8,9,10,22,23]))
def j47_bbbbbbbbb : IC := (.seq (.region [oa 159 (.mov (.t 22)), oa 4 (.mov (.t 159)), oa 5 (.mov (ai 0))] (kp 160 [4,5]))
  (sr 160 [4,5]))
def j47_bbbbbbb : IC := (.seq (.region [oa 22 (.mov (.c (.slice none 0 (some 0))))] (kp 160 [1,8,9,10,22]))
  (.seq (.seq (.region [oa 23 (.mov (ai 0))] (kp 160 [1,8,9,10,22,23]))
  (.block 10
  (.seq (sk 160 [1,8,9,10,22,23])
  (.loop l47_5))))
  j47_bbbbbbbbb))
def j47_bbbbbb : IC := (.seq (.seq (.region [oa 18 (.mov (ai 0))] (kp 160 [0,1,8,9,10,18]))
  (.block 4
  (.seq (sk 160 [0,1,8,9,10,18])
  (.loop l47_4))))
  j47_bbbbbbb)
def c47 : IFn := ⟨160, [(4, none), (5, none)],
  (.seq (.region [oa 4 (.mov (.c (.slice none 0 (some 0)))), oa 5 (.mov (ai 0))] (kp 160 [0,1]))
  (.seq (.region [oa 25 (.mov (.t 0)), oa 26 (.mov (.t 1)), oa 27 (.call 52 [(.t 25), (.t 26)]), oa 24 (.mov (.t 27)), oa 28 (.extract (.t 24) 0), oa 29 (.extract (.t 24) 1), oa 6 (.mov (.t 28)), oa 7 (.mov (.t 29))] (kp 160 [0,1,6,7]))
  (.seq (.seq (.region [oa 30 (.mov (.t 7)), oa 31 (.bin .neq (.t 30) (ai 0))] (kp 160 [0,1,6,7,31]))
  (.cond (.t 31)
  (.seq (.region [oa 32 (.mov (.t 7)), oa 4 (.mov (.c (.slice none 0 (some 0)))), oa 5 (.mov (.t 32))] (kp 160 [4,5]))
  (sr 160 [4,5]))
  (sk 160 [0,1,6])))
  (.seq (.region [oa 33 (.mov (.t 0)), oa 34 (.call 95 [(.t 33)]), oa 8 (.mov (.t 34))] (kp 160 [0,1,6,8]))
  (.seq (.region [oa 9 (.mov (.c (.slice none 0 (some 0)))), oa 10 (.mov (.c (.slice none 0 (some 0))))] (kp 160 [0,1,6,8,9,10]))
  (.seq (.seq (.region [oa 11 (.mov (ai 0))] (kp 160 [0,1,6,8,9,10,11]))
  (.block 0
  (.seq (sk 160 [0,1,6,8,9,10,11])
  (.loop l47_1))))
  j47_bbbbbb))))))⟩
section
variable {o : Nat → Option O} {s : St} {C F : Ch} {Q : V → St → Prop} {p q t : Nat} {u : List Bool}
set_option maxRecDepth 10000
set_option maxHeartbeats 4000000
end
end Go.Proofs.Ytoldkemimhebaaa

set_option linter.unusedSimpArgs false
set_option linter.unusedVariables false
namespace Go.Proofs.Ytoldkemimhebaaa
open Go Go.IM
section
variable {o : Nat → Option O} {s : St} {C F : Ch} {Q : V → St → Prop} {p q : Nat}
set_option maxRecDepth 10000
set_option maxHeartbeats 4000000
end
end Go.Proofs.Ytoldkemimhebaaa

set_option linter.unusedSimpArgs false
set_option linter.unusedVariables false
namespace Go.Proofs.Ytoldkemimhebaaa
open Go Go.IM
section
variable {o : Nat → Option O} {s : St} {C F : Ch} {Q : V → St → Prop} {p q r : Nat} {u : List Bool}
set_option maxRecDepth 10000
set_option maxHeartbeats 4000000
theorem RsOk.pg {rs : List Reg} {lv : Nat} (h : RsOk lv u rs) {g : Reg} (hg : g ∈ rs) : g.pages.length ≤ 30 ∧ g.objs.length ≤ 1000 := by
  have h1 := (h.inv.reg g hg).nobjs
  have h2 := h.pool.sub_len (sub_flatMap (fun r : Reg => r.pages) hg)
  have h3 := h.ulen
  omega
theorem RsOk.rlook {hr : RHeap} {D : Ch} {lv : Nat} (h : RsOk lv u (hr.regs.map RReg.m)) (hD : ∀ y ∈ hr.ch p, y ∈ D) : RLook D p hr where
  rin := ⟨hD⟩
  ne := fun e => h.inv.ne (by rw [e]; rfl)
  len := by have h1 := h.inv.len; have h2 := h.inv.lives; rw [List.length_map] at h1; omega
  objs := fun g hg => by have := (h.pg (List.mem_map.2 ⟨g, hg, rfl⟩)).2; simp only [RReg.m, List.length_map] at this; omega
  ws := fun g hg x hx => by
    have := (h.inv.reg g.m (List.mem_map.2 ⟨g, hg, rfl⟩)).ws x.b (List.mem_map.2 ⟨x, hx, rfl⟩)
    exact ⟨this.1, this.2.1⟩
end
end Go.Proofs.Ytoldkemimhebaaa

set_option linter.unusedSimpArgs false
set_option linter.unusedVariables false
namespace Go.Proofs.Ytoldkemimhebaaa
open Go Go.IM
def l102_0 : IC := (.seq (.seq (.seq (.region [oa 63 (.mov (.t 16)), oa 64 (.mov (.t 4)), oa 65 (.lenSlice (.t 64)), oa 66 (.bin .lss (.t 63) (.t 65))] (kp 111 [4,6,8,12,14,16,66]))
  (.cond (.t 66)
  (sk 111 [4,6,8,12,14,16])
  (sx 111 [4,6,8,12,14] 0)))
  (.seq (.block 1
  (.seq (.region [oa 69 (.mov (.t 4)), oa 70 (.mov (.t 16)), oa 71 (.indexAddr 4 (.t 69) (.t 70)), oa 72 (.fieldAddr 0 (.t 71)), oa 73 (.load (some 2) (.t 72)), oa 74 (.load (some 2) (.t 6)), oa 75 (.eql false (.key (.agg [.i, .i])) (.t 73) (.t 74)), oa 76 (.mov (.t 75)), oc 77 (.mov (.t 4)) 76 ff, oc 78 (.mov (.t 16)) 76 ff, oc 79 (.indexAddr 4 (.t 77) (.t 78)) 76 ff, oc 80 (.fieldAddr 2 (.t 79)) 76 ff, oc 81 (.load (some 2) (.t 80)) 76 ff, oc 82 (.load (some 2) (.t 8)) 76 ff, oc 83 (.eql false (.key (.agg [.i, .i])) (.t 81) (.t 82)) 76 ff, oa 84 (.pick (.t 76) (.c (.bool true)) (.t 83))] (kp 111 [4,6,8,12,14,16,84]))
  (.cond (.t 84)
  (.seq (.region [oa 85 (.mov (.t 4)), oa 86 (.mov (.t 4)), oa 87 (.mov (.t 16)), oa 88 (.indexAddr 4 (.t 86) (.t 87)), oa 89 (.fieldAddr 0 (.t 88)), oa 90 (.load (some 2) (.t 89)), oa 91 (.load (some 2) (.t 6)), oa 92 (.eql false (.key (.agg [.i, .i])) (.t 90) (.t 91)), oa 93 (.mov (.t 92)), oc 94 (.mov (.t 4)) 93 tt, oc 95 (.mov (.t 16)) 93 tt, oc 96 (.indexAddr 4 (.t 94) (.t 95)) 93 tt, oc 97 (.fieldAddr 2 (.t 96)) 93 tt, oc 98 (.load (some 2) (.t 97)) 93 tt, oc 99 (.load (some 2) (.t 8)) 93 tt, oc 100 (.eql false (.key (.agg [.i, .i])) (.t 98) (.t 99)) 93 tt, oa 101 (.pick (.t 93) (.t 100) (.c (.bool false))), oa 10 (.mov (.t 85)), oa 11 (.mov (.t 101))] (kp 111 [10,11]))
  (sr 111 [10,11]))
  (sk 111 [4,6,8,12,14,16]))))
  (.region [oa 67 (.mov (.t 16)), oa 68 (.bin .add (.t 67) (ai 1)), oa 16 (.mov (.t 68))] (kp 111 [4,6,8,12,14,16]))))
  (sk 111 [4,6,8,12,14,16]))
def j102_bbbbb : IC := (.seq (.region [oa 102 (.mov (.t 4)), oa 103 (.load (some 2) (.t 6)), oa 104 (.load (some 2) (.t 8)), oa 105 (.build [(.int .i64 (0)), (.int .i64 (0)), (.int .i64 (0)), (.int .i64 (0))] [(0, 2, (.t 103)), (2, 2, (.t 104))]), oa 106 (.buildSlice 1 [(.int .i64 (0)), (.int .i64 (0)), (.int .i64 (0)), (.int .i64 (0))] [(0, 4, (.t 105))]), oa 107 (.append 4 32 (.t 102) (.t 106)), oa 108 (.mov (.t 12)), oa 109 (.mov (.t 14)), oa 110 (.bin .eql (.t 108) (.t 109)), oa 10 (.mov (.t 107)), oa 11 (.mov (.t 110))] (kp 111 [10,11]))
  (sr 111 [10,11]))
def c102 : IFn := ⟨111, [(10, none), (11, none)],
  (.seq (.region [oa 6 (.box (.t 1)), oa 8 (.box (.t 3)), oa 10 (.mov (.c (.slice none 0 (some 0)))), oa 11 (.mov (.c (.bool false)))] (kp 111 [0,2,4,6,8]))
  (.seq (.region [oa 18 (.mov (.t 0)), oa 19 (.load (some 2) (.t 6)), oa 20 (.call 103 [(.t 18), (.t 19)]), oa 17 (.mov (.t 20)), oa 21 (.extract (.t 17) 0), oa 22 (.extract (.t 17) 1), oa 12 (.mov (.t 21)), oa 13 (.mov (.t 22))] (kp 111 [2,4,6,8,12]))
  (.seq (.region [oa 24 (.mov (.t 2)), oa 25 (.load (some 2) (.t 8)), oa 26 (.call 103 [(.t 24), (.t 25)]), oa 23 (.mov (.t 26)), oa 27 (.extract (.t 23) 0), oa 28 (.extract (.t 23) 1), oa 14 (.mov (.t 27)), oa 15 (.mov (.t 28))] (kp 111 [4,6,8,12,14]))
  (.seq (.seq (.region [oa 29 (.mov (.t 12)), oa 30 (.bin .lss (.t 29) (ai 0)), oa 31 (.mov (.t 30)), oc 32 (.mov (.t 14)) 31 ff, oc 33 (.bin .lss (.t 32) (ai 0)) 31 ff, oa 34 (.pick (.t 31) (.c (.bool true)) (.t 33))] (kp 111 [4,6,8,12,14,34]))
  (.cond (.t 34)
  (.seq (.region [oa 35 (.mov (.t 4)), oa 36 (.mov (.t 12)), oa 37 (.bin .lss (.t 36) (ai 0)), oa 38 (.mov (.t 37)), oc 39 (.mov (.t 14)) 38 tt, oc 40 (.bin .lss (.t 39) (ai 0)) 38 tt, oa 41 (.pick (.t 38) (.t 40) (.c (.bool false))), oa 42 (.mov (.t 41)), oc 43 (.fieldAddr 1 (.t 6)) 42 tt, oc 44 (.load none (.t 43)) 42 tt, oc 45 (.bin .eql (.t 44) (ai 0)) 42 tt, oc 46 (.fieldAddr 1 (.t 8)) 42 tt, oc 47 (.load none (.t 46)) 42 tt, oc 48 (.bin .eql (.t 47) (ai 0)) 42 tt, oc 49 (.eql false (.key (.one .b)) (.t 45) (.t 48)) 42 tt, oa 50 (.pick (.t 42) (.t 49) (.c (.bool false))), oa 51 (.mov (.t 50)), oc 52 (.fieldAddr 1 (.t 6)) 51 tt, oc 53 (.load none (.t 52)) 51 tt, oc 54 (.bin .neq (.t 53) (ai 0)) 51 tt, oc 55 (.mov (.t 54)) 51 tt, oc 56 (.fieldAddr 0 (.t 6)) 55 ff, oc 57 (.load none (.t 56)) 55 ff, oc 58 (.fieldAddr 0 (.t 8)) 55 ff, oc 59 (.load none (.t 58)) 55 ff, oc 60 (.bin .eql (.t 57) (.t 59)) 55 ff, oc 61 (.pick (.t 55) (.c (.bool true)) (.t 60)) 51 tt, oa 62 (.pick (.t 51) (.t 61) (.c (.bool false))), oa 10 (.mov (.t 35)), oa 11 (.mov (.t 62))] (kp 111 [10,11]))
  (sr 111 [10,11]))
  (sk 111 [4,6,8,12,14])))
  (.seq (.seq (.region [oa 16 (.mov (ai 0))] (kp 111 [4,6,8,12,14,16]))
  (.block 0
  (.seq (sk 111 [4,6,8,12,14,16])
  (.loop l102_0))))
  j102_bbbbb)))))⟩
theorem F102 : shutF Try.prog 102 = some c102 := by kernel_rfl
def l51_0 : IC := (.seq (.seq (.seq (.region [oa 32 (.mov (.t 12)), oa 33 (.mov (.t 1)), oa 34 (.lenSlice (.t 33)), oa 35 (.bin .lss (.t 32) (.t 34))] (kp 143 [0,1,2,3,10,12,35]))
  (.cond (.t 35)
  (sk 143 [0,1,2,3,10,12])
  (sx 143 [0,2,10] 0)))
  (.seq (.block 1
  (.seq (.region [oa 39 (.mov (.t 0)), oa 40 (.mov (.t 1)), oa 41 (.mov (.t 12)), oa 42 (.indexAddr 2 (.t 40) (.t 41)), oa 43 (.load (some 2) (.t 42)), oa 44 (.mov (.t 2)), oa 45 (.mov (.t 3)), oa 46 (.mov (.t 12)), oa 47 (.indexAddr 2 (.t 45) (.t 46)), oa 48 (.load (some 2) (.t 47)), oa 49 (.mov (.t 10)), oa 50 (.call 102 [(.t 39), (.t 43), (.t 44), (.t 48), (.t 49)]), oa 38 (.mov (.t 50)), oa 51 (.extract (.t 38) 0), oa 52 (.extract (.t 38) 1), oa 10 (.mov (.t 51)), oa 11 (.mov (.t 52))] (kp 143 [0,1,2,3,10,11,12]))
  (.seq (.region [oa 53 (.mov (.t 11)), oa 54 (.un .not (.t 53))] (kp 143 [0,1,2,3,10,12,54]))
  (.cond (.t 54)
  (.seq (.region [oa 8 (.mov (.c (.bool false))), oa 9 (.mov (ai 0))] (kp 143 [8,9]))
  (sr 143 [8,9]))
  (sk 143 [0,1,2,3,10,12])))))
  (.region [oa 36 (.mov (.t 12)), oa 37 (.bin .add (.t 36) (ai 1)), oa 12 (.mov (.t 37))] (kp 143 [0,1,2,3,10,12]))))
  (sk 143 [0,1,2,3,10,12]))
def l51_1 : IC := (.seq (.seq (.seq (.region [oa 117 (.mov (.t 20)), oa 118 (.fieldAddr 2 (.t 18)), oa 119 (.load none (.t 118)), oa 120 (.lenSlice (.t 119)), oa 121 (.bin .lss (.t 117) (.t 120))] (kp 143 [0,2,10,13,18,19,20,121]))
  (.cond (.t 121)
  (sk 143 [0,2,10,13,18,19,20])
  (sx 143 [0,2,10,13] 4)))
  (.seq (.block 5
  (.seq (.region [oa 125 (.mov (.t 0)), oa 126 (.fieldAddr 2 (.t 18)), oa 127 (.load none (.t 126)), oa 128 (.mov (.t 20)), oa 129 (.indexAddr 2 (.t 127) (.t 128)), oa 130 (.load (some 2) (.t 129)), oa 131 (.mov (.t 2)), oa 132 (.fieldAddr 2 (.t 19)), oa 133 (.load none (.t 132)), oa 134 (.mov (.t 20)), oa 135 (.indexAddr 2 (.t 133) (.t 134)), oa 136 (.load (some 2) (.t 135)), oa 137 (.mov (.t 10)), oa 138 (.call 102 [(.t 125), (.t 130), (.t 131), (.t 136), (.t 137)]), oa 124 (.mov (.t 138)), oa 139 (.extract (.t 124) 0), oa 140 (.extract (.t 124) 1), oa 10 (.mov (.t 139)), oa 11 (.mov (.t 140))] (kp 143 [0,2,10,11,13,18,19,20]))
  (.seq (.region [oa 141 (.mov (.t 11)), oa 142 (.un .not (.t 141))] (kp 143 [0,2,10,13,18,19,20,142]))
  (.cond (.t 142)
  (.seq (.region [oa 8 (.mov (.c (.bool false))), oa 9 (.mov (ai 0))] (kp 143 [8,9]))
  (sr 143 [8,9]))
  (sk 143 [0,2,10,13,18,19,20])))))
  (.region [oa 122 (.mov (.t 20)), oa 123 (.bin .add (.t 122) (ai 1)), oa 20 (.mov (.t 123))] (kp 143 [0,2,10,13,18,19,20]))))
  (sk 143 [0,2,10,13,18,19,20]))
def l51_2 : IC := (.seq (.seq (.seq (.region [oa 55 (.mov (.t 13)), oa 56 (.mov (.t 10)), oa 57 (.lenSlice (.t 56)), oa 58 (.bin .lss (.t 55) (.t 57))] (kp 143 [0,2,10,13,58]))
  (.cond (.t 58)
  (sk 143 [0,2,10,13])
  (sx 143 [] 2)))
  (.seq (.block 3
  (.seq (.region [oa 62 (.mov (.t 0)), oa 63 (.mov (.t 10)), oa 64 (.mov (.t 13)), oa 65 (.indexAddr 4 (.t 63) (.t 64)), oa 66 (.fieldAddr 0 (.t 65)), oa 67 (.load (some 2) (.t 66)), oa 68 (.call 103 [(.t 62), (.t 67)]), oa 61 (.mov (.t 68)), oa 69 (.extract (.t 61) 0), oa 70 (.extract (.t 61) 1), oa 14 (.mov (.t 69)), oa 15 (.mov (.t 70))] (kp 143 [0,2,10,13,14,15]))
  (.seq (.region [oa 72 (.mov (.t 2)), oa 73 (.mov (.t 10)), oa 74 (.mov (.t 13)), oa 75 (.indexAddr 4 (.t 73) (.t 74)), oa 76 (.fieldAddr 2 (.t 75)), oa 77 (.load (some 2) (.t 76)), oa 78 (.call 103 [(.t 72), (.t 77)]), oa 71 (.mov (.t 78)), oa 79 (.extract (.t 71) 0), oa 80 (.extract (.t 71) 1), oa 16 (.mov (.t 79)), oa 17 (.mov (.t 80))] (kp 143 [0,2,10,13,14,15,16,17]))
  (.seq (.region [oa 81 (.mov (.t 0)), oa 82 (.nilCheck (.t 81)), oa 83 (.fieldAddr 1 (.t 82)), oa 84 (.load none (.t 83)), oa 85 (.mov (.t 14)), oa 86 (.indexAddr 5 (.t 84) (.t 85)), oa 87 (.fieldAddr 4 (.t 86)), oa 88 (.load none (.t 87)), oa 89 (.mov (.t 15)), oa 90 (.indexAddr 3 (.t 88) (.t 89)), oa 91 (.load (some 3) (.t 90)), oa 92 (.mov (.t 2)), oa 93 (.nilCheck (.t 92)), oa 94 (.fieldAddr 1 (.t 93)), oa 95 (.load none (.t 94)), oa 96 (.mov (.t 16)), oa 97 (.indexAddr 5 (.t 95) (.t 96)), oa 98 (.fieldAddr 4 (.t 97)), oa 99 (.load none (.t 98)), oa 100 (.mov (.t 17)), oa 101 (.indexAddr 3 (.t 99) (.t 100)), oa 102 (.load (some 3) (.t 101)), oa 18 (.alloc [(.int .i64 (0)), (.int .i64 (0)), (.slice none 0 (some 0))]), oa 19 (.alloc [(.int .i64 (0)), (.int .i64 (0)), (.slice none 0 (some 0))]), ob (.store 3 (.t 18) (.t 91)), ob (.again 95 (.load none (.t 94))), ob (.again 99 (.load none (.t 98))), ob (.again 102 (.load (some 3) (.t 101))), ob (.store 3 (.t 19) (.t 102))] (kp 143 [0,2,10,13,18,19]))
  (.seq (.seq (.region [oa 103 (.fieldAddr 1 (.t 18)), oa 104 (.load none (.t 103)), oa 105 (.fieldAddr 1 (.t 19)), oa 106 (.load none (.t 105)), oa 107 (.bin .neq (.t 104) (.t 106)), oa 108 (.mov (.t 107)), oc 109 (.fieldAddr 2 (.t 18)) 108 ff, oc 110 (.load none (.t 109)) 108 ff, oc 111 (.lenSlice (.t 110)) 108 ff, oc 112 (.fieldAddr 2 (.t 19)) 108 ff, oc 113 (.load none (.t 112)) 108 ff, oc 114 (.lenSlice (.t 113)) 108 ff, oc 115 (.bin .neq (.t 111) (.t 114)) 108 ff, oa 116 (.pick (.t 108) (.c (.bool true)) (.t 115))] (kp 143 [0,2,10,13,18,19,116]))
  (.cond (.t 116)
  (.seq (.region [oa 8 (.mov (.c (.bool false))), oa 9 (.mov (ai 0))] (kp 143 [8,9]))
  (sr 143 [8,9]))
  (sk 143 [0,2,10,13,18,19])))
  (.seq (.region [oa 20 (.mov (ai 0))] (kp 143 [0,2,10,13,18,19,20]))
  (.block 4
  (.seq (sk 143 [0,2,10,13,18,19,20])
  (.loop l51_1)))))))))
  (.region [oa 59 (.mov (.t 13)), oa 60 (.bin .add (.t 59) (ai 1)), oa 13 (.mov (.t 60))] (kp 143 [0,2,10,13]))))
  (sk 143 [0,2,10,13]))
def j51_bbbbbbb : IC := (.seq (.region [oa 8 (.mov (.c (.bool true))), oa 9 (.mov (ai 0))] (kp 143 [8,9]))
  (sr 143 [8,9]))
def c51 : IFn := ⟨143, [(8, none), (9, none)],
  (.seq (.region [oa 8 (.mov (.c (.bool false))), oa 9 (.mov (ai 0))] (kp 143 [0,1,2,3]))
  (.seq (.seq (.region [oa 21 (.mov (.t 0)), oa 22 (.call 101 [(.t 21)]), oa 23 (.mov (.t 22)), oc 24 (.mov (.t 2)) 23 ff, oc 25 (.call 101 [(.t 24)]) 23 ff, oa 26 (.pick (.t 23) (.c (.bool true)) (.t 25))] (kp 143 [0,1,2,3,26]))
  (.cond (.t 26)
  (.seq (.region [oa 8 (.mov (.c (.bool false))), oa 9 (.mov (ai 6))] (kp 143 [8,9]))
  (sr 143 [8,9]))
  (sk 143 [0,1,2,3])))
  (.seq (.seq (.region [oa 27 (.mov (.t 1)), oa 28 (.lenSlice (.t 27)), oa 29 (.mov (.t 3)), oa 30 (.lenSlice (.t 29)), oa 31 (.bin .neq (.t 28) (.t 30))] (kp 143 [0,1,2,3,31]))
  (.cond (.t 31)
  (.seq (.region [oa 8 (.mov (.c (.bool false))), oa 9 (.mov (ai 0))] (kp 143 [8,9]))
  (sr 143 [8,9]))
  (sk 143 [0,1,2,3])))
  (.seq (.region [oa 10 (.mov (.c (.slice none 0 (some 0))))] (kp 143 [0,1,2,3,10]))
  (.seq (.region [oa 11 (.mov (.c (.bool true)))] (kp 143 [0,1,2,3,10]))
  (.seq (.seq (.region [oa 12 (.mov (ai 0))] (kp 143 [0,1,2,3,10,12]))
  (.block 0
  (.seq (sk 143 [0,1,2,3,10,12])
  (.loop l51_0))))
  (.seq (.seq (.region [oa 13 (.mov (ai 0))] (kp 143 [0,2,10,13]))
  (.block 2
  (.seq (sk 143 [0,2,10,13])
  (.loop l51_2))))
  j51_bbbbbbb)))))))⟩
theorem F51 : shutF Try.prog 51 = some c51 := by kernel_rfl
def encPr (e : Wd × Wd) : List V := [I e.1.1, I e.1.2, I e.2.1, I e.2.2]
theorem encPr_len (e : Wd × Wd) : (encPr e).length = 4 := rfl
theorem cut_sub {cs ys : List V} {off n f m : Nat} (h : cut cs off n = some ys) (hf : f + m ≤ n) : cut cs (off + f) m = some ((ys.drop f).take m) := by
  unfold cut at h ⊢
  split at h
  · rename_i hl
    cases h
    rw [if_pos (by omega), List.drop_take, List.take_take, List.drop_drop]
    congr 2
    omega
  · cases h
theorem ldPr {P : List (Wd × Wd)} {i : Nat} {e : Wd × Wd} (h : P[i]? = some e) : ldN 2 (i * 4) (some (.cells (P.flatMap encPr) (some 4))) = some (.agg (encW e.1)) ∧ ldN 2 (i * 4 + 2) (some (.cells (P.flatMap encPr) (some 4))) = some (.agg (encW e.2)) := by
  have hc := tab_cut encPr_len P [] h
  rw [List.append_nil] at hc
  have c1 := cut_sub (f := 0) (m := 2) hc (by omega)
  have c2 := cut_sub (f := 2) (m := 2) hc (by omega)
  rw [Nat.add_zero] at c1
  exact ⟨by rw [ldN_some, c1]; rfl, by rw [ldN_some, c2]; rfl⟩
theorem regFrom_at : ∀ {rs : List PReg} {a i : Nat} {g : PReg} {L : Int}, (rs.map (·.life)).Nodup → rs[a]? = some g → (g.life : Int) = L → regFrom rs L i = some (i + a)
  | [], _, _, _, _, _, h, _ => by simp at h
  | r :: rs, 0, i, g, L, hn, h, e => by
    simp at h; subst h
    unfold regFrom
    rw [if_pos e]; rfl
  | r :: rs, a + 1, i, g, L, hn, h, e => by
    rw [List.map_cons, List.nodup_cons] at hn
    have h' : rs[a]? = some g := by simpa using h
    have hne : ¬ (r.life : Int) = L := fun x => hn.1 (List.mem_map.2 ⟨g, List.mem_of_getElem? h', by omega⟩)
    unfold regFrom
    rw [if_neg hne, regFrom_at hn.2 h' e]
    congr 1; omega
theorem find_reg {hp : PHeap} {hr : RHeap} (hm : hp.regs.map PReg.m = hr.regs.map RReg.m) (hn : (hp.regs.map (·.life)).Nodup) (w : Wd) :
    (rfind w.1 w.2 hr.regs 0 = none ∧ thereB hp w = false) ∨
    ∃ (a b : Nat) (g : RReg) (x : RObj) (x' : PObj), rfind w.1 w.2 hr.regs 0 = some (a, b) ∧ hr.regs[a]? = some g ∧ g.objs[b]? = some x ∧ thereB hp w = true ∧ regI hp w.2 = (a : Int) ∧ pfind w.1 w.2 hp.regs = some x' ∧ x'.b = x.b := by
  by_cases hL : 1 ≤ w.2
  · have hf := find_same (N := w.1) hL hp.regs hr.regs 0 hm
    cases h : rfind w.1 w.2 hr.regs 0 with
    | none =>
      rw [h] at hf
      simp only at hf
      refine .inl ⟨rfl, ?_⟩
      unfold thereB; rw [hf]; simp
    | some ab =>
      obtain ⟨a, b⟩ := ab
      rw [h] at hf
      obtain ⟨g, g', x, x', _, k1, k2, k3, k4, k5, k6, k7, k8, k9⟩ := hf
      refine .inr ⟨a, b, g', x', x, rfl, k2, k4, ?_, ?_, k7, k5⟩
      · unfold thereB; rw [k7]; simp; omega
      · unfold regI
        rw [Nat.sub_zero] at k1
        rw [regFrom_at (i := 0) hn k1 k9]; simp
  · refine .inl ⟨rfind_neg hL _ _, ?_⟩
    unfold thereB; rw [decide_eq_false (by omega)]; rfl
section
variable {o : Nat → Option O} {s : St} {C F : Ch} {Q : V → St → Prop} {p q : Nat}
set_option maxRecDepth 10000
set_option maxHeartbeats 4000000
theorem fits_loop {kp bv bw n12 n14 : Nat} {v w : Wd} {P : List (Wd × Wd)} {K : Kt} (mv : (bv, some (.cells (encW v) none)) ∈ C) (mw : (bw, some (.cells (encW w) none)) ∈ C) (mp : (kp, rowO 4 P.length (P.flatMap encPr)) ∈ C) (hl : P.length ≤ 100000) (H : Holds o s C)
    (q1 : ∀ e, P.find? (fun e => decide (e.1 = v) || decide (e.2 = w)) = some e → WP (K .ret (sp 111 [(10, rowV kp P.length), (11, .bool (decide (e.1 = v) && decide (e.2 = w)))]) s) Q)
    (q2 : P.find? (fun e => decide (e.1 = v) || decide (e.2 = w)) = none → WP (K (.exit 0) (sp 111 [(4, rowV kp P.length), (6, ptrN bv), (8, ptrN bw), (12, I n12), (14, I n14)]) s) Q) :
    ∀ (n i : Nat), i + n = P.length → (P.drop i).find? (fun e => decide (e.1 = v) || decide (e.2 = w)) = P.find? (fun e => decide (e.1 = v) || decide (e.2 = w)) →
    WP (loop PF (.loop l102_0) (sp 111 [(4, rowV kp P.length), (6, ptrN bv), (8, ptrN bw), (12, I n12), (14, I n14), (16, I i)]) s K) Q
  | 0, i, hi, he => by
    have hlt : ¬ ((i : Int) < (P.length : Int)) := by omega
    rw [List.drop_eq_nil_of_le (by omega)] at he
    refine wp_round fun LL hLL => ?_
    simp -implicitDefEqProofs only [↓GP, GB, GL, Nat.reduceAdd, Nat.reduceSub, Nat.reduceEqDiff, Nat.reduceMul, Nat.reduceLeDiff, Int.reduceBNe, Int.reduceBEq, Nat.reduceLT, reduceCtorEq, l102_0, hlt]
    exact q2 he.symm
  | n + 1, i, hi, he => by
    have hlt : ((i : Int) < (P.length : Int)) := by omega
    have hi' : i < P.length := by omega
    have hw1 := wrap_add1 (a := i) (by omega)
    have hix := ix_row (sz := 4) (k := kp) (n := P.length) (i := i) (kk := .i64) hi'
    rw [rowO_pos (by omega : 0 < P.length)] at mp
    have fp := H.mem mp
    have fv := H.mem mv
    have fw := H.mem mw
    obtain ⟨d1, d2⟩ := ldPr (List.getElem?_eq_getElem hi')
    rw [List.drop_eq_getElem_cons hi', List.find?_cons] at he
    generalize P[i] = e at he d1 d2
    have hv := word_eq e.1 v
    have hw := word_eq e.2 w
    cases h1 : decide (e.1 = v) with
    | true =>
      rw [h1] at hv he
      simp only [Bool.true_or] at he
      have := q1 e he.symm
      rw [h1, Bool.true_and] at this
      refine wp_round fun LL hLL => ?_
      simp -implicitDefEqProofs only [↓GP, GB, GL, Nat.reduceAdd, Nat.reduceSub, Nat.reduceEqDiff, Nat.reduceMul, Nat.reduceLeDiff, Int.reduceBNe, Int.reduceBEq, Nat.reduceLT, reduceCtorEq, l102_0, hlt, hix, fp, fv, fw, d1, d2, encW, hv, hw]
      exact this
    | false =>
      rw [h1] at hv he
      cases h2 : decide (e.2 = w) with
      | true =>
        rw [h2] at hw he
        simp only [Bool.false_or] at he
        have := q1 e he.symm
        rw [h1, Bool.false_and] at this
        refine wp_round fun LL hLL => ?_
        simp -implicitDefEqProofs only [↓GP, GB, GL, Nat.reduceAdd, Nat.reduceSub, Nat.reduceEqDiff, Nat.reduceMul, Nat.reduceLeDiff, Int.reduceBNe, Int.reduceBEq, Nat.reduceLT, reduceCtorEq, l102_0, hlt, hix, fp, fv, fw, d1, d2, encW, hv, hw]
        exact this
      | false =>
        rw [h2] at hw he
        simp only [Bool.or_false] at he
        refine wp_round fun LL hLL => ?_
        simp -implicitDefEqProofs only [↓GP, GB, GL, Nat.reduceAdd, Nat.reduceSub, Nat.reduceEqDiff, Nat.reduceMul, Nat.reduceLeDiff, Int.reduceBNe, Int.reduceBEq, Nat.reduceLT, reduceCtorEq, l102_0, hlt, hix, fp, fv, fw, d1, d2, encW, hv, hw, hw1]
        rw [hLL]
        exact fits_loop mv mw (by rw [rowO_pos (by omega : 0 < P.length)]; exact mp) hl H q1 q2 n (i + 1) (by omega) he
theorem s102 {h k : PHeap} {hr kr : RHeap} {kp : Nat} {v w : Wd} {P : List (Wd × Wd)} (H : Holds o s ((kp, rowO 4 P.length (P.flatMap encPr)) :: C)) (lh : RLook C p hr) (lk : RLook C q kr) (mh : h.regs.map PReg.m = hr.regs.map RReg.m) (mk : k.regs.map PReg.m = kr.regs.map RReg.m)
    (nh : (h.regs.map (·.life)).Nodup) (nk : (k.regs.map (·.life)).Nodup) (hl : P.length ≤ 100000)
    (f : ∀ s' kp', Holds o s' ((kp', rowO 4 (fitM h k P v w).1.length ((fitM h k P v w).1.flatMap encPr)) :: C) → Q (.tuple [rowV kp' (fitM h k P v w).1.length, .bool (fitM h k P v w).2]) s') :
    WP (call PF 102 [ptrN hr.id, .agg (encW v), ptrN kr.id, .agg (encW w), rowV kp P.length] s) Q := by
  have h2 := (H.alloc (.cells (encW v) none)).alloc (.cells (encW w) none)
  simp only [alloc_next] at h2
  have up : ∀ y ∈ C, y ∈ (s.next + 1, some (O.cells (encW w) none)) :: (s.next, some (O.cells (encW v) none)) :: (kp, rowO 4 P.length (P.flatMap encPr)) :: C := fun y hy => List.mem_cons_of_mem _ (List.mem_cons_of_mem _ (List.mem_cons_of_mem _ hy))
  rw [call_run F102]; simp -implicitDefEqProofs only [↓GP, GB, GL, Nat.reduceAdd, Nat.reduceSub, Nat.reduceEqDiff, Nat.reduceMul, Nat.reduceLeDiff, Int.reduceBNe, Int.reduceBEq, Nat.reduceLT, reduceCtorEq, c102, encW]
  refine wp_in (s103 (N := v.1) (L := v.2) h2 (lh.mono up).rin lh.len lh.objs fun s1 h3 => ?_)
  have f3 := h3.f2
  simp only [encW] at f3
  have back : ∀ {s'}, Holds o s' ((s.next + 1, some (O.cells (encW w) none)) :: (s.next, some (O.cells (encW v) none)) :: (kp, rowO 4 P.length (P.flatMap encPr)) :: C) → Holds o s' ((kp, rowO 4 P.length (P.flatMap encPr)) :: C) := fun h => h.tl.tl
  have bb : ∀ a b : Bool, eqI (.key (.one .b)) (.bool a) (.bool b) = some (a == b) := fun a b => by cases a <;> cases b <;> simp [eqI, keyEq, cellEq]
  have noB : ∀ {s'}, ¬ (thereB h v = true ∧ thereB k w = true) → (!thereB h v && !thereB k w) = false → Holds o s' ((kp, rowO 4 P.length (P.flatMap encPr)) :: C) → Q (.tuple [rowV kp P.length, .bool false]) s' := fun hth hb h1 => by
    have := f _ kp (by unfold fitM; rw [if_neg hth]; exact h1)
    unfold fitM at this
    rw [if_neg hth, hb, Bool.false_and] at this
    exact this
  rcases find_reg mh nh v with ⟨e1, t1⟩ | ⟨a1, b1, g1, x1, y1, e1, -, -, t1, r1, -, -⟩
  · rw [e1]
    simp -implicitDefEqProofs only [↓GP, GB, GL, Nat.reduceAdd, Nat.reduceSub, Nat.reduceEqDiff, Nat.reduceMul, Nat.reduceLeDiff, Int.reduceBNe, Int.reduceBEq, Nat.reduceLT, reduceCtorEq, f3, encW]
    refine wp_in (s103 (N := w.1) (L := w.2) h3 (lk.mono up).rin lk.len lk.objs fun s2 h4 => ?_)
    have f4 := h4.f2
    simp only [encW] at f4
    rcases find_reg mk nk w with ⟨e2, t2⟩ | ⟨a2, b2, g2, x2, y2, e2, -, -, t2, r2, -, -⟩
    · rw [e2]
      have hth : ¬ (thereB h v = true ∧ thereB k w = true) := by rw [t1]; simp
      have hf := f s2 kp (by unfold fitM; rw [if_neg hth]; exact back h4)
      unfold fitM at hf
      rw [if_neg hth, t1, t2] at hf
      simp only [Bool.not_false, Bool.and_true, Bool.true_and] at hf
      by_cases hv : v.2 = 0
      · have bv : (v.2 == 0) = true := by simpa using hv
        have bv' : (v.2 != 0) = false := by simp [hv]
        by_cases hw : w.2 = 0
        · have bw : (w.2 == 0) = true := by simpa using hw
          by_cases h1 : v.1 = w.1
          · have b1 : (v.1 == w.1) = true := by simpa using h1
            simp only [hv, hw, h1, decide_true, Bool.not_true, Bool.false_or, beq_self_eq_true, Bool.and_self] at hf
            simp -implicitDefEqProofs only [↓GP, GB, GL, Nat.reduceAdd, Nat.reduceSub, Nat.reduceEqDiff, Nat.reduceMul, Nat.reduceLeDiff, Int.reduceBNe, Int.reduceBEq, Nat.reduceLT, reduceCtorEq, f4, Int.reduceNeg, Int.reduceLT, bv, bv', bw, b1, bb, beq_self_eq_true]
            exact hf
          · have b1 : (v.1 == w.1) = false := by simpa using h1
            simp only [hv, hw, h1, decide_true, decide_false, Bool.not_true, Bool.false_or, beq_self_eq_true, Bool.and_false] at hf
            simp -implicitDefEqProofs only [↓GP, GB, GL, Nat.reduceAdd, Nat.reduceSub, Nat.reduceEqDiff, Nat.reduceMul, Nat.reduceLeDiff, Int.reduceBNe, Int.reduceBEq, Nat.reduceLT, reduceCtorEq, f4, Int.reduceNeg, Int.reduceLT, bv, bv', bw, b1, bb, beq_self_eq_true]
            exact hf
        · have bw : (w.2 == 0) = false := by simpa using hw
          have bf : (true == false) = false := rfl
          simp only [hv, hw, decide_true, decide_false, bf, Bool.false_and] at hf
          simp -implicitDefEqProofs only [↓GP, GB, GL, Nat.reduceAdd, Nat.reduceSub, Nat.reduceEqDiff, Nat.reduceMul, Nat.reduceLeDiff, Int.reduceBNe, Int.reduceBEq, Nat.reduceLT, reduceCtorEq, f4, Int.reduceNeg, Int.reduceLT, bv, bv', bw, bb, bf]
          exact hf
      · have bv : (v.2 == 0) = false := by simpa using hv
        have bv' : (v.2 != 0) = true := by simpa using hv
        by_cases hw : w.2 = 0
        · have bw : (w.2 == 0) = true := by simpa using hw
          have bf : (false == true) = false := rfl
          simp only [hv, hw, decide_true, decide_false, bf, Bool.false_and] at hf
          simp -implicitDefEqProofs only [↓GP, GB, GL, Nat.reduceAdd, Nat.reduceSub, Nat.reduceEqDiff, Nat.reduceMul, Nat.reduceLeDiff, Int.reduceBNe, Int.reduceBEq, Nat.reduceLT, reduceCtorEq, f4, Int.reduceNeg, Int.reduceLT, bv, bv', bw, bb, bf]
          exact hf
        · have bw : (w.2 == 0) = false := by simpa using hw
          simp only [hv, hw, decide_false, beq_self_eq_true, Bool.not_false, Bool.true_or, Bool.and_self] at hf
          simp -implicitDefEqProofs only [↓GP, GB, GL, Nat.reduceAdd, Nat.reduceSub, Nat.reduceEqDiff, Nat.reduceMul, Nat.reduceLeDiff, Int.reduceBNe, Int.reduceBEq, Nat.reduceLT, reduceCtorEq, f4, Int.reduceNeg, Int.reduceLT, bv, bv', bw, bb, beq_self_eq_true]
          exact hf
    · rw [e2]
      have ha2 : ¬ ((a2 : Int) < 0) := by omega
      simp -implicitDefEqProofs only [↓GP, GB, GL, Nat.reduceAdd, Nat.reduceSub, Nat.reduceEqDiff, Nat.reduceMul, Nat.reduceLeDiff, Int.reduceBNe, Int.reduceBEq, Nat.reduceLT, reduceCtorEq, f4, Int.reduceNeg, Int.reduceLT, ha2]
      exact noB (by rw [t1]; simp) (by rw [t2]; simp) (back h4)
  · rw [e1]
    have ha1 : ¬ ((a1 : Int) < 0) := by omega
    simp -implicitDefEqProofs only [↓GP, GB, GL, Nat.reduceAdd, Nat.reduceSub, Nat.reduceEqDiff, Nat.reduceMul, Nat.reduceLeDiff, Int.reduceBNe, Int.reduceBEq, Nat.reduceLT, reduceCtorEq, f3, encW, ha1]
    refine wp_in (s103 (N := w.1) (L := w.2) h3 (lk.mono up).rin lk.len lk.objs fun s2 h4 => ?_)
    have f4 := h4.f2
    simp only [encW] at f4
    rcases find_reg mk nk w with ⟨e2, t2⟩ | ⟨a2, b2, g2, x2, y2, e2, -, -, t2, r2, -, -⟩
    · rw [e2]
      simp -implicitDefEqProofs only [↓GP, GB, GL, Nat.reduceAdd, Nat.reduceSub, Nat.reduceEqDiff, Nat.reduceMul, Nat.reduceLeDiff, Int.reduceBNe, Int.reduceBEq, Nat.reduceLT, reduceCtorEq, f4, Int.reduceNeg, Int.reduceLT, ha1]
      exact noB (by rw [t2]; simp) (by rw [t1]; simp) (back h4)
    · rw [e2]
      have ha2 : ¬ ((a2 : Int) < 0) := by omega
      have hth : thereB h v = true ∧ thereB k w = true := ⟨t1, t2⟩
      unfold fitM at f
      rw [if_pos hth] at f
      simp -implicitDefEqProofs only [↓GP, GB, GL, Nat.reduceAdd, Nat.reduceSub, Nat.reduceEqDiff, Nat.reduceMul, Nat.reduceLeDiff, Int.reduceBNe, Int.reduceBEq, Nat.reduceLT, reduceCtorEq, f4, ha1, ha2]
      rw [I0]
      refine fits_loop (v := v) (w := w) (List.mem_cons_of_mem _ (List.mem_cons_self ..)) (List.mem_cons_self ..) (List.mem_cons_of_mem _ (List.mem_cons_of_mem _ (List.mem_cons_self ..))) hl h4 (fun e he => ?_) (fun he => ?_) P.length 0 (by omega) rfl
      · rw [he] at f
        simp -implicitDefEqProofs only [↓GP, GB, GL, Nat.reduceAdd, Nat.reduceSub, Nat.reduceEqDiff, Nat.reduceMul, Nat.reduceLeDiff, Int.reduceBNe, Int.reduceBEq, Nat.reduceLT, reduceCtorEq]
        exact f s2 kp (back h4)
      · rw [he] at f
        simp only at f
        have hq : ((a1 : Int) == (a2 : Int)) = decide (regI h v.2 = regI k w.2) := by rw [r1, r2]; rfl
        simp -implicitDefEqProofs only [↓GP, GB, GL, Nat.reduceAdd, Nat.reduceSub, Nat.reduceEqDiff, Nat.reduceMul, Nat.reduceLeDiff, Int.reduceBNe, Int.reduceBEq, Nat.reduceLT, reduceCtorEq, j102_bbbbb, f4, encW, hq]
        refine wp_append (k := kp) (n := P.length) (sz := 4) (bytes := 32) (m := 1) (cs := P.flatMap encPr) (F := (s2.next, some (.cells [I v.1, I v.2, I w.1, I w.2] none)) :: C) (Holds.of (h4.alloc (.cells [I v.1, I v.2, I w.1, I w.2] none)) (fun k => by simp +arith only [HA, HB]) (fun k x => by simp only [HA, HC]; grind only)) (by rw [tab_len encPr_len]) (new_cells' (alloc_new_same _ _) rfl) rfl rfl (by omega) (by unfold maxRow; omega) (by unfold maxRow; omega) fun kp' s3 h5 => ?_
        simp -implicitDefEqProofs only [↓GP, GB, GL, Nat.reduceAdd, Nat.reduceSub, Nat.reduceEqDiff, Nat.reduceMul, Nat.reduceLeDiff, Int.reduceBNe, Int.reduceBEq, Nat.reduceLT, reduceCtorEq, hq]
        have hl1 : (P ++ [(v, w)]).length = P.length + 1 := by simp
        have := f s3 kp' (by rw [hl1, List.flatMap_append]; exact h5.r1.tl)
        rw [hl1] at this
        exact this
theorem PairsOk.fit {h k : PHeap} {P : List (Wd × Wd)} (hP : PairsOk h k P) (v w : Wd) : PairsOk h k (fitM h k P v w).1 := by
  unfold fitM
  split
  · rename_i hth
    split
    · exact hP
    · rename_i hf
      have hno := List.find?_eq_none.1 hf
      have hv : v ∉ P.map (·.1) := fun m => by
        obtain ⟨e, he, rfl⟩ := List.mem_map.1 m
        have := hno e he; simp at this
      have hw : w ∉ P.map (·.2) := fun m => by
        obtain ⟨e, he, rfl⟩ := List.mem_map.1 m
        have := hno e he; simp at this
      have e1 := hP.a.put v
      have e2 := hP.b.put w
      unfold putW at e1 e2
      rw [if_pos ⟨hv, hth.1⟩] at e1
      rw [if_pos ⟨hw, hth.2⟩] at e2
      exact ⟨by simpa using e1, by simpa using e2⟩
  · exact hP
structure RTwo (C : Ch) (p q : Nat) (h k : PHeap) (hr kr : RHeap) : Prop where
  lh : RLook C p hr
  lk : RLook C q kr
  sh : h.regs.map PReg.m = hr.regs.map RReg.m
  sk : k.regs.map PReg.m = kr.regs.map RReg.m
  nh : (h.regs.map (·.life)).Nodup
  nk : (k.regs.map (·.life)).Nodup
  all : (allW h).length ≤ 90000
theorem RTwo.mono {D : Ch} {h k : PHeap} {hr kr : RHeap} (t : RTwo C p q h k hr kr) (hs : ∀ x ∈ C, x ∈ D) : RTwo D p q h k hr kr := ⟨t.lh.mono hs, t.lk.mono hs, t.sh, t.sk, t.nh, t.nk, t.all⟩
theorem ral_roots {h k : PHeap} {hr kr : RHeap} {xa xb : Nat} {a b : List Wd} {K : Kt} (T : RTwo C p q h k hr kr) (ma : (xa, rowO 2 a.length (a.flatMap encW)) ∈ C) (mb : (xb, rowO 2 a.length (b.flatMap encW)) ∈ C) (hab : b.length = a.length) (hl : a.length ≤ 1000) :
    ∀ (n i kp : Nat) (P : List (Wd × Wd)) (s : St), i + n = a.length → PairsOk h k P → Holds o s ((kp, rowO 4 P.length (P.flatMap encPr)) :: C) →
    (∀ s' kp' P', foldR h k P ((a.drop i).zip (b.drop i)) = some P' → PairsOk h k P' → Holds o s' ((kp', rowO 4 P'.length (P'.flatMap encPr)) :: C) → WP (K (.exit 0) (sp 143 [(0, ptrN hr.id), (2, ptrN kr.id), (10, rowV kp' P'.length)]) s') Q) →
    (foldR h k P ((a.drop i).zip (b.drop i)) = none → ∀ s', Holds o s' C → WP (K .ret (sp 143 [(8, .bool false), (9, I 0)]) s') Q) →
    WP (loop PF (.loop l51_0) (sp 143 [(0, ptrN hr.id), (1, rowV xa a.length), (2, ptrN kr.id), (3, rowV xb a.length), (10, rowV kp P.length), (12, I i)]) s K) Q
  | 0, i, kp, P, s, hi, hP, H, fS, fN => by
    have hlt : ¬ ((i : Int) < (a.length : Int)) := by omega
    refine wp_round fun LL hLL => ?_
    simp -implicitDefEqProofs only [↓GP, GB, GL, Nat.reduceAdd, Nat.reduceSub, Nat.reduceEqDiff, Nat.reduceMul, Nat.reduceLeDiff, Int.reduceBNe, Int.reduceBEq, Nat.reduceLT, reduceCtorEq, l51_0, hlt]
    exact fS s kp P (by rw [List.drop_eq_nil_of_le (by omega)]; rfl) hP H
  | n + 1, i, kp, P, s, hi, hP, H, fS, fN => by
    have hlt : ((i : Int) < (a.length : Int)) := by omega
    have hi' : i < a.length := by omega
    have hi2 : i < b.length := by omega
    have hw1 := wrap_add1 (a := i) (by omega)
    have hix := ix_row (sz := 2) (k := xa) (n := a.length) (i := i) (kk := .i64) hi'
    have hix2 := ix_row (sz := 2) (k := xb) (n := a.length) (i := i) (kk := .i64) hi'
    have er : rowO 2 a.length (a.flatMap encW) = some (.cells (a.flatMap encW) (some 2)) := by unfold rowO; rw [if_neg (by omega)]
    have er2 : rowO 2 a.length (b.flatMap encW) = some (.cells (b.flatMap encW) (some 2)) := by unfold rowO; rw [if_neg (by omega)]
    have fa := H.mem (List.mem_cons_of_mem _ (er ▸ ma))
    have fb := H.mem (List.mem_cons_of_mem _ (er2 ▸ mb))
    have hld := ldN_tab (enc := encW) encW_len a (some 2) (List.getElem?_eq_getElem hi')
    have hld2 := ldN_tab (enc := encW) encW_len b (some 2) (List.getElem?_eq_getElem hi2)
    rw [List.drop_eq_getElem_cons hi', List.drop_eq_getElem_cons hi2, List.zip_cons_cons, foldR] at fS fN
    generalize a[i] = v at fS fN hld
    generalize b[i] = w at fS fN hld2
    simp only at fS fN
    have hpl := hP.a.len
    rw [List.length_map] at hpl
    have hall := T.all
    refine wp_round fun LL hLL => ?_
    simp -implicitDefEqProofs only [↓GP, GB, GL, Nat.reduceAdd, Nat.reduceSub, Nat.reduceEqDiff, Nat.reduceMul, Nat.reduceLeDiff, Int.reduceBNe, Int.reduceBEq, Nat.reduceLT, reduceCtorEq, l51_0, hlt, hix, hix2, fa, fb, hld, hld2, encW]
    refine wp_in (s102 (v := v) (w := w) H T.lh T.lk T.sh T.sk T.nh T.nk (by omega) fun s1 kp1 h1 => ?_)
    cases hf : (fitM h k P v w).2 with
    | true =>
      rw [hf, if_pos rfl] at fS fN
      simp -implicitDefEqProofs only [↓GP, GB, GL, Nat.reduceAdd, Nat.reduceSub, Nat.reduceEqDiff, Nat.reduceMul, Nat.reduceLeDiff, Int.reduceBNe, Int.reduceBEq, Nat.reduceLT, reduceCtorEq, hw1]
      rw [hLL]
      exact ral_roots T ma mb hab hl n (i + 1) kp1 _ s1 (by omega) (hP.fit v w) h1 fS fN
    | false =>
      rw [hf, if_neg (by simp)] at fN
      simp -implicitDefEqProofs only [↓GP, GB, GL, Nat.reduceAdd, Nat.reduceSub, Nat.reduceEqDiff, Nat.reduceMul, Nat.reduceLeDiff, Int.reduceBNe, Int.reduceBEq, Nat.reduceLT, reduceCtorEq]
      exact fN rfl s1 h1.tl
theorem ral_words {h k : PHeap} {hr kr : RHeap} {tx ty i0 m : Nat} {x y : RObj} {K : Kt} (T : RTwo C p q h k hr kr) (mx : (tx, some (.cells x.enc none)) ∈ C) (my : (ty, some (.cells y.enc none)) ∈ C)
    (mwx : (x.wid, some (.cells (x.b.ws.flatMap encW) (cG x.gr 2))) ∈ C) (mwy : (y.wid, some (.cells (y.b.ws.flatMap encW) (cG y.gr 2))) ∈ C) (hxm : x.b.ws.length = m) (hym : y.b.ws.length = m) (hm : m ≤ 31) :
    ∀ (n i kp : Nat) (P : List (Wd × Wd)) (s : St), i + n = m → PairsOk h k P → Holds o s ((kp, rowO 4 P.length (P.flatMap encPr)) :: C) →
    (∀ s' kp' P', foldR h k P ((x.b.ws.drop i).zip (y.b.ws.drop i)) = some P' → PairsOk h k P' → Holds o s' ((kp', rowO 4 P'.length (P'.flatMap encPr)) :: C) → WP (K (.exit 4) (sp 143 [(0, ptrN hr.id), (2, ptrN kr.id), (10, rowV kp' P'.length), (13, I i0)]) s') Q) →
    (foldR h k P ((x.b.ws.drop i).zip (y.b.ws.drop i)) = none → ∀ s', Holds o s' C → WP (K .ret (sp 143 [(8, .bool false), (9, I 0)]) s') Q) →
    WP (loop PF (.loop l51_1) (sp 143 [(0, ptrN hr.id), (2, ptrN kr.id), (10, rowV kp P.length), (13, I i0), (18, ptrN tx), (19, ptrN ty), (20, I i)]) s K) Q
  | 0, i, kp, P, s, hi, hP, H, fS, fN => by
    have hlt : ¬ ((i : Int) < (x.b.ws.length : Int)) := by omega
    have fx := H.mem (List.mem_cons_of_mem _ mx)
    simp only [RObj.enc] at fx
    refine wp_round fun LL hLL => ?_
    simp -implicitDefEqProofs only [↓GP, GB, GL, Nat.reduceAdd, Nat.reduceSub, Nat.reduceEqDiff, Nat.reduceMul, Nat.reduceLeDiff, Int.reduceBNe, Int.reduceBEq, Nat.reduceLT, reduceCtorEq, l51_1, fx, hlt]
    exact fS s kp P (by rw [List.drop_eq_nil_of_le (by omega)]; rfl) hP H
  | n + 1, i, kp, P, s, hi, hP, H, fS, fN => by
    have hlt : ((i : Int) < (x.b.ws.length : Int)) := by omega
    have hi' : i < x.b.ws.length := by omega
    have hi2 : i < y.b.ws.length := by omega
    have hw1 := wrap_add1 (a := i) (by omega)
    have hix := fun {kk : IntKind} => ix_cV (gr := x.gr) (sz := 2) (k := x.wid) (n := x.b.ws.length) (i := i) (kk := kk) hi'
    have hix2 := fun {kk : IntKind} => ix_cV (gr := y.gr) (sz := 2) (k := y.wid) (n := y.b.ws.length) (i := i) (kk := kk) hi2
    have fx := H.mem (List.mem_cons_of_mem _ mx)
    have fy := H.mem (List.mem_cons_of_mem _ my)
    have fwx := H.mem (List.mem_cons_of_mem _ mwx)
    have fwy := H.mem (List.mem_cons_of_mem _ mwy)
    simp only [RObj.enc] at fx fy
    have hld := ldN_tab (enc := encW) encW_len x.b.ws (cG x.gr 2) (List.getElem?_eq_getElem hi')
    have hld2 := ldN_tab (enc := encW) encW_len y.b.ws (cG y.gr 2) (List.getElem?_eq_getElem hi2)
    rw [List.drop_eq_getElem_cons hi', List.drop_eq_getElem_cons hi2, List.zip_cons_cons, foldR] at fS fN
    generalize x.b.ws[i] = v at fS fN hld
    generalize y.b.ws[i] = w at fS fN hld2
    simp only at fS fN
    have hpl := hP.a.len
    rw [List.length_map] at hpl
    have hall := T.all
    refine wp_round fun LL hLL => ?_
    simp -implicitDefEqProofs only [↓GP, GB, GL, Nat.reduceAdd, Nat.reduceSub, Nat.reduceEqDiff, Nat.reduceMul, Nat.reduceLeDiff, Int.reduceBNe, Int.reduceBEq, Nat.reduceLT, reduceCtorEq, l51_1, fx, fy, fwx, fwy, hlt, hix, hix2, hld, hld2, encW]
    refine wp_in (s102 (v := v) (w := w) H T.lh T.lk T.sh T.sk T.nh T.nk (by omega) fun s1 kp1 h1 => ?_)
    cases hf : (fitM h k P v w).2 with
    | true =>
      rw [hf, if_pos rfl] at fS fN
      simp -implicitDefEqProofs only [↓GP, GB, GL, Nat.reduceAdd, Nat.reduceSub, Nat.reduceEqDiff, Nat.reduceMul, Nat.reduceLeDiff, Int.reduceBNe, Int.reduceBEq, Nat.reduceLT, reduceCtorEq, hw1]
      rw [hLL]
      exact ral_words T mx my mwx mwy hxm hym hm n (i + 1) kp1 _ s1 (by omega) (hP.fit v w) h1 fS fN
    | false =>
      rw [hf, if_neg (by simp)] at fN
      simp -implicitDefEqProofs only [↓GP, GB, GL, Nat.reduceAdd, Nat.reduceSub, Nat.reduceEqDiff, Nat.reduceMul, Nat.reduceLeDiff, Int.reduceBNe, Int.reduceBEq, Nat.reduceLT, reduceCtorEq]
      exact fN rfl s1 h1.tl
theorem againV_obj (x : RObj) (s : St) : againV (.agg [I x.b.at_, I x.b.kind, cV x.gr x.wid x.b.ws.length]) (.agg [I x.b.at_, I x.b.kind, cV x.gr x.wid x.b.ws.length]) s = some (.any, s) := by
  cases x.gr <;> simp [againV, beqV, beqVs, cV]
theorem ral_outer {h k : PHeap} {hr kr : RHeap} {K : Kt} {R : Bool} (T : RTwo C p q h k hr kr)
    (fT : R = true → ∀ s', Holds o s' C → WP (K (.exit 2) (sp 143 []) s') Q) (fF : R = false → ∀ s', Holds o s' C → WP (K .ret (sp 143 [(8, .bool false), (9, I 0)]) s') Q) :
    ∀ (n i kp : Nat) (P : List (Wd × Wd)) (s : St), (allW h).length + 1 ≤ i + n → PairsOk h k P → loopR h k n i P = R → Holds o s ((kp, rowO 4 P.length (P.flatMap encPr)) :: C) →
    WP (loop PF (.loop l51_2) (sp 143 [(0, ptrN hr.id), (2, ptrN kr.id), (10, rowV kp P.length), (13, I i)]) s K) Q := by
  intro n
  induction n with
  | zero =>
    intro i kp P s hn hP hR H
    have hpl := hP.a.len
    rw [List.length_map] at hpl
    have hlt : ¬ ((i : Int) < (P.length : Int)) := by omega
    refine wp_round fun LL hLL => ?_
    simp -implicitDefEqProofs only [↓GP, GB, GL, Nat.reduceAdd, Nat.reduceSub, Nat.reduceEqDiff, Nat.reduceMul, Nat.reduceLeDiff, Int.reduceBNe, Int.reduceBEq, Nat.reduceLT, reduceCtorEq, l51_2, hlt]
    exact fT hR.symm s H.tl
  | succ n ih =>
    intro i kp P s hn hP hR H
    have hpl := hP.a.len
    rw [List.length_map] at hpl
    have hall := T.all
    by_cases hi : i < P.length
    · have hlt : ((i : Int) < (P.length : Int)) := by omega
      have he := List.getElem?_eq_getElem hi
      unfold loopR at hR
      rw [he] at hR
      simp only at hR
      obtain ⟨d1, d2⟩ := ldPr he
      have m1 : P[i].1 ∈ P.map (·.1) := List.mem_map.2 ⟨_, List.getElem_mem hi, rfl⟩
      have m2 : P[i].2 ∈ P.map (·.2) := List.mem_map.2 ⟨_, List.getElem_mem hi, rfl⟩
      have ht1 := hP.a.there _ m1
      have ht2 := hP.b.there _ m2
      generalize P[i] = e at hR d1 d2 ht1 ht2
      obtain ⟨v, w⟩ := e
      simp only at hR d1 d2 ht1 ht2
      have hw1 := wrap_add1 (a := i) (by omega)
      have hix := ix_row (sz := 4) (k := kp) (n := P.length) (i := i) (kk := .i64) hi
      have mp : (kp, some (O.cells (P.flatMap encPr) (some 4))) ∈ (kp, rowO 4 P.length (P.flatMap encPr)) :: C := by rw [rowO_pos (by omega : 0 < P.length)]; exact List.mem_cons_self ..
      have fp := H.mem mp
      have up : ∀ y ∈ C, y ∈ (kp, rowO 4 P.length (P.flatMap encPr)) :: C := fun y hy => List.mem_cons_of_mem _ hy
      have T1 := T.mono up
      refine wp_round fun LL hLL => ?_
      simp -implicitDefEqProofs only [↓GP, GB, GL, Nat.reduceAdd, Nat.reduceSub, Nat.reduceEqDiff, Nat.reduceMul, Nat.reduceLeDiff, Int.reduceBNe, Int.reduceBEq, Nat.reduceLT, reduceCtorEq, l51_2, hlt, hix, fp, d1, encW]
      refine wp_in (s103 (N := v.1) (L := v.2) H T1.lh.rin T1.lh.len T1.lh.objs fun s1 h1 => ?_)
      rcases find_reg T.sh T.nh v with ⟨-, t1⟩ | ⟨a1, b1, g1, x1, y1, e1, ha1, hb1, -, r1, p1, q1⟩
      · rw [ht1] at t1; cases t1
      rcases find_reg T.sk T.nk w with ⟨-, t2⟩ | ⟨a2, b2, g2, x2, y2, e2, ha2, hb2, -, r2, p2, q2⟩
      · rw [ht2] at t2; cases t2
      rw [e1]
      have fp1 := h1.mem mp
      simp -implicitDefEqProofs only [↓GP, GB, GL, Nat.reduceAdd, Nat.reduceSub, Nat.reduceEqDiff, Nat.reduceMul, Nat.reduceLeDiff, Int.reduceBNe, Int.reduceBEq, Nat.reduceLT, reduceCtorEq, hix, fp1, d2, encW]
      refine wp_in (s103 (N := w.1) (L := w.2) h1 T1.lk.rin T1.lk.len T1.lk.objs fun s2 h2 => ?_)
      rw [e2]
      have mg1 := List.mem_of_getElem? ha1
      have mx1 := List.mem_of_getElem? hb1
      have mg2 := List.mem_of_getElem? ha2
      have mx2 := List.mem_of_getElem? hb2
      have f1 := h2.mem T1.lh.rin.id
      have fr1 := h2.mem T1.lh.rin.row
      have f2 := h2.mem T1.lk.rin.id
      have fr2 := h2.mem T1.lk.rin.row
      simp only [RHeap.hd] at f1 f2
      have mo1 := T1.lh.rin.ob mg1
      have mo2 := T1.lk.rin.ob mg2
      unfold RReg.obO at mo1 mo2
      rw [rowO_pos (List.length_pos_iff.2 (List.ne_nil_of_mem mx1) : 0 < g1.objs.length)] at mo1
      rw [rowO_pos (List.length_pos_iff.2 (List.ne_nil_of_mem mx2) : 0 < g2.objs.length)] at mo2
      have fo1 := h2.mem mo1
      have fo2 := h2.mem mo2
      have ag1 := RHeap.againV hr
      have ag2 := RHeap.againV kr
      have ag3 := againV_obj x2
      have hw1' := T.lh.ws g1 mg1 x1 mx1
      have hw2' := T.lk.ws g2 mg2 x2 mx2
      have hmis : mismK h k v w = (decide (x1.b.kind ≠ x2.b.kind) || decide (x1.b.ws.length ≠ x2.b.ws.length)) := by
        unfold mismK; rw [p1, p2]; simp only [q1, q2]
      rw [hmis] at hR
      have h4 := (((h2.alloc (.cells [I 0, I 0, .slice none 0 (some 0)] none)).alloc (.cells [I 0, I 0, .slice none 0 (some 0)] none)).set1 (.cells x1.enc none)).set0 (.cells x2.enc none)
      simp only [set_next, alloc_next] at h4
      by_cases hk : x1.b.kind = x2.b.kind
      · have hkb : ((x1.b.kind : Int) != (x2.b.kind : Int)) = false := by simp [hk]
        by_cases hln : x1.b.ws.length = x2.b.ws.length
        · have hlb : ((x1.b.ws.length : Int) != (x2.b.ws.length : Int)) = false := by simp [hln]
          rw [if_neg (by simp [hk, hln]), objW_find p1, objW_find p2, q1, q2] at hR
          simp -implicitDefEqProofs only [↓GP, GB, GL, Nat.reduceAdd, Nat.reduceSub, Nat.reduceEqDiff, Nat.reduceMul, Nat.reduceLeDiff, Int.reduceBNe, Int.reduceBEq, Nat.reduceLT, reduceCtorEq, f1, fr1, f2, fr2, rreg ha1, rreg ha2, fo1, fo2, robj hb1, robj hb2, ix_row (List.getElem?_eq_some_iff.1 hb1).1, ix_row (List.getElem?_eq_some_iff.1 hb2).1, RObj.enc, ag1, ag2, ag3, hkb, hlb]
          rw [I0]
          have h5 : Holds o _ ((kp, rowO 4 P.length (P.flatMap encPr)) :: (s2.next + 1, some (O.cells x2.enc none)) :: (s2.next, some (.cells x1.enc none)) :: C) := (Holds.of (h4) (fun k => by simp +arith only [HA, HB]) (fun k x => by simp only [HA, HC]; grind only))
          have up2 : ∀ y ∈ C, y ∈ (s2.next + 1, some (O.cells x2.enc none)) :: (s2.next, some (.cells x1.enc none)) :: C := fun y hy => List.mem_cons_of_mem _ (List.mem_cons_of_mem _ hy)
          refine ral_words (x := x1) (y := x2) (m := x1.b.ws.length) (T.mono up2) (List.mem_cons_of_mem _ (List.mem_cons_self ..)) (List.mem_cons_self ..) (up2 _ (T.lh.rin.w mg1 mx1)) (up2 _ (T.lk.rin.w mg2 mx2)) rfl hln.symm (by omega) x1.b.ws.length 0 kp P _ (by omega) hP h5 (fun s5 kp5 P5 hf5 hP5 h6 => ?_) (fun hf5 s5 h6 => ?_)
          · rw [List.drop_zero, List.drop_zero] at hf5
            rw [hf5] at hR
            simp -implicitDefEqProofs only [↓GP, GB, GL, Nat.reduceAdd, Nat.reduceSub, Nat.reduceEqDiff, Nat.reduceMul, Nat.reduceLeDiff, Int.reduceBNe, Int.reduceBEq, Nat.reduceLT, reduceCtorEq, hw1]
            rw [hLL]
            exact ih (i + 1) kp5 P5 s5 (by omega) hP5 hR (Holds.of (h6) (fun k => by simp +arith only [HA, HB]) (fun k x => by simp only [HA, HC]; grind only))
          · rw [List.drop_zero, List.drop_zero] at hf5
            rw [hf5] at hR
            simp -implicitDefEqProofs only [↓GP, GB, GL, Nat.reduceAdd, Nat.reduceSub, Nat.reduceEqDiff, Nat.reduceMul, Nat.reduceLeDiff, Int.reduceBNe, Int.reduceBEq, Nat.reduceLT, reduceCtorEq]
            exact fF hR.symm s5 h6.tl.tl
        · have hlb : ((x1.b.ws.length : Int) != (x2.b.ws.length : Int)) = true := by simp; omega
          rw [if_pos (by simp [hln])] at hR
          simp -implicitDefEqProofs only [↓GP, GB, GL, Nat.reduceAdd, Nat.reduceSub, Nat.reduceEqDiff, Nat.reduceMul, Nat.reduceLeDiff, Int.reduceBNe, Int.reduceBEq, Nat.reduceLT, reduceCtorEq, f1, fr1, f2, fr2, rreg ha1, rreg ha2, fo1, fo2, robj hb1, robj hb2, ix_row (List.getElem?_eq_some_iff.1 hb1).1, ix_row (List.getElem?_eq_some_iff.1 hb2).1, RObj.enc, ag1, ag2, ag3, hkb, hlb]
          exact fF hR.symm _ h4.tl.tl.tl
      · have hkb : ((x1.b.kind : Int) != (x2.b.kind : Int)) = true := by simp; omega
        rw [if_pos (by simp [hk])] at hR
        simp -implicitDefEqProofs only [↓GP, GB, GL, Nat.reduceAdd, Nat.reduceSub, Nat.reduceEqDiff, Nat.reduceMul, Nat.reduceLeDiff, Int.reduceBNe, Int.reduceBEq, Nat.reduceLT, reduceCtorEq, f1, fr1, f2, fr2, rreg ha1, rreg ha2, fo1, fo2, robj hb1, robj hb2, ix_row (List.getElem?_eq_some_iff.1 hb1).1, ix_row (List.getElem?_eq_some_iff.1 hb2).1, RObj.enc, ag1, ag2, ag3, hkb]
        exact fF hR.symm _ h4.tl.tl.tl
    · have hlt : ¬ ((i : Int) < (P.length : Int)) := by omega
      unfold loopR at hR
      rw [List.getElem?_eq_none (by omega)] at hR
      refine wp_round fun LL hLL => ?_
      simp -implicitDefEqProofs only [↓GP, GB, GL, Nat.reduceAdd, Nat.reduceSub, Nat.reduceEqDiff, Nat.reduceMul, Nat.reduceLeDiff, Int.reduceBNe, Int.reduceBEq, Nat.reduceLT, reduceCtorEq, l51_2, hlt]
      exact fT hR.symm s H.tl
theorem s51 {h k : PHeap} {hr kr : RHeap} {xa xb : Nat} {a b : List Wd} (H : Holds o s C) (T : RTwo C p q h k hr kr) (ma : (xa, rowO 2 a.length (a.flatMap encW)) ∈ C) (mb : (xb, rowO 2 b.length (b.flatMap encW)) ∈ C) (hl : a.length ≤ 1000)
    (f : ∀ s', Holds o s' C → Q (.tuple [.bool (alikeR h k a b), I 0]) s') : WP (call PF 51 [ptrN hr.id, rowV xa a.length, ptrN kr.id, rowV xb b.length] s) Q := by
  have e1 := s101 H T.lh.rin T.lh.ne
  have e2 := s101 H T.lk.rin T.lk.ne
  unfold alikeR at f
  by_cases hab : a.length = b.length
  · have hb : ((a.length : Int) != (b.length : Int)) = false := by simp [hab]
    rw [decide_eq_true hab, Bool.true_and] at f
    rw [call_run F51]; simp -implicitDefEqProofs only [↓GP, GB, GL, Nat.reduceAdd, Nat.reduceSub, Nat.reduceEqDiff, Nat.reduceMul, Nat.reduceLeDiff, Int.reduceBNe, Int.reduceBEq, Nat.reduceLT, reduceCtorEq, c51, e1, e2, hb]
    have h2 : Holds o _ ((0, rowO 4 ([] : List (Wd × Wd)).length (([] : List (Wd × Wd)).flatMap encPr)) :: C) := H.nilEntry 0
    rw [I0, ← hab]
    rw [← hab] at mb
    have hnil : rowV 0 ([] : List (Wd × Wd)).length = .slice none 0 (some 0) := by simp [rowV_z]
    rw [← hnil]
    refine ral_roots (a := a) (b := b) T ma mb hab.symm hl a.length 0 0 [] _ (by omega) (PairsOk.nil h k) h2 (fun s1 kp1 P1 hS1 hP1 h3 => ?_) (fun hS1 s1 h3 => ?_)
    · rw [List.drop_zero, List.drop_zero] at hS1
      rw [hS1] at f
      simp -implicitDefEqProofs only [↓GP, GB, GL, Nat.reduceAdd, Nat.reduceSub, Nat.reduceEqDiff, Nat.reduceMul, Nat.reduceLeDiff, Int.reduceBNe, Int.reduceBEq, Nat.reduceLT, reduceCtorEq, j51_bbbbbbb]
      rw [I0]
      refine ral_outer T (R := loopR h k ((allW h).length + 1) 0 P1) (fun hR s2 h4 => ?_) (fun hR s2 h4 => ?_) ((allW h).length + 1) 0 kp1 P1 s1 (by omega) hP1 rfl h3
      · simp only [hR] at f
        simp -implicitDefEqProofs only [↓GP, GB, GL, Nat.reduceAdd, Nat.reduceSub, Nat.reduceEqDiff, Nat.reduceMul, Nat.reduceLeDiff, Int.reduceBNe, Int.reduceBEq, Nat.reduceLT, reduceCtorEq]
        exact f s2 h4
      · simp only [hR] at f
        simp -implicitDefEqProofs only [↓GP, GB, GL, Nat.reduceAdd, Nat.reduceSub, Nat.reduceEqDiff, Nat.reduceMul, Nat.reduceLeDiff, Int.reduceBNe, Int.reduceBEq, Nat.reduceLT, reduceCtorEq]
        exact f s2 h4
    · rw [List.drop_zero, List.drop_zero] at hS1
      rw [hS1] at f
      simp -implicitDefEqProofs only [↓GP, GB, GL, Nat.reduceAdd, Nat.reduceSub, Nat.reduceEqDiff, Nat.reduceMul, Nat.reduceLeDiff, Int.reduceBNe, Int.reduceBEq, Nat.reduceLT, reduceCtorEq]
      exact f s1 h3
  · have hb : ((a.length : Int) != (b.length : Int)) = true := by simp; omega
    rw [decide_eq_false hab, Bool.false_and] at f
    rw [call_run F51]; simp -implicitDefEqProofs only [↓GP, GB, GL, Nat.reduceAdd, Nat.reduceSub, Nat.reduceEqDiff, Nat.reduceMul, Nat.reduceLeDiff, Int.reduceBNe, Int.reduceBEq, Nat.reduceLT, reduceCtorEq, c51, e1, e2, hb]
    exact f s H
end
end Go.Proofs.Ytoldkemimhebaaa

set_option linter.unusedSimpArgs false
set_option linter.unusedVariables false
namespace Go.Proofs.Ytoldkemimhebaaa
open Go Go.IM
section
variable {o : Nat → Option O} {s : St} {C F : Ch} {Q : V → St → Prop} {p r : Nat} {u : List Bool}
set_option maxRecDepth 10000
set_option maxHeartbeats 4000000
end
end Go.Proofs.Ytoldkemimhebaaa

set_option linter.unusedSimpArgs false
set_option linter.unusedVariables false
namespace Go.Proofs.Ytoldkemimhebaaa
open Go Go.IM
def l54_0 : IC := (.seq (.seq (.seq (.region [oa 37 (.fieldAddr 0 (.t 10)), oa 38 (.load none (.t 37)), oa 39 (.bin .eql (.t 38) (ai 0)), oa 40 (.mov (.t 39)), oc 41 (.mov (.t 11)) 40 tt, oc 42 (.fieldAddr 4 (.t 10)) 40 tt, oc 43 (.load none (.t 42)) 40 tt, oc 44 (.lenSlice (.t 43)) 40 tt, oc 45 (.bin .lss (.t 41) (.t 44)) 40 tt, oa 46 (.pick (.t 40) (.t 45) (.c (.bool false)))] (kp 72 [0,6,8,9,10,11,46]))
  (.cond (.t 46)
  (sk 72 [0,6,8,9,10,11])
  (sx 72 [0,6,8,9] 2)))
  (.seq (.block 3
  (.seq (.region [oa 49 (.mov (.t 6)), oa 50 (.fieldAddr 4 (.t 10)), oa 51 (.load none (.t 50)), oa 52 (.mov (.t 11)), oa 53 (.indexAddr 3 (.t 51) (.t 52)), oa 54 (.fieldAddr 0 (.t 53)), oa 55 (.load none (.t 54)), oa 56 (.fieldAddr 1 (.t 10)), oa 57 (.load none (.t 56)), oa 58 (.build [(.int .i64 (0)), (.int .i64 (0))] [(0, 1, (.t 55)), (1, 1, (.t 57))]), oa 59 (.call 96 [(.t 49), (.t 58)]), oa 60 (.un .not (.t 59))] (kp 72 [0,6,8,9,10,11,60]))
  (.cond (.t 60)
  (.region [oa 61 (.mov (.t 8)), oa 62 (.bin .add (.t 61) (ai 1)), oa 63 (.fieldAddr 4 (.t 10)), oa 64 (.load none (.t 63)), oa 65 (.mov (.t 11)), oa 66 (.indexAddr 3 (.t 64) (.t 65)), oa 67 (.fieldAddr 2 (.t 66)), oa 68 (.load none (.t 67)), oa 69 (.lenSlice (.t 68)), oa 70 (.bin .add (.t 62) (.t 69)), oa 8 (.mov (.t 70))] (kp 72 [0,6,8,9,10,11]))
  (sk 72 [0,6,8,9,10,11]))))
  (.region [oa 47 (.mov (.t 11)), oa 48 (.bin .add (.t 47) (ai 1)), oa 11 (.mov (.t 48))] (kp 72 [0,6,8,9,10,11]))))
  (sk 72 [0,6,8,9,10,11]))
def l54_1 : IC := (.seq (.seq (.seq (.region [oa 21 (.mov (.t 9)), oa 22 (.mov (.t 0)), oa 23 (.nilCheck (.t 22)), oa 24 (.fieldAddr 1 (.t 23)), oa 25 (.load none (.t 24)), oa 26 (.lenSlice (.t 25)), oa 27 (.bin .lss (.t 21) (.t 26))] (kp 72 [0,6,8,9,27]))
  (.cond (.t 27)
  (sk 72 [0,6,8,9])
  (sx 72 [8] 0)))
  (.seq (.block 1
  (.seq (.region [oa 30 (.mov (.t 0)), oa 31 (.nilCheck (.t 30)), oa 32 (.fieldAddr 1 (.t 31)), oa 33 (.load none (.t 32)), oa 34 (.mov (.t 9)), oa 35 (.indexAddr 5 (.t 33) (.t 34)), oa 36 (.load (some 5) (.t 35)), oa 10 (.alloc [(.int .i64 (0)), (.int .i64 (0)), (.slice none 0 (some 0)), (.int .i64 (0)), (.slice none 0 (some 0))]), ob (.store 5 (.t 10) (.t 36))] (kp 72 [0,6,8,9,10]))
  (.seq (.region [oa 11 (.mov (ai 0))] (kp 72 [0,6,8,9,10,11]))
  (.block 2
  (.seq (sk 72 [0,6,8,9,10,11])
  (.loop l54_0))))))
  (.region [oa 28 (.mov (.t 9)), oa 29 (.bin .add (.t 28) (ai 1)), oa 9 (.mov (.t 29))] (kp 72 [0,6,8,9]))))
  (sk 72 [0,6,8,9]))
def j54_bbbbb : IC := (.seq (.region [oa 71 (.mov (.t 8)), oa 4 (.mov (.t 71)), oa 5 (.mov (ai 0))] (kp 72 [4,5]))
  (sr 72 [4,5]))
def c54 : IFn := ⟨72, [(4, none), (5, none)],
  (.seq (.region [oa 4 (.mov (ai 0)), oa 5 (.mov (ai 0))] (kp 72 [0,1]))
  (.seq (.region [oa 13 (.mov (.t 0)), oa 14 (.mov (.t 1)), oa 15 (.call 52 [(.t 13), (.t 14)]), oa 12 (.mov (.t 15)), oa 16 (.extract (.t 12) 0), oa 17 (.extract (.t 12) 1), oa 6 (.mov (.t 16)), oa 7 (.mov (.t 17))] (kp 72 [0,6,7]))
  (.seq (.seq (.region [oa 18 (.mov (.t 7)), oa 19 (.bin .neq (.t 18) (ai 0))] (kp 72 [0,6,7,19]))
  (.cond (.t 19)
  (.seq (.region [oa 20 (.mov (.t 7)), oa 4 (.mov (ai 0)), oa 5 (.mov (.t 20))] (kp 72 [4,5]))
  (sr 72 [4,5]))
  (sk 72 [0,6])))
  (.seq (.region [oa 8 (.mov (ai 0))] (kp 72 [0,6,8]))
  (.seq (.seq (.region [oa 9 (.mov (ai 0))] (kp 72 [0,6,8,9]))
  (.block 0
  (.seq (sk 72 [0,6,8,9])
  (.loop l54_1))))
  j54_bbbbb)))))⟩
section
variable {o : Nat → Option O} {s : St} {C F : Ch} {Q : V → St → Prop} {p q r : Nat} {u : List Bool}
set_option maxRecDepth 10000
set_option maxHeartbeats 4000000
end
end Go.Proofs.Ytoldkemimhebaaa

set_option linter.unusedSimpArgs false
set_option linter.unusedVariables false
namespace Go.Proofs.Ytoldkemimhebaaa
open Go Go.IM
def pgM (L : List (Int × Int)) (g : Reg) : Nat := if 0 < g.pages.length then (((keptM L g).map fun x => x.ws.length + 1).foldl step (0, 0)).1 else 0
theorem layM_pagesLen {life : Nat} {ns : List Nat} {u : List Bool} {fill : Nat} {pages : List Nat} {r : List Nat × List Bool × Nat × List Nat} (h : layM 0 life ns u fill pages = some r) (hc : (ns.foldl step (pages.length, fill)).1 ≤ pages.length + u.count false) :
    r.2.2.2.length = (ns.foldl step (pages.length, fill)).1 := by
  obtain ⟨r', h1, h2⟩ := layM_some (life := life) ns u fill pages hc
  rw [h] at h1
  cases h1
  exact h2
theorem kept_le {L : List (Int × Int)} {g : Reg} (hi : RInv g) (hs : g.size = 0) : (((keptM L g).map fun x => x.ws.length + 1).foldl step (0, 0)).1 ≤ g.pages.length := by
  have hf := (hi.inf hs).fold
  have hsub : ((keptM L g).map fun x => x.ws.length + 1).Sublist ((g.objs.map fun x => (x.at_, x.ws.length + 1)).map (·.2)) := by
    simp only [List.map_map]
    exact (List.filter_sublist (l := g.objs)).map _
  have hle := fold_sub hsub (Le2.refl (0, 0))
  rw [hf] at hle
  unfold Le2 at hle
  omega
theorem col_pages {L : List (Int × Int)} {lv : Nat} : ∀ {B A : List Reg} {S : ColS}, ColInv L lv A B S → S.regs.map (·.pages.length) = A.map (pgM L) → (B.foldl (colStep L) S).regs.map (·.pages.length) = (A ++ B).map (pgM L)
  | [], A, S, _, e => by simpa using e
  | g :: B, A, S, h, e => by
    have hI := h.ok.inv
    have hri := hI.reg g (by simp)
    have key : (colStep L S g).regs.map (·.pages.length) = (A ++ [g]).map (pgM L) := by
      unfold colStep
      by_cases hp : 0 < g.pages.length
      · rw [if_pos hp]
        have hs : g.size = 0 := by
          rcases Nat.eq_zero_or_pos g.size with h | h
          · exact h
          · have := (hri.fin h).1; rw [this] at hp; simp at hp
        obtain ⟨ats, u', fill', pages', hlay, _⟩ := h.ok.turn hs (ys := keptM L g) (List.filter_sublist ..)
        have hfr : PoolInv (freeP S.u g.pages) (S.regs.flatMap (·.pages) ++ B.flatMap (·.pages)) := by
          have := h.ok.pool
          have h2 : PoolInv S.u (g.pages ++ (S.regs.flatMap (·.pages) ++ B.flatMap (·.pages))) := by
            refine this.perm ?_
            simp only [List.flatMap_append, List.flatMap_cons]
            exact (List.perm_append_comm_assoc _ _ _).symm
          exact h2.free
        have hp1 : PoolInv S.u (g.pages ++ (S.regs.flatMap (·.pages) ++ B.flatMap (·.pages))) := by
          have := h.ok.pool
          refine this.perm ?_
          simp only [List.flatMap_append, List.flatMap_cons]
          exact (List.perm_append_comm_assoc _ _ _).symm
        have hcnt : g.pages.length ≤ (freeP S.u g.pages).count false := by
          have c1 := hfr.count
          have c2 := count_both (freeP S.u g.pages)
          have c3 := hp1.len
          rw [freeP_len] at c2
          rw [List.length_append] at c3
          omega
        have hlen := layM_pagesLen hlay (by have := kept_le (L := L) hri hs; simp only [List.length_nil]; omega)
        rw [hlay]
        simp only [List.map_append, e, List.map_cons, List.map_nil]
        congr 2
        unfold pgM
        rw [if_pos hp]
        exact hlen
      · rw [if_neg hp]
        simp only [List.map_append, e, List.map_cons, List.map_nil]
        congr 2
        unfold pgM
        rw [if_neg hp]; omega
    have := col_pages (h.step) key
    rw [List.append_assoc] at this
    exact this
theorem fix_shape (mv : ToF) (fx : List (Int × Int)) : ∀ (Os : List (Int × Int)) (rs : List Reg), (Os.foldl (fixM mv fx) rs).map shapeR = rs.map shapeR
  | [], _ => rfl
  | w :: Os, rs => by
    rw [List.foldl_cons, fix_shape mv fx Os]
    exact setM_shape w (map_len _) rs
theorem shape_pages {rs rs' : List Reg} (e : rs'.map shapeR = rs.map shapeR) : rs'.map (·.pages.length) = rs.map (·.pages.length) := by
  have := congrArg (List.map fun t : Nat × Nat × Nat × List Nat × List (Nat × Nat × Nat) => t.2.2.2.1.length) e
  simpa [List.map_map, Function.comp_def, shapeR] using this
theorem shape_lives {rs rs' : List Reg} (e : rs'.map shapeR = rs.map shapeR) : rs'.map (·.life) = rs.map (·.life) := by
  have := congrArg (List.map fun t : Nat × Nat × Nat × List Nat × List (Nat × Nat × Nat) => t.2.1) e
  simpa [List.map_map, Function.comp_def, shapeR] using this
theorem collected {L : List (Int × Int)} {lv : Nat} {u : List Bool} {rs : List Reg} (h : RsOk lv u rs) : (colRegs L (colAll L u rs)).map (·.pages.length) = rs.map (pgM L) ∧ (colRegs L (colAll L u rs)).map (·.life) = rs.map (·.life) := by
  have hs := fix_shape (colAll L u rs).mv (colAll L u rs).fx (colObjs L (colAll L u rs)) (colAll L u rs).regs
  have hI := (ColInv.start (L := L) h)
  exact ⟨(shape_pages hs).trans (by have := col_pages hI rfl; rw [List.nil_append] at this; exact this), (shape_lives hs).trans (by have := hI.all.lives; rw [List.nil_append] at this; exact this)⟩
end Go.Proofs.Ytoldkemimhebaaa

set_option linter.unusedSimpArgs false
set_option linter.unusedVariables false
namespace Go.Proofs.Ytoldkemimhebaaa
open Go Go.IM Go.ChangeShapes Go.WideShapes Go.RowKit
section
variable {H : Type} {enc : TypeId × Value → H} {W : Go.World}
set_option maxRecDepth 10000
theorem ofVals_map : ∀ l : List Value, ofVals l = l.map ofVal
  | [] => rfl
  | v :: l => by rw [ofVals, ofVals_map l]; rfl
theorem rd {base n : Nat} {a : Addr} {cs : List Value} (hn : 0 < n) (h : W.cells? base a n = some cs) : a.spot = none ∧ ∃ C, (oldSt W).old a.block = some (.cells C none) ∧ cut C a.off n = some (ofVals cs) := by
  obtain ⟨_, hlen, hc⟩ := Go.World.cells?_some h
  have h0 := hc 0 hn
  rw [show a.add 0 = a from rfl, List.getElem?_eq_getElem (by omega)] at h0
  unfold Go.World.cell? at h0
  split at h0
  · rename_i c el fr hb
    split at h0
    · cases h0
    · rename_i hs
      refine ⟨by simpa using hs, ofVals c.toList, by simp [oldSt, hb], ?_⟩
      have hget : ∀ i, i < n → c[a.off + i]? = cs[i]? := by
        intro i hi
        have := hc i hi
        rw [← this]
        unfold Go.World.cell? Addr.add
        by_cases h0 : i = 0
        · subst h0; simp [hb, hs]
        · simp [h0, hb]
      have hsz : a.off + n ≤ c.size := by
        have := hget (n - 1) (by omega)
        rw [List.getElem?_eq_getElem (by omega)] at this
        have := (Array.getElem?_eq_some_iff.1 this).1
        omega
      rw [ofVals_map, ofVals_map]
      unfold cut
      rw [if_pos (by simp; exact hsz)]
      congr 1
      apply List.ext_getElem?
      intro i
      by_cases hi : i < n
      · rw [List.getElem?_take, if_pos hi, List.getElem?_drop, List.getElem?_map, List.getElem?_map, Array.getElem?_toList, hget i hi]
      · rw [List.getElem?_eq_none (by simp; omega), List.getElem?_eq_none (by simp; omega)]
  · cases h0
theorem cut_get {l cs : List V} {off n : Nat} (h : cut l off n = some cs) {i : Nat} (hi : i < n) : l[off + i]? = cs[i]? := by
  unfold cut at h
  split at h
  · cases h
    rw [List.getElem?_take, if_pos hi, List.getElem?_drop]
  · cases h
theorem old_load {o : Nat → Option O} {s : St} {b off n : Nat} {C cs : List V} {g : Option Nat} (hs : s.old = o) (hb : o b = some (.cells C g)) (hc : cut C off n = some cs) : loadV (some n) (.ptr (some ⟨.old b, off⟩)) s = some (.agg cs) := by
  rw [loadV_ptr]
  show (readCells s ⟨.old b, off⟩ n).bind (packI (some n)) = _
  simp only [readCells, St.row, St.get, hs, hb, hc]
  rfl
theorem old_load1 {o : Nat → Option O} {s : St} {b off : Nat} {C : List V} {g : Option Nat} {v : V} (hs : s.old = o) (hb : o b = some (.cells C g)) (hc : C[off]? = some v) : loadV none (.ptr (some ⟨.old b, off⟩)) s = some v := by
  rw [loadV_ptr]
  show (readCells s ⟨.old b, off⟩ 1).bind (packI none) = _
  simp only [readCells, St.row, St.get, hs, hb]
  rw [cut_one', hc]
theorem ix_old {sz len cap i : Nat} {b off : Nat} {kk : IntKind} (h : i < len) : ixV sz (.slice (some ⟨.old b, off⟩) len (some cap)) (.int kk (i : Int)) = some (.ptr (some ⟨.old b, off + i * sz⟩)) := by
  rw [ixV_int (by omega) (by omega)]
  simp
theorem ofVal_slice {a : Addr} {len cap : Nat} (hl : len ≤ cap) (hsp : 0 < cap → a.spot = none) : ofVal (.slice (some a) len cap) = .slice (some ⟨.old a.block, a.off⟩) len (some cap) := by
  obtain ⟨b, off, sp⟩ := a
  cases sp with
  | none => simp [ofVal, hl]
  | some x =>
    have hc : cap = 0 := by
      rcases Nat.eq_zero_or_pos cap with h | h
      · exact h
      · have := hsp h; simp at this
    subst hc
    have : len = 0 := by omega
    subst this
    rfl
theorem someAt_of {fuel : Nat} {cs : List Value} {x : DataW H × List MemPlace} (h : DataW.trod enc Try.prog W 0 (fun _ => true) true fuel 48 cs = some x) :
    ∃ sa sn sc bs, ofVals cs = [.slice sa sn sc] ∧ ∀ y : ActG, y.sa = sa → y.sn = sn → y.sc = sc → SomeAt (oldSt W).old y bs := by
  rcases Go.Deep.open_bools (P := Try.prog) (t := 48) (e := 4) (by kernel_rfl) (by kernel_rfl) (by kernel_rfl) h with ⟨rfl, _⟩ | ⟨a, len, cap, B, rfl, hb, hl, hm, _, hB⟩
  · exact ⟨none, 0, some 0, [], rfl, fun y _ e _ => ⟨by rw [e]; rfl, fun i hi => by simp at hi⟩⟩
  · have hsp : 0 < cap → a.spot = none := by
      intro hc
      have := hB 0 hc
      rw [show a.add 0 = a from rfl] at this
      unfold Go.World.cell? at this
      split at this
      · split at this
        · cases this
        · rename_i h; simpa using h
      · cases this
    refine ⟨some ⟨.old a.block, a.off⟩, len, some cap, (List.range len).map B, by rw [ofVals, ofVal_slice hl hsp]; rfl, fun y e1 e2 e3 => ⟨by rw [e2]; simp, fun i hi => ?_⟩⟩
    simp at hi
    have hi' : i < y.sn := by omega
    rw [e1, e2, e3]
    refine ⟨⟨.old a.block, a.off + i * 1⟩, ix_old (by omega), fun s hs => ?_⟩
    have hc := hB i (by omega)
    unfold Go.World.cell? at hc
    split at hc
    · rename_i c el fr hbk
      split at hc
      · cases hc
      · have hbk' : W.heap[a.block]? = some (.cells c el fr) := by
          have : (a.add i).block = a.block := by unfold Addr.add; split <;> rfl
          rw [this] at hbk; exact hbk
        have hoff : (a.add i).off = a.off + i := by unfold Addr.add; split <;> simp_all
        rw [hoff] at hc
        refine old_load1 (C := ofVals c.toList) (g := none) hs (by simp [oldSt, hbk']) ?_
        rw [Nat.mul_one, ofVals_map, List.getElem?_map, Array.getElem?_toList, hc]
        simp [ofVal]
    · cases hc
theorem fields_of {fuel T : Nat} {cs : List Value} {x : DataW H × List MemPlace} {L : List (Nat × Nat)} (hL : (match Try.prog.underlying T with | some (.struct fs) => some (fs.toList.map fun f => (f.type, f.offset)) | _ => none) = some L)
    (h : DataW.trod enc Try.prog W 0 (fun _ => true) true fuel T cs = some x) : cs.length = Try.prog.cellsOf T ∧ ∃ n, ∀ (i T' off : Nat), L[i]? = some (T', off) → ∃ y, DataW.trod enc Try.prog W 0 (fun _ => true) true n T' ((cs.drop off).take (Try.prog.cellsOf T')) = some y := by
  split at hL
  · rename_i fs hu
    cases hL
    obtain ⟨xs, n, _, _, hlen, hxl, hf⟩ := DataW.trod_struct hu h
    refine ⟨hlen, n, fun i T' off hi => ?_⟩
    rw [List.getElem?_map] at hi
    cases hfi : fs.toList[i]? with
    | none => rw [hfi] at hi; cases hi
    | some f =>
      rw [hfi] at hi
      simp only [Option.map_some, Option.some.injEq, Prod.mk.injEq] at hi
      obtain ⟨rfl, rfl⟩ := hi
      have hfs : fs[i]? = some f := by rw [← Array.getElem?_toList]; exact hfi
      have := hf i f hfs
      have hix : i < xs.length := by rw [hxl]; exact (Array.getElem?_eq_some_iff.1 hfs).1
      rw [List.getElem?_eq_getElem hix] at this
      exact ⟨_, this⟩
  · cases hL
theorem u5 : Try.prog.underlying 5 = some (.int .u8) := by kernel_rfl
theorem u3 : Try.prog.underlying 3 = some (.int .i64) := by kernel_rfl
theorem word_of {fuel : Nat} {cs : List Value} {x : DataW H × List MemPlace} (h : DataW.trod enc Try.prog W 0 (fun _ => true) true fuel 47 cs = some x) : ∃ a b : Int, cs = [.int .i64 a, .int .i64 b] := by
  obtain ⟨hlen, n, hf⟩ := fields_of (L := [(3, 0), (3, 1)]) (by kernel_rfl) h
  rw [show Try.prog.cellsOf 47 = 2 by kernel_rfl] at hlen
  have c3 : Try.prog.cellsOf 3 = 1 := by kernel_rfl
  match cs, hlen with
  | [v0, v1], _ =>
    obtain ⟨y0, h0⟩ := hf 0 3 0 rfl
    obtain ⟨y1, h1⟩ := hf 1 3 1 rfl
    rw [c3] at h0 h1
    obtain ⟨a, e0, _⟩ := DataW.trod_int u3 h0
    obtain ⟨b, e1, _⟩ := DataW.trod_int u3 h1
    simp at e0 e1
    exact ⟨a, b, by rw [e0, e1]⟩
theorem act_of {fuel : Nat} {cs : List Value} {x : DataW H × List MemPlace} (h : DataW.trod enc Try.prog W 0 (fun _ => true) true fuel 50 cs = some x) :
    ∃ (y : ActG) (bs : List Bool), ofVals cs = y.cells ∧ SomeAt (oldSt W).old y bs ∧ (0 ≤ y.d ∧ y.d < 256 ∧ 0 ≤ y.hn ∧ y.hn < 256) := by
  obtain ⟨hlen, n, hf⟩ := fields_of (L := [(5, 0), (5, 1), (3, 2), (3, 3), (3, 4), (3, 5), (47, 6), (47, 8), (48, 10)]) (by kernel_rfl) h
  rw [show Try.prog.cellsOf 50 = 11 by kernel_rfl] at hlen
  have c3 : Try.prog.cellsOf 3 = 1 := by kernel_rfl
  have c5 : Try.prog.cellsOf 5 = 1 := by kernel_rfl
  have c47 : Try.prog.cellsOf 47 = 2 := by kernel_rfl
  have c48 : Try.prog.cellsOf 48 = 1 := by kernel_rfl
  match cs, hlen with
  | [v0, v1, v2, v3, v4, v5, v6, v7, v8, v9, v10], _ =>
    obtain ⟨y0, h0⟩ := hf 0 5 0 rfl
    obtain ⟨y1, h1⟩ := hf 1 5 1 rfl
    obtain ⟨y2, h2⟩ := hf 2 3 2 rfl
    obtain ⟨y3, h3⟩ := hf 3 3 3 rfl
    obtain ⟨y4, h4⟩ := hf 4 3 4 rfl
    obtain ⟨y5, h5⟩ := hf 5 3 5 rfl
    obtain ⟨y6, h6⟩ := hf 6 47 6 rfl
    obtain ⟨y7, h7⟩ := hf 7 47 8 rfl
    obtain ⟨y8, h8⟩ := hf 8 48 10 rfl
    rw [c5] at h0 h1
    rw [c3] at h2 h3 h4 h5
    rw [c47] at h6 h7
    rw [c48] at h8
    obtain ⟨d, e0, _, w0⟩ := DataW.trod_int u5 h0
    obtain ⟨hn, e1, _, w1⟩ := DataW.trod_int u5 h1
    obtain ⟨a, e2, _⟩ := DataW.trod_int u3 h2
    obtain ⟨b, e3, _⟩ := DataW.trod_int u3 h3
    obtain ⟨c, e4, _⟩ := DataW.trod_int u3 h4
    obtain ⟨wh, e5, _⟩ := DataW.trod_int u3 h5
    obtain ⟨w1', w2', e6⟩ := word_of h6
    obtain ⟨z1, z2, e7⟩ := word_of h7
    obtain ⟨sa, sn, sc, bs, e8, hS⟩ := someAt_of h8
    simp only [List.drop_zero, List.drop_succ_cons, List.take_succ_cons, List.take_zero, List.cons.injEq, and_true] at e0 e1 e2 e3 e4 e5 e6 e7 e8
    obtain ⟨rfl, rfl⟩ := e6
    obtain ⟨rfl, rfl⟩ := e7
    subst e0 e1 e2 e3 e4 e5
    refine ⟨⟨d, hn, a, b, c, wh, (w1', w2'), (z1, z2), sa, sn, sc⟩, bs, ?_, hS _ rfl rfl rfl, ?_⟩
    · simp only [ofVals, List.cons.injEq, and_true] at e8
      simp only [ofVals, e8]
      rfl
    · have m : ∀ n : Int, (Lit.int .u8 n).wf = true → 0 ≤ n ∧ n < 256 := by
        intro n hw
        simp only [Lit.wf, Bool.and_eq_true, decide_eq_true_eq] at hw
        have e1 : IntKind.u8.min = 0 := by decide
        have e2 : IntKind.u8.max = 255 := by decide
        rw [e1, e2] at hw
        omega
      have := m d w0
      have := m hn w1
      simp only; omega
instance : Inhabited (ActG × List Bool) := ⟨⟨⟨0, 0, 0, 0, 0, 0, (0, 0), (0, 0), none, 0, none⟩, []⟩⟩
theorem acts_of {fuel : Nat} {v : Value} {x : DataW H × List MemPlace} (hw : ∀ es sp, x.1 = .slice es sp → es.length < 2 ^ 61) (h : DataW.trod enc Try.prog W 0 (fun _ => true) true fuel 35 [v] = some x) : ∃ l : List (ActG × List Bool), ActsAt (oldSt W).old (ofVal v) l ∧ l.length < 2 ^ 61 := by
  rcases Go.Deep.open_slice (P := Try.prog) (t := 35) (e := 50) (by kernel_rfl) h with ⟨e, _⟩ | ⟨a, len, cap, m, n, D, Pl, e, hb, hl, hm, hmm, hxe, hx⟩
  · cases e
    exact ⟨[], ⟨rfl, fun i hi => by simp at hi, fun x hx => (by cases hx), fun x hx => (by cases hx)⟩, by simp⟩
  · cases e
    have c50 : Try.prog.cellsOf 50 = 11 := by kernel_rfl
    rw [c50] at hx
    have hm' : m = cap := by simpa using hmm
    have hsp : 0 < cap → a.spot = none := fun hc => by
      obtain ⟨cs, h1, _⟩ := hx 0 (by omega)
      exact (rd (by omega) h1).1
    have each : ∀ i, i < len → ∃ (y : ActG) (bs : List Bool), (∃ C, (oldSt W).old a.block = some (.cells C none) ∧ cut C (a.off + i * 11) 11 = some y.cells) ∧ SomeAt (oldSt W).old y bs ∧ (0 ≤ y.d ∧ y.d < 256 ∧ 0 ≤ y.hn ∧ y.hn < 256) := by
      intro i hi
      obtain ⟨cs, h1, h2⟩ := hx i (by omega)
      obtain ⟨y, bs, e1, e2, e3⟩ := act_of h2
      obtain ⟨_, C, k1, k2⟩ := rd (by omega) h1
      rw [e1] at k2
      have b1 : (a.add (i * 11)).block = a.block := by unfold Addr.add; split <;> rfl
      have b2 : (a.add (i * 11)).off = a.off + i * 11 := by unfold Addr.add; split <;> simp_all
      rw [b1] at k1
      rw [b2] at k2
      exact ⟨y, bs, ⟨C, k1, k2⟩, e2, e3⟩
    obtain ⟨f, hf⟩ := Go.Deep.choose_lt (α := ActG × List Bool) (p := fun i q => (∃ C, (oldSt W).old a.block = some (.cells C none) ∧ cut C (a.off + i * 11) 11 = some q.1.cells) ∧ SomeAt (oldSt W).old q.1 q.2 ∧ (0 ≤ q.1.d ∧ q.1.d < 256 ∧ 0 ≤ q.1.hn ∧ q.1.hn < 256)) (fun i hi => by
      obtain ⟨y, bs, h⟩ := each i hi
      exact ⟨(y, bs), h⟩)
    refine ⟨(List.range len).map f, ⟨?_, fun i hi => ?_, ?_, ?_⟩, ?_⟩
    · rw [ofVal_slice hl hsp, lenV_slice]; simp
    · simp at hi
      obtain ⟨⟨C, k1, k2⟩, _⟩ := hf i hi
      rw [ofVal_slice hl hsp]
      refine ⟨⟨.old a.block, a.off + i * 11⟩, ix_old hi, fun s hs => ?_⟩
      simp only [List.getElem_map, List.getElem_range]
      refine ⟨old_load hs k1 k2, old_load1 hs k1 ?_⟩
      rw [show a.off + i * 11 + 10 = (a.off + i * 11) + 10 from rfl, cut_get k2 (by omega)]
      rfl
    · intro x hx
      obtain ⟨i, hi, rfl⟩ := List.mem_map.1 hx
      exact (hf i (List.mem_range.1 hi)).2.1
    · intro x hx
      obtain ⟨i, hi, rfl⟩ := List.mem_map.1 hx
      exact (hf i (List.mem_range.1 hi)).2.2
    · have := hw _ _ (by rw [hxe])
      simpa using this
end
open Go.ChangeAt
theorem Try.own' : ownKnob Try.prog.godebug = none := by kernel_rfl
theorem Try.laidOut' : laidOutB Try.prog = true := by kernel_rfl
theorem Try.mixed' : Try.prog.follows .mixedOrders = true := by kernel_rfl
theorem sized_acts {H : Type} {ts : List TypeId} {ds : List (DataW H)} (h : (DataW.weightsEach Try.prog ts ds).all (· ≤ reachBytes) = true) {j : Nat} (ht : ts[j]? = some 35) {d : DataW H} (hd : ds[j]? = some d) :
    ∀ es sp, d = .slice es sp → es.length < 2 ^ 61 := by
  intro es sp e
  subst e
  have h1 := sized_slice (e := 50) h ht hd (by kernel_rfl)
  have hb : (decide (0 < Try.prog.bytesOf 50)) = true := by kernel_rfl
  have hb' : 0 < Try.prog.bytesOf 50 := of_decide_eq_true hb
  have h2 : es.length ≤ (es.length + sp.length) * Try.prog.bytesOf 50 := Nat.le_trans (Nat.le_add_right _ _) (Nat.le_mul_of_pos_right _ hb')
  have h3 : reachBytes < 2 ^ 61 := by decide
  omega
end Go.Proofs.Ytoldkemimhebaaa

set_option linter.unusedSimpArgs false
set_option linter.unusedVariables false
namespace Go.Proofs.Ytoldkemimhebaaa
open Go Go.IM
section
variable {o : Nat → Option O} {s : St} {C F : Ch} {Q : V → St → Prop} {p r q t : Nat} {u : List Bool} {others : List Nat} {G : PairG}
set_option maxRecDepth 10000
set_option maxHeartbeats 4000000
end
end Go.Proofs.Ytoldkemimhebaaa

set_option linter.unusedSimpArgs false
set_option linter.unusedVariables false
namespace Go.Proofs.Ytoldkemimhebaaa
open Go Go.IM
section
variable {o : Nat → Option O} {s : St} {C F : Ch} {Q : V → St → Prop} {p q r t : Nat} {u : List Bool} {G : PairG}
set_option maxRecDepth 10000
set_option maxHeartbeats 4000000
theorem PairOk.collected (h : PairOk u [] G) {L : List (Int × Int)} {hp' : PHeap} {D : List RReg} (d2 : hp'.lives = G.hp.lives) (d4 : hp'.regs.map PReg.m = colRegs L (colAll L u (G.hp.regs.map PReg.m))) (hR : RsOk G.hp.lives (colAll L u (G.hp.regs.map PReg.m)).u (hp'.regs.map PReg.m)) (hok : ∀ g ∈ hp'.regs, g.ok)
    (hD : D.map RReg.m = colRegs L (colAll L u (G.hp.regs.map PReg.m))) (hz : ∀ g ∈ D, g.pages.length = 0 → g.pgk = 0) (hl : hp'.regs.length = G.hp.regs.length) :
    PairOk (colAll L u (G.hp.regs.map PReg.m)).u [] { G with hp := hp', hr := { G.hr with regs := D } } where
  ulen := hR.ulen
  lives := by rw [d2]; exact h.lives
  same := by rw [d4, hD]
  inv := by rw [show ({ G with hp := hp', hr := { G.hr with regs := D } } : PairG).hp.lives = hp'.lives from rfl, d2]; exact hR.inv
  pool := by rw [List.append_nil]; exact hR.pool
  pok := hok
  grown := h.grown
  pz := hz
  one := fun e => by
    have h1 := h.one e
    have h2 := congrArg List.length (d4.trans hD.symm)
    simp only [List.length_map] at h2
    show D.length = 1
    have h3 := h.len
    omega
end
end Go.Proofs.Ytoldkemimhebaaa

set_option linter.unusedSimpArgs false
set_option linter.unusedVariables false
namespace Go.Proofs.Ytoldkemimhebaaa
open Go Go.IM
section
variable {o : Nat → Option O} {s : St} {C F : Ch} {Q : V → St → Prop} {p q r t : Nat} {u : List Bool} {G : PairG}
set_option maxRecDepth 10000
set_option maxHeartbeats 4000000
end
end Go.Proofs.Ytoldkemimhebaaa

set_option linter.unusedSimpArgs false
set_option linter.unusedVariables false
namespace Go.Proofs.Ytoldkemimhebaaa
open Go Go.IM
def c12 : IFn := ⟨122, [(2, none)],
  (.seq (.region [oa 1 (.box (.t 0)), oa 2 (.mov (.c (.bool false)))] (kp 122 [1]))
  (.seq (.region [oa 17 (.fieldAddr 0 (.t 1)), oa 18 (.load none (.t 17)), oa 19 (.fieldAddr 1 (.t 1)), oa 20 (.load none (.t 19)), oa 21 (.fieldAddr 2 (.t 1)), oa 22 (.load none (.t 21)), oa 23 (.fieldAddr 3 (.t 1)), oa 24 (.load none (.t 23)), oa 3 (.mov (.t 18)), oa 4 (.mov (.t 20)), oa 5 (.mov (.t 22)), oa 6 (.mov (.t 24))] (kp 122 [3,4,5,6]))
  (.seq (.seq (.region [oa 25 (.mov (.t 3)), oa 26 (.mov (.t 5)), oa 27 (.call 40 [(.t 25), (.t 26), (.c (.slice none 0 (some 0)))]), oa 28 (.mov (.t 27)), oc 29 (.mov (.t 4)) 28 ff, oc 30 (.mov (.t 6)) 28 ff, oc 31 (.call 40 [(.t 29), (.t 30), (.c (.slice none 0 (some 0)))]) 28 ff, oa 32 (.pick (.t 28) (.c (.bool true)) (.t 31))] (kp 122 [3,4,5,6,32]))
  (.cond (.t 32)
  (.seq (.region [oa 33 (.call 41 []), oa 2 (.mov (.t 33))] (kp 122 [2]))
  (sr 122 [2]))
  (sk 122 [3,4,5,6])))
  (.seq (.region [oa 35 (.mov (.t 3)), oa 36 (.call 42 [(.t 35)]), oa 34 (.mov (.t 36)), oa 37 (.extract (.t 34) 0), oa 38 (.extract (.t 34) 1), oa 7 (.mov (.t 37)), oa 8 (.mov (.t 38))] (kp 122 [4,5,6,7,8]))
  (.seq (.region [oa 40 (.mov (.t 4)), oa 41 (.call 42 [(.t 40)]), oa 39 (.mov (.t 41)), oa 42 (.extract (.t 39) 0), oa 43 (.extract (.t 39) 1), oa 9 (.mov (.t 42)), oa 10 (.mov (.t 43))] (kp 122 [5,6,7,8,9,10]))
  (.seq (.seq (.region [oa 44 (.mov (.t 8)), oa 45 (.un .not (.t 44)), oa 46 (.mov (.t 45)), oc 47 (.mov (.t 10)) 46 ff, oc 48 (.un .not (.t 47)) 46 ff, oa 49 (.pick (.t 46) (.c (.bool true)) (.t 48))] (kp 122 [5,6,7,9,49]))
  (.cond (.t 49)
  (.seq (.region [oa 2 (.mov (.c (.bool false)))] (kp 122 [2]))
  (sr 122 [2]))
  (sk 122 [5,6,7,9])))
  (.seq (.region [oa 51 (.mov (.t 7)), oa 52 (.nilCheck (.t 51)), oa 53 (.fieldAddr 0 (.t 52)), oa 54 (.load none (.t 53)), oa 55 (.mov (.t 7)), oa 56 (.mov (.t 5)), oa 58 (.mov (.t 9)), oa 59 (.nilCheck (.t 58)), oa 60 (.fieldAddr 0 (.t 59)), oa 61 (.load none (.t 60)), oa 62 (.mov (.t 9)), oa 63 (.mov (.t 6)), oa 57 (.call 43 [(.t 55), (.t 56), (.c (.slice none 0 (some 0)))]), ob (.again 54 (.load none (.t 53))), ob (.again 61 (.load none (.t 60))), oa 64 (.call 43 [(.t 62), (.t 63), (.c (.slice none 0 (some 0)))]), ob (.again 54 (.load none (.t 53))), ob (.again 61 (.load none (.t 60))), oa 65 (.call 50 [(.t 54), (.t 57), (.t 61), (.t 64)]), oa 50 (.mov (.t 65)), oa 66 (.extract (.t 50) 0), oa 67 (.extract (.t 50) 1), oa 11 (.mov (.t 66)), oa 12 (.mov (.t 67))] (kp 122 [5,6,7,9,11,12]))
  (.seq (.region [oa 69 (.mov (.t 7)), oa 70 (.nilCheck (.t 69)), oa 71 (.fieldAddr 1 (.t 70)), oa 72 (.load none (.t 71)), oa 73 (.mov (.t 7)), oa 74 (.mov (.t 5)), oa 76 (.mov (.t 9)), oa 77 (.nilCheck (.t 76)), oa 78 (.fieldAddr 1 (.t 77)), oa 79 (.load none (.t 78)), oa 80 (.mov (.t 9)), oa 81 (.mov (.t 6)), oa 75 (.call 43 [(.t 73), (.t 74), (.c (.slice none 0 (some 0)))]), ob (.again 72 (.load none (.t 71))), ob (.again 79 (.load none (.t 78))), oa 82 (.call 43 [(.t 80), (.t 81), (.c (.slice none 0 (some 0)))]), ob (.again 72 (.load none (.t 71))), ob (.again 79 (.load none (.t 78))), oa 83 (.call 51 [(.t 72), (.t 75), (.t 79), (.t 82)]), oa 68 (.mov (.t 83)), oa 84 (.extract (.t 68) 0), oa 85 (.extract (.t 68) 1), oa 13 (.mov (.t 84)), oa 14 (.mov (.t 85))] (kp 122 [5,7,11,12,13,14]))
  (.seq (.region [oa 87 (.mov (.t 7)), oa 88 (.nilCheck (.t 87)), oa 89 (.fieldAddr 0 (.t 88)), oa 90 (.load none (.t 89)), oa 91 (.mov (.t 7)), oa 92 (.mov (.t 5)), oa 94 (.mov (.t 7)), oa 95 (.nilCheck (.t 94)), oa 96 (.fieldAddr 0 (.t 95)), oa 97 (.load none (.t 96)), oa 98 (.mov (.t 7)), oa 99 (.mov (.t 5)), oa 93 (.call 43 [(.t 91), (.t 92), (.c (.slice none 0 (some 0)))]), ob (.again 90 (.load none (.t 89))), ob (.again 97 (.load none (.t 96))), oa 100 (.call 43 [(.t 98), (.t 99), (.c (.slice none 0 (some 0)))]), ob (.again 90 (.load none (.t 89))), ob (.again 97 (.load none (.t 96))), oa 101 (.call 50 [(.t 90), (.t 93), (.t 97), (.t 100)]), oa 86 (.mov (.t 101)), oa 102 (.extract (.t 86) 0), oa 103 (.extract (.t 86) 1), oa 15 (.mov (.t 102)), oa 16 (.mov (.t 103))] (kp 122 [11,12,13,14,15,16]))
  (.seq (.region [oa 104 (.mov (.t 11)), oa 105 (.mov (.t 13)), oa 106 (.eql false (.key (.one .b)) (.t 104) (.t 105)), oa 107 (.mov (.t 106)), oc 108 (.mov (.t 12)) 107 tt, oc 109 (.mov (.t 14)) 107 tt, oc 110 (.bin .eql (.t 108) (.t 109)) 107 tt, oa 111 (.pick (.t 107) (.t 110) (.c (.bool false))), oa 112 (.mov (.t 111)), oc 113 (.mov (.t 15)) 112 tt, oa 114 (.pick (.t 112) (.t 113) (.c (.bool false))), oa 115 (.mov (.t 114)), oc 116 (.mov (.t 16)) 115 tt, oc 117 (.bin .eql (.t 116) (ai 0)) 115 tt, oa 118 (.pick (.t 115) (.t 117) (.c (.bool false))), oa 119 (.mov (.t 118)), oc 120 (.call 41 []) 119 tt, oa 121 (.pick (.t 119) (.t 120) (.c (.bool false))), oa 2 (.mov (.t 121))] (kp 122 [2]))
  (sr 122 [2])))))))))))⟩
theorem F12 : shutF Try.prog 12 = some c12 := by kernel_rfl
theorem fit_diag {h : PHeap} {P : List (Wd × Wd)} (hd : ∀ e ∈ P, e.1 = e.2) (v : Wd) : (fitM h h P v v).2 = true ∧ ∀ e ∈ (fitM h h P v v).1, e.1 = e.2 := by
  unfold fitM
  split
  · split
    · rename_i e he
      have h1 := hd e (List.mem_of_find?_eq_some he)
      have h2 := List.find?_some he
      rw [← h1, Bool.or_self] at h2
      refine ⟨?_, hd⟩
      rw [← h1, Bool.and_self]; exact h2
    · refine ⟨by simp, fun e he => ?_⟩
      rcases List.mem_append.1 he with he | he
      · exact hd e he
      · simp at he; subst he; rfl
  · rename_i hth
    refine ⟨?_, hd⟩
    have : thereB h v = false := by simpa using hth
    simp [this]
theorem fold_diag {h : PHeap} : ∀ (l : List Wd) {P : List (Wd × Wd)}, (∀ e ∈ P, e.1 = e.2) → PairsOk h h P → ∃ P', foldR h h P (l.zip l) = some P' ∧ (∀ e ∈ P', e.1 = e.2) ∧ PairsOk h h P'
  | [], P, hd, hP => ⟨P, rfl, hd, hP⟩
  | v :: l, P, hd, hP => by
    obtain ⟨h1, h2⟩ := fit_diag (h := h) hd v
    rw [List.zip_cons_cons, foldR, if_pos h1]
    exact fold_diag l h2 (hP.fit v v)
theorem loop_diag {h : PHeap} : ∀ (n i : Nat) {P : List (Wd × Wd)}, (∀ e ∈ P, e.1 = e.2) → PairsOk h h P → loopR h h n i P = true
  | 0, _, _, _, _ => rfl
  | n + 1, i, P, hd, hP => by
    unfold loopR
    split
    · rfl
    · rename_i e he
      have hm := List.mem_of_getElem? he
      have h1 := hd e hm
      have ht := hP.a.there _ (List.mem_map.2 ⟨e, hm, rfl⟩)
      obtain ⟨_, x, hx⟩ := there_find ht
      have hmis : mismK h h e.1 e.2 = false := by
        unfold mismK; rw [← h1, hx]; simp
      rw [hmis, if_neg (by simp), ← h1]
      obtain ⟨P', k1, k2, k3⟩ := fold_diag (objW h e.1) hd hP
      rw [k1]
      exact loop_diag n (i + 1) k2 k3
theorem alikeR_self (h : PHeap) (a : List Wd) : alikeR h h a a = true := by
  unfold alikeR
  obtain ⟨P', k1, k2, k3⟩ := fold_diag (h := h) a (P := []) (by simp) (PairsOk.nil h h)
  rw [k1, decide_eq_true rfl]
  exact loop_diag _ _ k2 k3
theorem one_len {v n : V} (h : lenV v = some n) : v.one = true := by cases v <;> first | rfl | (simp [lenV] at h)
section
variable {o : Nat → Option O} {s : St} {C F : Ch} {Q : V → St → Prop}
set_option maxRecDepth 10000
set_option maxHeartbeats 8000000
theorem collectAlikes_im {v1 v2 v3 v4 : V} {l1 l2 : List (ActG × List Bool)} {i1 i2 : List Int} (hA1 : ActsAt o v1 l1) (hl1 : l1.length < 2 ^ 61) (hA2 : ActsAt o v2 l2) (hl2 : l2.length < 2 ^ 61) (hI1 : OldI o v3 i1) (hI2 : OldI o v4 i2) (s : St) (hs : s.old = o) : ∃ st, call PF 12 [.agg [v1, v2, v3, v4]] s = some (.bool true, st) := by
  refine im_trueC ?_
  have hB := (H0c hs).alloc (.cells [v1, v2, v3, v4] none)
  have hs' : (s.alloc (.cells [v1, v2, v3, v4] none)).old = o := hs
  have fb := hB.mem (List.mem_cons_self ..)
  have o1 := one_len hA1.len
  have o2 := one_len hA2.len
  have o3 := one_len hI1.len
  have o4 := one_len hI2.len
  have e1 := s40 hs' hA1 hl1 hI1.len (oldW_nil (o := o)).len
  have e2 := s40 hs' hA2 hl2 hI2.len (oldW_nil (o := o)).len
  obtain ⟨t, ht, -⟩ := sane16 (s.alloc (.cells [v1, v2, v3, v4] none))
  rw [List.length_nil] at e1 e2
  cases hg1 : longR l1 i1.length 0 with
  | true =>
    rw [hg1] at e1
    rw [call_run F12]; simp -implicitDefEqProofs only [↓GP, GB, GL, Nat.reduceAdd, Nat.reduceSub, Nat.reduceEqDiff, Nat.reduceMul, Nat.reduceLeDiff, Int.reduceBNe, Int.reduceBEq, Nat.reduceLT, reduceCtorEq, c12, o1, o2, o3, o4, fb, e1, ht]
  | false =>
    rw [hg1] at e1
    cases hg2 : longR l2 i2.length 0 with
    | true =>
      rw [hg2] at e2
      rw [call_run F12]; simp -implicitDefEqProofs only [↓GP, GB, GL, Nat.reduceAdd, Nat.reduceSub, Nat.reduceEqDiff, Nat.reduceMul, Nat.reduceLeDiff, Int.reduceBNe, Int.reduceBEq, Nat.reduceLT, reduceCtorEq, c12, o1, o2, o3, o4, fb, e1, e2, ht]
    | false =>
      rw [hg2] at e2
      obtain ⟨hlb1, hil1, -⟩ := longR_false hg1
      obtain ⟨hlb2, hil2, -⟩ := longR_false hg2
      have hn1 := longB_lenC hlb1
      have hn2 := longB_lenC hlb2
      rw [call_run F12]; simp -implicitDefEqProofs only [↓GP, GB, GL, Nat.reduceAdd, Nat.reduceSub, Nat.reduceEqDiff, Nat.reduceMul, Nat.reduceLeDiff, Int.reduceBNe, Int.reduceBEq, Nat.reduceLT, reduceCtorEq, c12, o1, o2, o3, o4, fb, e1, e2]
      refine wp_in (s42 hA1 hn1 hB.tl fun sa p r q t u G ok hul hlv hws ha => ?_)
      simp -implicitDefEqProofs only [↓GP, GB, GL, Nat.reduceAdd, Nat.reduceSub, Nat.reduceEqDiff, Nat.reduceMul, Nat.reduceLeDiff, Int.reduceBNe, Int.reduceBEq, Nat.reduceLT, reduceCtorEq]
      refine wp_in (s42 hA2 hn2 ha fun sb p' r' q' t' u' G' ok' hul' hlv' hws' hb => ?_)
      simp -implicitDefEqProofs only [↓GP, GB, GL, Nat.reduceAdd, Nat.reduceSub, Nat.reduceEqDiff, Nat.reduceMul, Nat.reduceLeDiff, Int.reduceBNe, Int.reduceBEq, Nat.reduceLT, reduceCtorEq]
      have hR := ok.rs
      have hR' := ok'.rs
      obtain ⟨hall, hlen⟩ := hR.all hlv
      obtain ⟨hall', hlen'⟩ := hR'.all hlv'
      have nd : (G.hp.regs.map (·.life)).Nodup := by have := hR.inv.nodup; rw [List.map_map] at this; exact this
      have nd' : (G'.hp.regs.map (·.life)).Nodup := by have := hR'.inv.nodup; rw [List.map_map] at this; exact this
      have hRr : RsOk G.hp.lives u (G.hr.regs.map RReg.m) := by rw [← ok.same]; exact hR
      have hRr' : RsOk G'.hp.lives u' (G'.hr.regs.map RReg.m) := by rw [← ok'.same]; exact hR'
      have lk1 : ∀ {D : Ch}, (∀ y ∈ World p' r' q' t' u' G' (World p r q t u G []), y ∈ D) → Look D p G.hp := fun hD => hR.look ok.pok fun y hy => hD y (World.fr (World.in_.sub y hy))
      have lk2 : ∀ {D : Ch}, (∀ y ∈ World p' r' q' t' u' G' (World p r q t u G []), y ∈ D) → Look D p' G'.hp := fun hD => hR'.look ok'.pok fun y hy => hD y (World.in_.sub y hy)
      have rk1 : ∀ {D : Ch}, (∀ y ∈ World p' r' q' t' u' G' (World p r q t u G []), y ∈ D) → RLook D q G.hr := fun hD => hRr.rlook fun y hy => hD y (World.fr (World.rin.sub y hy))
      have rk2 : ∀ {D : Ch}, (∀ y ∈ World p' r' q' t' u' G' (World p r q t u G []), y ∈ D) → RLook D q' G'.hr := fun hD => hRr'.rlook fun y hy => hD y (World.rin.sub y hy)
      have T0 : ∀ {D : Ch}, (∀ y ∈ World p' r' q' t' u' G' (World p r q t u G []), y ∈ D) → RTwo D q q' G.hp G'.hp G.hr G'.hr := fun hD => ⟨rk1 hD, rk2 hD, ok.same, ok'.same, nd, nd', hall⟩
      have hrl1 : (pickL G.ws i1 ++ []).length ≤ 60 := by
        have : (pickL G.ws i1).length ≤ 40 := by unfold pickL; exact Nat.le_trans (List.length_filterMap_le ..) hil1
        simp; omega
      have hrl2 : (pickL G'.ws i2 ++ []).length ≤ 60 := by
        have : (pickL G'.ws i2).length ≤ 40 := by unfold pickL; exact Nat.le_trans (List.length_filterMap_le ..) hil2
        simp; omega
      generalize er1 : pickL G.ws i1 ++ [] = ra at hrl1
      generalize er2 : pickL G'.ws i2 ++ [] = rb at hrl2
      have fG0a := hb.mem (World.fr World.id)
      have fH0a := hb.mem (World.id)
      simp only [PairG.hd] at fG0a fH0a
      simp -implicitDefEqProofs only [↓GP, GB, GL, Nat.reduceAdd, Nat.reduceSub, Nat.reduceEqDiff, Nat.reduceMul, Nat.reduceLeDiff, Int.reduceBNe, Int.reduceBEq, Nat.reduceLT, reduceCtorEq, fG0a, fH0a]
      refine wp_in (s43 hI1 hil1 (oldW_nil (o := o)) (by simp) (by omega) (World.fr World.id) (World.fr World.wk) hb fun s0a k0a h0a => ?_)
      rw [er1] at h0a ⊢
      have fG0b := h0a.mem (List.mem_cons_of_mem _ (World.fr World.id))
      have fH0b := h0a.mem (List.mem_cons_of_mem _ (World.id))
      simp only [PairG.hd] at fG0b fH0b
      simp -implicitDefEqProofs only [↓GP, GB, GL, Nat.reduceAdd, Nat.reduceSub, Nat.reduceEqDiff, Nat.reduceMul, Nat.reduceLeDiff, Int.reduceBNe, Int.reduceBEq, Nat.reduceLT, reduceCtorEq, fG0b, fH0b]
      refine wp_in (s43 hI2 hil2 (oldW_nil (o := o)) (by simp) (by omega) (List.mem_cons_of_mem _ (World.id)) (List.mem_cons_of_mem _ (World.wk)) h0a fun s0b k0b h0b => ?_)
      rw [er2] at h0b ⊢
      have fG0c := h0b.mem (List.mem_cons_of_mem _ (List.mem_cons_of_mem _ (World.fr World.id)))
      have fH0c := h0b.mem (List.mem_cons_of_mem _ (List.mem_cons_of_mem _ (World.id)))
      simp only [PairG.hd] at fG0c fH0c
      simp -implicitDefEqProofs only [↓GP, GB, GL, Nat.reduceAdd, Nat.reduceSub, Nat.reduceEqDiff, Nat.reduceMul, Nat.reduceLeDiff, Int.reduceBNe, Int.reduceBEq, Nat.reduceLT, reduceCtorEq, fG0c, fH0c]
      refine wp_in (s50 h0b (lk1 (fun y hy => List.mem_cons_of_mem _ (List.mem_cons_of_mem _ hy))) (lk2 (fun y hy => List.mem_cons_of_mem _ (List.mem_cons_of_mem _ hy))) hall (List.mem_cons_of_mem _ (List.mem_cons_self ..)) (List.mem_cons_self ..) (by omega) fun s0d h0d => ?_)
      have h0e := h0d.tl.tl
      have fG1a := h0e.mem (World.fr World.id)
      have fH1a := h0e.mem (World.id)
      simp only [PairG.hd] at fG1a fH1a
      simp -implicitDefEqProofs only [↓GP, GB, GL, Nat.reduceAdd, Nat.reduceSub, Nat.reduceEqDiff, Nat.reduceMul, Nat.reduceLeDiff, Int.reduceBNe, Int.reduceBEq, Nat.reduceLT, reduceCtorEq, fG1a, fH1a]
      refine wp_in (s43 hI1 hil1 (oldW_nil (o := o)) (by simp) (by omega) (World.fr World.id) (World.fr World.wk) h0e fun s1a k1a h1a => ?_)
      rw [er1] at h1a ⊢
      have fG1b := h1a.mem (List.mem_cons_of_mem _ (World.fr World.id))
      have fH1b := h1a.mem (List.mem_cons_of_mem _ (World.id))
      simp only [PairG.hd] at fG1b fH1b
      simp -implicitDefEqProofs only [↓GP, GB, GL, Nat.reduceAdd, Nat.reduceSub, Nat.reduceEqDiff, Nat.reduceMul, Nat.reduceLeDiff, Int.reduceBNe, Int.reduceBEq, Nat.reduceLT, reduceCtorEq, fG1b, fH1b]
      refine wp_in (s43 hI2 hil2 (oldW_nil (o := o)) (by simp) (by omega) (List.mem_cons_of_mem _ (World.id)) (List.mem_cons_of_mem _ (World.wk)) h1a fun s1b k1b h1b => ?_)
      rw [er2] at h1b ⊢
      have fG1c := h1b.mem (List.mem_cons_of_mem _ (List.mem_cons_of_mem _ (World.fr World.id)))
      have fH1c := h1b.mem (List.mem_cons_of_mem _ (List.mem_cons_of_mem _ (World.id)))
      simp only [PairG.hd] at fG1c fH1c
      simp -implicitDefEqProofs only [↓GP, GB, GL, Nat.reduceAdd, Nat.reduceSub, Nat.reduceEqDiff, Nat.reduceMul, Nat.reduceLeDiff, Int.reduceBNe, Int.reduceBEq, Nat.reduceLT, reduceCtorEq, fG1c, fH1c]
      refine wp_in (s51 h1b (T0 (fun y hy => List.mem_cons_of_mem _ (List.mem_cons_of_mem _ hy))) (List.mem_cons_of_mem _ (List.mem_cons_self ..)) (List.mem_cons_self ..) (by omega) fun s1d h1d => ?_)
      have h1e := h1d.tl.tl
      have fG2a := h1e.mem (World.fr World.id)
      have fH2a := h1e.mem (World.id)
      simp only [PairG.hd] at fG2a fH2a
      simp -implicitDefEqProofs only [↓GP, GB, GL, Nat.reduceAdd, Nat.reduceSub, Nat.reduceEqDiff, Nat.reduceMul, Nat.reduceLeDiff, Int.reduceBNe, Int.reduceBEq, Nat.reduceLT, reduceCtorEq, fG2a, fH2a]
      refine wp_in (s43 hI1 hil1 (oldW_nil (o := o)) (by simp) (by omega) (World.fr World.id) (World.fr World.wk) h1e fun s2a k2a h2a => ?_)
      rw [er1] at h2a ⊢
      have fG2b := h2a.mem (List.mem_cons_of_mem _ (World.fr World.id))
      have fH2b := h2a.mem (List.mem_cons_of_mem _ (World.id))
      simp only [PairG.hd] at fG2b fH2b
      simp -implicitDefEqProofs only [↓GP, GB, GL, Nat.reduceAdd, Nat.reduceSub, Nat.reduceEqDiff, Nat.reduceMul, Nat.reduceLeDiff, Int.reduceBNe, Int.reduceBEq, Nat.reduceLT, reduceCtorEq, fG2b, fH2b]
      refine wp_in (s43 hI1 hil1 (oldW_nil (o := o)) (by simp) (by omega) (List.mem_cons_of_mem _ (World.fr World.id)) (List.mem_cons_of_mem _ (World.fr World.wk)) h2a fun s2b k2b h2b => ?_)
      rw [er1] at h2b ⊢
      have fG2c := h2b.mem (List.mem_cons_of_mem _ (List.mem_cons_of_mem _ (World.fr World.id)))
      have fH2c := h2b.mem (List.mem_cons_of_mem _ (List.mem_cons_of_mem _ (World.id)))
      simp only [PairG.hd] at fG2c fH2c
      simp -implicitDefEqProofs only [↓GP, GB, GL, Nat.reduceAdd, Nat.reduceSub, Nat.reduceEqDiff, Nat.reduceMul, Nat.reduceLeDiff, Int.reduceBNe, Int.reduceBEq, Nat.reduceLT, reduceCtorEq, fG2c, fH2c]
      refine wp_in (s50 h2b (lk1 (fun y hy => List.mem_cons_of_mem _ (List.mem_cons_of_mem _ hy))) (lk1 (fun y hy => List.mem_cons_of_mem _ (List.mem_cons_of_mem _ hy))) hall (List.mem_cons_of_mem _ (List.mem_cons_self ..)) (List.mem_cons_self ..) (by omega) fun s2d h2d => ?_)
      have h2e := h2d.tl.tl
      have bb : ∀ a : Bool, eqI (.key (.one .b)) (.bool a) (.bool a) = some true := fun a => by cases a <;> simp [eqI, keyEq, cellEq]
      obtain ⟨t2, ht2, -⟩ := sane16 s2d
      rw [alike_same G.hp G.hp, alikeR_self, alike_same]
      simp -implicitDefEqProofs only [↓GP, GB, GL, Nat.reduceAdd, Nat.reduceSub, Nat.reduceEqDiff, Nat.reduceMul, Nat.reduceLeDiff, Int.reduceBNe, Int.reduceBEq, Nat.reduceLT, reduceCtorEq, bb, ht2]
end
end Go.Proofs.Ytoldkemimhebaaa

set_option linter.unusedSimpArgs false
set_option linter.unusedVariables false
namespace Go.IM
open Go.ChangeShapes Go.WideShapes Go.RowKit
inductive D where
  | lit (v : V)
  | agg (ds : List D)
  | sl (sz : Nat) (es : List D)
  deriving Inhabited
mutual
inductive Rep (o : Nat → Option O) : D → List V → Prop
  | lit (v : V) : Rep o (.lit v) [v]
  | agg {ds : List D} {cs : List V} : Reps o ds cs → Rep o (.agg ds) cs
  | nil {sz : Nat} {a : Option Ad} {c : Option Nat} : Rep o (.sl sz []) [.slice a 0 c]
  | sl {sz b off cap : Nat} {d : D} {es : List D} {C : List V} : o b = some (.cells C none) → RepE o C sz off (d :: es) → Rep o (.sl sz (d :: es)) [.slice (some ⟨.old b, off⟩) (d :: es).length (some cap)]
inductive Reps (o : Nat → Option O) : List D → List V → Prop
  | nil : Reps o [] []
  | cons {d : D} {ds : List D} {c cs : List V} : Rep o d c → Reps o ds cs → Reps o (d :: ds) (c ++ cs)
inductive RepE (o : Nat → Option O) : List V → Nat → Nat → List D → Prop
  | nil {C : List V} {sz off : Nat} : RepE o C sz off []
  | cons {C : List V} {sz off : Nat} {d : D} {ds : List D} {c : List V} : cut C off sz = some c → Rep o d c → RepE o C sz (off + sz) ds → RepE o C sz off (d :: ds)
end

mutual
inductive HasTy (P : Program) : TypeId → D → Prop
  | bool {t : TypeId} {b : Bool} : P.underlying t = some .bool → HasTy P t (.lit (.bool b))
  | int {t : TypeId} {k : IntKind} {n : Int} : P.underlying t = some (.int k) → (Lit.int k n).wf = true → HasTy P t (.lit (.int k n))
  | str {t : TypeId} {s : ByteArray} : P.underlying t = some .string → s.size ≤ maxLen → HasTy P t (.lit (.str s))
  | sl {t e : TypeId} {es : List D} : P.underlying t = some (.slice e) → es.length ≤ maxLen → (∀ d ∈ es, HasTy P e d) → HasTy P t (.sl (P.cellsOf e) es)
  | agg {t : TypeId} {fs : Array Field} {ds : List D} : P.underlying t = some (.struct fs) → HasTys P fs.toList ds → HasTy P t (.agg ds)
inductive HasTys (P : Program) : List Field → List D → Prop
  | nil : HasTys P [] []
  | cons {f : Field} {fs : List Field} {d : D} {ds : List D} : HasTy P f.type d → HasTys P fs ds → HasTys P (f :: fs) (d :: ds)
end

def tileB (P : Program) (total : Nat) : Nat → List Field → Bool
  | off, [] => off == total
  | off, f :: fs => f.offset == off && tileB P total (off + P.cellsOf f.type) fs
def tyOk (P : Program) (Ts : List TypeId) : Bool := Ts.all fun t => match P.underlying t with
  | some .bool | some (.int _) | some .string => true
  | some (.slice e) => Ts.contains e && decide (0 < P.cellsOf e)
  | some (.struct fs) => fs.toList.all (fun f => Ts.contains f.type) && tileB P (P.cellsOf t) 0 fs.toList
  | _ => false
theorem ofVals_map : ∀ l : List Value, ofVals l = l.map ofVal
  | [] => rfl
  | v :: l => by rw [ofVals, ofVals_map l]; rfl
theorem ofVals_append (l m : List Value) : ofVals (l ++ m) = ofVals l ++ ofVals m := by rw [ofVals_map, ofVals_map, ofVals_map, List.map_append]
section
variable {H : Type} {enc : TypeId × Value → H} {W : Go.World} {P : Program}
theorem rd {base n : Nat} {a : Addr} {cs : List Value} (hn : 0 < n) (h : W.cells? base a n = some cs) : a.spot = none ∧ ∃ C, (oldSt W).old a.block = some (.cells C none) ∧ cut C a.off n = some (ofVals cs) := by
  obtain ⟨_, hlen, hc⟩ := Go.World.cells?_some h
  have h0 := hc 0 hn
  rw [show a.add 0 = a from rfl, List.getElem?_eq_getElem (by omega)] at h0
  unfold Go.World.cell? at h0
  split at h0
  · rename_i c el fr hb
    split at h0
    · cases h0
    · rename_i hs
      refine ⟨by simpa using hs, ofVals c.toList, by simp [oldSt, hb], ?_⟩
      have hget : ∀ i, i < n → c[a.off + i]? = cs[i]? := by
        intro i hi
        have := hc i hi
        rw [← this]
        unfold Go.World.cell? Addr.add
        by_cases h0 : i = 0
        · subst h0; simp [hb, hs]
        · simp [h0, hb]
      have hsz : a.off + n ≤ c.size := by
        have := hget (n - 1) (by omega)
        rw [List.getElem?_eq_getElem (by omega)] at this
        have := (Array.getElem?_eq_some_iff.1 this).1
        omega
      rw [ofVals_map, ofVals_map]
      unfold cut
      rw [if_pos (by simp; exact hsz)]
      congr 1
      apply List.ext_getElem?
      intro i
      by_cases hi : i < n
      · rw [List.getElem?_take, if_pos hi, List.getElem?_drop, List.getElem?_map, List.getElem?_map, Array.getElem?_toList, hget i hi]
      · rw [List.getElem?_eq_none (by simp; omega), List.getElem?_eq_none (by simp; omega)]
  · cases h0
theorem ofVal_slice {a : Addr} {len cap : Nat} (hl : len ≤ cap) (hsp : 0 < cap → a.spot = none) : ofVal (.slice (some a) len cap) = .slice (some ⟨.old a.block, a.off⟩) len (some cap) := by
  obtain ⟨b, off, sp⟩ := a
  cases sp with
  | none => simp [ofVal, hl]
  | some x =>
    have hc : cap = 0 := by
      rcases Nat.eq_zero_or_pos cap with h | h
      · exact h
      · have := hsp h; simp at this
    subst hc
    have : len = 0 := by omega
    subst this
    rfl
theorem add_block (a : Addr) (i : Nat) : (a.add i).block = a.block := by unfold Addr.add; split <;> rfl
theorem add_off (a : Addr) (i : Nat) : (a.add i).off = a.off + i := by unfold Addr.add; split <;> simp_all
theorem rep_of {Ts : List TypeId} (hT : tyOk P Ts = true) : ∀ (fuel : Nat) (t : TypeId) (cs : List Value) (x : DataW H × List MemPlace), t ∈ Ts → DataW.trod enc P W 0 (fun _ => true) true fuel t cs = some x →
    ∃ d, HasTy P t d ∧ Rep (oldSt W).old d (ofVals cs) := by
  intro fuel
  induction fuel using Nat.strongRecOn with
  | _ fuel ih =>
    intro t cs x ht h
    have hk := List.all_eq_true.1 hT t ht
    split at hk
    · rename_i hu
      obtain ⟨b, rfl, _⟩ := DataW.trod_bool hu h
      exact ⟨_, .bool hu, .lit _⟩
    · rename_i k hu
      obtain ⟨n, rfl, _, hw⟩ := DataW.trod_int hu h
      exact ⟨_, .int hu hw, .lit _⟩
    · rename_i hu
      obtain ⟨s, rfl, _, hs⟩ := DataW.trod_string hu h
      exact ⟨_, .str hu hs, .lit _⟩
    · rename_i e hu
      rw [Bool.and_eq_true, List.contains_eq_mem, decide_eq_true_eq, decide_eq_true_eq] at hk
      obtain ⟨he, h0⟩ := hk
      rcases DataW.trod_slice hu h with ⟨rfl, _⟩ | ⟨a, len, cap, elems, rest, n, rfl, rfl, _, hb, hl, hm, hlen, hel, hsp, _⟩
      · exact ⟨.sl _ [], .sl hu (by simp [maxLen]) (fun d hd => by cases hd), .nil⟩
      · have hspot : 0 < cap → a.spot = none := fun hc => by
          have hx : ∃ y, (W.cells? 0 a (P.cellsOf e)).bind (DataW.trod enc P W 0 (fun _ => true) true n e) = some y := by
            rcases Nat.eq_zero_or_pos len with h1 | h1
            · obtain ⟨q1, q2⟩ := hsp rfl
              have := q2 0 (by omega)
              rw [h1, show ((0 + 0) * P.cellsOf e) = 0 by simp, show a.add 0 = a from rfl, List.getElem?_eq_getElem (by omega)] at this
              exact ⟨_, this⟩
            · have := hel 0 h1
              rw [show (0 * P.cellsOf e) = 0 by simp, show a.add 0 = a from rfl, List.getElem?_eq_getElem (by omega)] at this
              exact ⟨_, this⟩
          obtain ⟨y, hy⟩ := hx
          rw [Option.bind_eq_some_iff] at hy
          obtain ⟨c, hc, _⟩ := hy
          exact (rd h0 hc).1
        have each : ∀ i, i < len → ∃ d c, HasTy P e d ∧ Rep (oldSt W).old d c ∧ ∃ C, (oldSt W).old a.block = some (.cells C none) ∧ cut C (a.off + i * P.cellsOf e) (P.cellsOf e) = some c := by
          intro i hi
          have := hel i hi
          rw [List.getElem?_eq_getElem (by omega), Option.bind_eq_some_iff] at this
          obtain ⟨c, h1, h2⟩ := this
          obtain ⟨d, k1, k2⟩ := ih n (by omega) e c _ he h2
          obtain ⟨_, C, k3, k4⟩ := rd h0 h1
          rw [add_block] at k3
          rw [add_off] at k4
          exact ⟨d, _, k1, k2, C, k3, k4⟩
        have all : ∀ m i, i + m = len → ∀ C, (oldSt W).old a.block = some (.cells C none) → ∃ es, es.length = m ∧ (∀ d ∈ es, HasTy P e d) ∧ RepE (oldSt W).old C (P.cellsOf e) (a.off + i * P.cellsOf e) es := by
          intro m
          induction m with
          | zero => exact fun i _ C _ => ⟨[], rfl, (fun d hd => by cases hd), .nil⟩
          | succ m ihm =>
            intro i hi C hC
            obtain ⟨d, c, k1, k2, C', k3, k4⟩ := each i (by omega)
            rw [hC] at k3; cases k3
            obtain ⟨es, q1, q2, q3⟩ := ihm (i + 1) (by omega) C hC
            refine ⟨d :: es, by simp [q1], fun d' hd' => ?_, .cons k4 k2 ?_⟩
            · rcases List.mem_cons.1 hd' with rfl | hd'
              · exact k1
              · exact q2 _ hd'
            · rw [Nat.add_mul, Nat.one_mul, ← Nat.add_assoc] at q3; exact q3
        rw [show ofVals [Value.slice (some a) len cap] = [ofVal (.slice (some a) len cap)] from rfl, ofVal_slice hl hspot]
        rcases Nat.eq_zero_or_pos len with h1 | h1
        · subst h1
          exact ⟨.sl _ [], .sl hu (by simp [maxLen]) (fun d hd => by cases hd), .nil⟩
        · obtain ⟨_, _, _, _, C, hC, _⟩ := each 0 h1
          obtain ⟨es, q1, q2, q3⟩ := all len 0 (by omega) C hC
          rw [Nat.zero_mul, Nat.add_zero] at q3
          match es, q1 with
          | [], q1 => simp at q1; omega
          | d :: es, q1 =>
            refine ⟨.sl _ (d :: es), .sl hu (by omega) q2, ?_⟩
            rw [← q1]
            exact .sl hC q3
    · rename_i fs hu
      rw [Bool.and_eq_true] at hk
      obtain ⟨hm, htile⟩ := hk
      obtain ⟨xs, n, rfl, _, hlen, hxl, hf⟩ := DataW.trod_struct hu h
      have each : ∀ f ∈ fs.toList, ∃ d, HasTy P f.type d ∧ Rep (oldSt W).old d (ofVals ((cs.drop f.offset).take (P.cellsOf f.type))) := by
        intro f hfm
        obtain ⟨i, hi, rfl⟩ := List.mem_iff_getElem.1 hfm
        have hi' : i < fs.size := by simpa using hi
        have := hf i fs[i] (by simp [hi'])
        rw [List.getElem?_eq_getElem (by omega)] at this
        have hmem := List.all_eq_true.1 hm _ (List.getElem_mem hi)
        rw [List.contains_eq_mem, decide_eq_true_eq] at hmem
        simp only [Array.getElem_toList] at hmem ⊢
        exact ih n (by omega) _ _ _ hmem this
      have go : ∀ (l : List Field) (off : Nat), (∀ f ∈ l, f ∈ fs.toList) → tileB P (P.cellsOf t) off l = true → off ≤ cs.length → ∃ ds, HasTys P l ds ∧ Reps (oldSt W).old ds (ofVals (cs.drop off)) := by
        intro l
        induction l with
        | nil =>
          intro off _ h1 _
          have : off = P.cellsOf t := by simpa [tileB] using h1
          exact ⟨[], .nil, by rw [List.drop_eq_nil_of_le (by omega)]; exact .nil⟩
        | cons f l ihl =>
          intro off h0 h1 h2
          simp only [tileB, Bool.and_eq_true, beq_iff_eq] at h1
          obtain ⟨d, k1, k2⟩ := each f (h0 f (List.mem_cons_self ..))
          have le : ∀ (l : List Field) (off : Nat), tileB P (P.cellsOf t) off l = true → off ≤ P.cellsOf t := by
            intro l
            induction l with
            | nil => intro off h; have : off = P.cellsOf t := by simpa [tileB] using h
                     omega
            | cons f l ihl => intro off h; simp only [tileB, Bool.and_eq_true, beq_iff_eq] at h; have := ihl _ h.2; omega
          obtain ⟨ds, q1, q2⟩ := ihl (off + P.cellsOf f.type) (fun g hg => h0 g (List.mem_cons_of_mem _ hg)) h1.2 (by rw [hlen]; exact le _ _ h1.2)
          refine ⟨d :: ds, .cons k1 q1, ?_⟩
          rw [h1.1] at k2
          have e : cs.drop off = (cs.drop off).take (P.cellsOf f.type) ++ cs.drop (off + P.cellsOf f.type) := by
            rw [← List.drop_drop, List.take_append_drop]
          rw [e, ofVals_append]
          exact .cons k2 q2
      obtain ⟨ds, q1, q2⟩ := go fs.toList 0 (fun _ h => h) htile (by omega)
      exact ⟨.agg ds, .agg hu q1, .agg (by rw [List.drop_zero] at q2; exact q2)⟩
    · cases hk
end
def litEq : V → V → Bool
  | .bool a, .bool b => a == b
  | .int _ a, .int _ b => a == b
  | .str a, .str b => a.toList == b.toList
  | _, _ => false
mutual
def beqD : D → D → Bool
  | .lit a, .lit b => litEq a b
  | .agg a, .agg b => beqDs a b
  | .sl _ a, .sl _ b => beqDs a b
  | _, _ => false
def beqDs : List D → List D → Bool
  | [], [] => true
  | x :: xs, y :: ys => beqD x y && beqDs xs ys
  | _, _ => false
end

section
variable {o : Nat → Option O} {P : Program}
def Tys (P : Program) : List TypeId → List D → Prop
  | [], [] => True
  | t :: ts, d :: ds => HasTy P t d ∧ Tys P ts ds
  | _, _ => False
theorem HasTys.tys : ∀ {fs : List Field} {ds : List D}, HasTys P fs ds → Tys P (fs.map (·.type)) ds
  | [], _, .nil => trivial
  | _ :: _, _, .cons h hs => ⟨h, hs.tys⟩
def structT (P : Program) (t : TypeId) : Option (List TypeId) := match P.underlying t with
  | some (.struct fs) => some (fs.toList.map (·.type))
  | _ => none
theorem HasTy.struct {t : TypeId} {d : D} {L : List TypeId} (h : HasTy P t d) (hL : structT P t = some L) : ∃ ds, d = .agg ds ∧ Tys P L ds := by
  unfold structT at hL
  cases h with
  | agg hu hf => rw [hu] at hL; cases hL; exact ⟨_, rfl, hf.tys⟩
  | bool hu => rw [hu] at hL; cases hL
  | int hu _ => rw [hu] at hL; cases hL
  | str hu _ => rw [hu] at hL; cases hL
  | sl hu _ _ => rw [hu] at hL; cases hL
theorem HasTy.slice {t e : TypeId} {d : D} (h : HasTy P t d) (ht : P.underlying t = some (.slice e)) : ∃ es, d = .sl (P.cellsOf e) es ∧ es.length ≤ maxLen ∧ ∀ d ∈ es, HasTy P e d := by
  cases h with
  | sl hu hl he => rw [ht] at hu; cases hu; exact ⟨_, rfl, hl, he⟩
  | bool hu => rw [ht] at hu; cases hu
  | int hu _ => rw [ht] at hu; cases hu
  | str hu _ => rw [ht] at hu; cases hu
  | agg hu _ => rw [ht] at hu; cases hu
theorem HasTy.intv {t : TypeId} {k : IntKind} {d : D} (h : HasTy P t d) (ht : P.underlying t = some (.int k)) : ∃ n, d = .lit (.int k n) ∧ (Lit.int k n).wf = true := by
  cases h with
  | int hu hw => rw [ht] at hu; cases hu; exact ⟨_, rfl, hw⟩
  | bool hu => rw [ht] at hu; cases hu
  | str hu _ => rw [ht] at hu; cases hu
  | sl hu _ _ => rw [ht] at hu; cases hu
  | agg hu _ => rw [ht] at hu; cases hu
structure SlD (o : Nat → Option O) (sz : Nat) (es : List D) (v : V) : Prop where
  len : lenV v = some (.int .i64 es.length)
  get : ∀ (i : Nat) (h : i < es.length), ∃ b off C c, ixV sz v (.int .i64 (i : Int)) = some (.ptr (some ⟨.old b, off⟩)) ∧ Rep o es[i] c ∧ o b = some (.cells C none) ∧ cut C off sz = some c
  one : v.one = true
  cells : v.cells = [v]
  again : ∀ s : St, againV v v s = some (.any, s)
theorem RepE.get {C : List V} {sz : Nat} : ∀ {off : Nat} {es : List D}, RepE o C sz off es → ∀ (i : Nat) (h : i < es.length), ∃ c, cut C (off + i * sz) sz = some c ∧ Rep o es[i] c
  | _, _, .nil, i, h => by simp at h
  | _, _, .cons hc hr _, 0, h => ⟨_, by simpa using hc, hr⟩
  | off, _, .cons (ds := ds) _ _ hs, i + 1, h => by
    obtain ⟨c, h1, h2⟩ := hs.get i (by simpa using h)
    refine ⟨c, ?_, h2⟩
    rw [show off + (i + 1) * sz = off + sz + i * sz by rw [Nat.add_mul]; omega]
    exact h1
theorem Rep.slv {sz : Nat} {es : List D} {cs : List V} (h : Rep o (.sl sz es) cs) : ∃ v, cs = [v] ∧ SlD o sz es v := by
  cases h with
  | nil => exact ⟨_, rfl, rfl, fun i h => by simp at h, rfl, rfl, fun s => againV_slice _ _ _ s⟩
  | sl hC hE =>
    refine ⟨_, rfl, rfl, fun i hi => ?_, rfl, rfl, fun s => againV_slice _ _ _ s⟩
    obtain ⟨c, h1, h2⟩ := hE.get i hi
    refine ⟨_, _, _, c, ?_, h2, hC, h1⟩
    rw [ixV_int (by omega) (by omega)]
    simp
theorem Rep.litv {v : V} {cs : List V} (h : Rep o (.lit v) cs) : cs = [v] := by cases h; rfl
theorem ld_old {s : St} {b off sz : Nat} {C c : List V} (hs : s.old = o) (hC : o b = some (.cells C none)) (hc : cut C off sz = some c) (h0 : 0 < sz) :
    (loadV (some sz) (.ptr (some ⟨.old b, off⟩)) s = some (.agg c)) ∧ (loadV none (.ptr (some ⟨.old b, off⟩)) s = c[0]?) ∧ (∀ f, f < sz → loadV none (.ptr (some ⟨.old b, off + f⟩)) s = c[f]?) ∧
    (∀ f n, f + n ≤ sz → loadV (some n) (.ptr (some ⟨.old b, off + f⟩)) s = some (.agg ((c.drop f).take n))) := by
  have hrow : s.row (.old b) = some (C, none) := by simp only [St.row, St.get, hs, hC]
  have hcut : off + sz ≤ C.length ∧ c = (C.drop off).take sz := by
    unfold cut at hc; split at hc
    · cases hc; exact ⟨by assumption, rfl⟩
    · cases hc
  obtain ⟨h1, rfl⟩ := hcut
  have l1 : ∀ f, f < sz → loadV none (.ptr (some ⟨.old b, off + f⟩)) s = ((C.drop off).take sz)[f]? := by
    intro f hf
    rw [loadV_ptr]
    simp only [readCells, hrow, Option.getD_none]
    rw [cut_one', List.getElem?_take, if_pos hf, List.getElem?_drop]
  refine ⟨?_, by have := l1 0 h0; rwa [Nat.add_zero] at this, l1, fun f n hf => ?_⟩
  · rw [loadV_ptr]
    simp only [readCells, hrow, Option.getD_some, cut, if_pos h1]
    rfl
  · rw [loadV_ptr]
    simp only [readCells, hrow, Option.getD_some, cut]
    rw [if_pos (by omega)]
    show some (V.agg _) = _
    rw [List.drop_take, List.take_take, List.drop_drop, Nat.min_eq_left (by omega)]
end
end Go.IM

set_option linter.unusedSimpArgs false
set_option linter.unusedVariables false
namespace Go.Proofs.Ytoldkemimhebaaa
open Go Go.IM Go.ChangeShapes Go.WideShapes Go.RowKit
section
variable {H : Type} {enc : TypeId × Value → H} {W : Go.World} {o : Nat → Option O}
theorem oldI_of {d : D} {cs : List V} (hx : HasTy Try.prog 54 d) (hr : Rep o d cs) : ∃ v l, cs = [v] ∧ OldI o v l := by
  obtain ⟨es, rfl, hl, hes⟩ := hx.slice (e := 3) (by kernel_rfl)
  have c3 : Try.prog.cellsOf 3 = 1 := by kernel_rfl
  rw [c3] at hr
  obtain ⟨v, rfl, hs⟩ := hr.slv
  let val : D → Int := fun d => match d with | .lit (.int _ n) => n | _ => 0
  refine ⟨v, es.map val, rfl, by rw [List.length_map]; exact hs.len, fun i hi => ?_⟩
  have hi' : i < es.length := by simpa using hi
  obtain ⟨b, off, C, c, h1, h2, h3, h4⟩ := hs.get i hi'
  refine ⟨⟨.old b, off⟩, h1, fun s he => ?_⟩
  obtain ⟨n, en, _⟩ := (hes _ (List.getElem_mem hi')).intv (k := .i64) (by kernel_rfl)
  rw [List.getElem_map]
  rw [en] at h2 ⊢
  have := h2.litv
  subst this
  rw [(ld_old he h3 h4 (by omega)).2.1]
  rfl
end
end Go.Proofs.Ytoldkemimhebaaa

set_option linter.unusedSimpArgs false
set_option linter.unusedVariables false
namespace Go.Proofs.Ytoldkemimhebaaa
open Go Go.IM Go.ChangeShapes Go.WideShapes Go.ChangeAt Go.RowKit
def structO (P : Program) (t : TypeId) : Option (List (TypeId × Nat)) := match P.underlying t with
  | some (.struct fs) => some (fs.toList.map fun f => (f.type, f.offset))
  | _ => none
theorem struct4_of {P : Program} {t u0 u1 u2 u3 : TypeId} {n0 n1 n2 n3 : Nat} (h : structO P t = some [(u0, n0), (u1, n1), (u2, n2), (u3, n3)]) :
    ∃ f0 f1 f2 f3 : Field, P.underlying t = some (.struct #[f0, f1, f2, f3]) ∧ f0.type = u0 ∧ f1.type = u1 ∧ f2.type = u2 ∧ f3.type = u3 ∧ f0.offset = n0 ∧ f1.offset = n1 ∧ f2.offset = n2 ∧ f3.offset = n3 := by
  unfold structO at h
  split at h
  · rename_i fs hu
    obtain ⟨l⟩ := fs
    simp only [Option.some.injEq] at h
    match l, h with
    | [f0, f1, f2, f3], h =>
      simp only [List.map_cons, List.map_nil, List.cons.injEq, Prod.mk.injEq, and_true] at h
      obtain ⟨⟨a0, b0⟩, ⟨a1, b1⟩, ⟨a2, b2⟩, ⟨a3, b3⟩⟩ := h
      exact ⟨f0, f1, f2, f3, hu, a0, a1, a2, a3, b0, b1, b2, b3⟩
  · cases h
theorem struct79 : ∃ f0 f1 f2 f3 : Field, Try.prog.underlying 79 = some (.struct #[f0, f1, f2, f3]) ∧ f0.type = 35 ∧ f1.type = 35 ∧ f2.type = 54 ∧ f3.type = 54 ∧ f0.offset = 0 ∧ f1.offset = 1 ∧ f2.offset = 2 ∧ f3.offset = 3 :=
  struct4_of (by kernel_rfl)
set_option maxRecDepth 100000 in
theorem collectAlikes_lifted (os : Os) (started : os.Started) (H : Type) (enc : TypeId × Value → H) :
    ReturnsInHanded Rows.collectAlikesRow.assume Try.checked os 12 .any (Rows.collectAlikesSpec.pre6 enc Try.prog Try.f12 Rows.collectAlikesRow.domain false) (Rows.collectAlikesSpec.post enc Try.prog Try.f12 false true false false) := by
  refine lifted_true (C := Try.checked) Try.own' started (by kernel_rfl) Try.func12 Try.laidOut' Try.mixed' (by kernel_rfl) rfl (by kernel_rfl) rfl
    (ChangeSpec.witness6 (enc := enc) (C := Try.checked) false ⟨#[], #[.agg #[.slice none 0 0, .slice none 0 0, .slice none 0 0, .slice none 0 0]], []⟩ 8 (by kernel_rfl) (by kernel_rfl) (by kernel_rfl) (by kernel_rfl)) ?_ ?_
  · intro ds hd
    match ds, hd with
    | [a], _ => rfl
  · intro W base args ds before hval hA hwt
    have hp : Try.f12.params = #[79] := rfl
    rw [hp] at hA hval hwt
    obtain ⟨f0, f1, f2, f3, hu, t0, t1, t2, t3, z0, z1, z2, z3⟩ := struct79
    obtain ⟨v, d, rfl, rfl, ⟨fuel, h⟩⟩ := trodAll_one hA
    obtain ⟨cs, rfl, hsz⟩ := okWide_struct (P := Try.checked.prog) hu (hval 0 79 _ rfl rfl)
    obtain ⟨y0, y1, y2, y3, n, hx, hlen, h0, h1, h2, h3⟩ := Go.Joins.trod_struct4 hu h
    obtain ⟨c0, c1, c2, c3, rfl⟩ := Go.Joins.array4 (hsz.trans (by kernel_rfl : Try.checked.prog.cellsOf 79 = 4))
    cases hx
    have c35 : Try.prog.cellsOf 35 = 1 := by kernel_rfl
    have c54 : Try.prog.cellsOf 54 = 1 := by kernel_rfl
    rw [t0, z0, c35] at h0
    rw [t1, z1, c35] at h1
    rw [t2, z2, c54] at h2
    rw [t3, z3, c54] at h3
    have h0' : DataW.trod enc Try.prog W 0 (fun _ => true) true n 35 [c0] = some y0 := h0
    have h1' : DataW.trod enc Try.prog W 0 (fun _ => true) true n 35 [c1] = some y1 := h1
    have h2' : DataW.trod enc Try.prog W 0 (fun _ => true) true n 54 [c2] = some y2 := h2
    have h3' : DataW.trod enc Try.prog W 0 (fun _ => true) true n 54 [c3] = some y3 := h3
    have hwt' : (DataW.weightsEach Try.prog [35, 35, 54, 54] [y0.1, y1.1, y2.1, y3.1]).all (· ≤ reachBytes) = true := by
      have e : DataW.weightsEach Try.prog [79] [.agg [y0.1, y1.1, y2.1, y3.1]] = DataW.weightsEach Try.prog [35, 35, 54, 54] [y0.1, y1.1, y2.1, y3.1] ++ [] := by
        rw [DataW.weightsEach, DataW.weights, hu]
        simp only [List.map_cons, List.map_nil, t0, t1, t2, t3, DataW.weightsEach]
      rw [List.append_nil] at e
      rw [← e]; exact hwt
    obtain ⟨l1, hl1, hll1⟩ := acts_of (sized_acts (j := 0) hwt' rfl rfl) h0'
    obtain ⟨l2, hl2, hll2⟩ := acts_of (sized_acts (j := 1) hwt' rfl rfl) h1'
    obtain ⟨x2, hx2, hr2⟩ := rep_of (P := Try.prog) (Ts := [54, 3]) (by kernel_rfl) n 54 [c2] _ (by simp) h2'
    obtain ⟨w2, i2, hw2, hI2⟩ := oldI_of hx2 hr2
    obtain ⟨x3, hx3, hr3⟩ := rep_of (P := Try.prog) (Ts := [54, 3]) (by kernel_rfl) n 54 [c3] _ (by simp) h3'
    obtain ⟨w3, i3, hw3, hI3⟩ := oldI_of hx3 hr3
    have e2 : ofVal c2 = w2 := by
      have : [ofVal c2] = [w2] := hw2
      simpa using this
    have e3 : ofVal c3 = w3 := by
      have : [ofVal c3] = [w3] := hw3
      simpa using this
    rw [← e2] at hI2
    rw [← e3] at hI3
    exact collectAlikes_im hl1 hll1 hl2 hll2 hI2 hI3 (oldSt W) rfl
theorem collectAlikes_holds : Rows.CollectAlikesSaid :=
  OpenClaim.holds_of_wide 12 Try.f12 rfl rfl rfl rfl rfl rfl rfl ⟨rfl, rfl, rfl, rfl, rfl⟩ rfl rfl rfl rfl rfl (by kernel_rfl) Try.func12 (by kernel_rfl)
    (of_decide_eq_true (by kernel_rfl)) (by unfold Func.isWrapper; rw [if_neg (by decide +kernel)]; exact ⟨rfl, rfl⟩)
    (fun os started H enc _ => collectAlikes_lifted os started H enc)
#print axioms collectAlikes_holds
end Go.Proofs.Ytoldkemimhebaaa