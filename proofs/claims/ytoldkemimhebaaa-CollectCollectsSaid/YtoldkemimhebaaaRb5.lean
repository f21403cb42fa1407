/- Texts Pg3, Pc5, Pc6, Pc7, Pc8, Pc9, Pca, Pe0, Pk0, Pk1, Pk3, Pcb, Pcc, Pk2, Pk4. -/
import Derived.Test.YtoldkemimhebaaaRb4

set_option linter.unusedSimpArgs false
set_option linter.unusedVariables false
namespace Go.Proofs.Ytoldkemimhebaaa
open Go Go.IM
def l5_0 : IC := (.seq (.seq (.seq (.region [oa 33 (.mov (.t 10)), oa 34 (.mov (.t 0)), oa 35 (.lenSlice (.t 34)), oa 36 (.bin .lss (.t 33) (.t 35))] (kp 112 [0,1,5,6,9,10,36]))
  (.cond (.t 36)
  (sk 112 [0,1,5,6,9,10])
  (sx 112 [1,6,9] 0)))
  (.seq (.block 1
  (.region [oa 39 (.mov (.t 5)), oa 40 (.indexAddr 1 (.t 39) (ai 0)), oa 41 (.load none (.t 40)), oa 42 (.mov (.t 0)), oa 43 (.mov (.t 10)), oa 44 (.indexAddr 11 (.t 42) (.t 43)), oa 45 (.load (some 11) (.t 44)), oa 46 (.call 26 [(.t 41), (.t 45)])] (kp 112 [0,1,5,6,9,10])))
  (.region [oa 37 (.mov (.t 10)), oa 38 (.bin .add (.t 37) (ai 1)), oa 10 (.mov (.t 38))] (kp 112 [0,1,5,6,9,10]))))
  (sk 112 [0,1,5,6,9,10]))
def l5_1 : IC := (.seq (.seq (.seq (.region [oa 47 (.mov (.t 9)), oa 48 (.call 27 [(.t 47)]), oa 49 (.bin .gtr (.t 48) (ai 1))] (kp 112 [1,6,9,49]))
  (.cond (.t 49)
  (sk 112 [1,6,9])
  (sx 112 [6,9] 2)))
  (.block 3
  (.seq (.region [oa 50 (.mov (.t 9)), oa 51 (.call 27 [(.t 50)]), oa 52 (.bin .sub (.t 51) (ai 1)), oa 11 (.mov (.t 52))] (kp 112 [1,6,9,11]))
  (.seq (.region [oa 54 (.mov (.t 9)), oa 55 (.mov (.t 11)), oa 56 (.call 29 [(.t 54), (.t 55)]), oa 53 (.mov (.t 56)), oa 57 (.extract (.t 53) 0), oa 58 (.extract (.t 53) 1), oa 12 (.mov (.t 57)), oa 13 (.mov (.t 58))] (kp 112 [1,6,9,11,12,13]))
  (.seq (.region [oa 59 (.mov (.t 6)), oa 60 (.call 19 [(.t 59)]), oa 14 (.mov (.t 60))] (kp 112 [1,6,9,11,12,13,14]))
  (.seq (.seq (.region [oa 61 (.mov (.t 13)), oa 62 (.bin .neq (.t 61) (ai 0))] (kp 112 [1,6,9,11,12,14,62]))
  (.cond (.t 62)
  (.seq (.region [oa 4 (.mov (.c (.bool false)))] (kp 112 [4]))
  (sr 112 [4]))
  (sk 112 [1,6,9,11,12,14])))
  (.seq (.seq (.region [oa 63 (.mov (.t 1))] (kp 112 [1,6,9,11,12,14,63]))
  (.cond (.t 63)
  (.seq (.region [oa 65 (.mov (.t 9)), oa 66 (.mov (.t 11)), oa 67 (.call 31 [(.t 65), (.t 66)]), oa 64 (.mov (.t 67)), oa 68 (.extract (.t 64) 0), oa 69 (.extract (.t 64) 1), oa 13 (.mov (.t 69))] (kp 112 [1,6,9,12,13,14]))
  (.seq (.seq (.region [oa 70 (.mov (.t 13)), oa 71 (.bin .neq (.t 70) (ai 0)), oa 72 (.mov (.t 71)), oc 73 (.mov (.t 6)) 72 ff, oc 74 (.call 19 [(.t 73)]) 72 ff, oc 75 (.mov (.t 14)) 72 ff, oc 76 (.mov (.t 12)) 72 ff, oc 77 (.lenSlice (.t 76)) 72 ff, oc 78 (.bin .add (.t 75) (.t 77)) 72 ff, oc 79 (.bin .neq (.t 74) (.t 78)) 72 ff, oa 80 (.pick (.t 72) (.c (.bool true)) (.t 79))] (kp 112 [1,6,9,80]))
  (.cond (.t 80)
  (.seq (.region [oa 4 (.mov (.c (.bool false)))] (kp 112 [4]))
  (sr 112 [4]))
  (sk 112 [1,6,9])))
  (.seq (.region [oa 12 (.mov (.c (.slice none 0 (some 0))))] (kp 112 [1,6,9,12]))
  (.region [oa 81 (.mov (.t 6)), oa 82 (.call 19 [(.t 81)]), oa 14 (.mov (.t 82))] (kp 112 [1,6,9,12,14])))))
  (sk 112 [1,6,9,12,14])))
  (.seq (.region [oa 84 (.mov (.t 9)), oa 85 (.call 32 [(.t 84)]), oa 83 (.mov (.t 85)), oa 86 (.extract (.t 83) 0), oa 87 (.extract (.t 83) 1), oa 15 (.mov (.t 86)), oa 13 (.mov (.t 87))] (kp 112 [1,6,9,12,13,14,15]))
  (.seq (.region [oa 88 (.mov (.t 13)), oa 89 (.bin .neq (.t 88) (ai 0)), oa 90 (.mov (.t 89)), oc 91 (.mov (.t 15)) 90 ff, oc 92 (.mov (.t 12)) 90 ff, oc 93 (.lenSlice (.t 92)) 90 ff, oc 94 (.bin .neq (.t 91) (.t 93)) 90 ff, oa 95 (.pick (.t 90) (.c (.bool true)) (.t 94)), oa 96 (.mov (.t 95)), oc 97 (.mov (.t 6)) 96 ff, oc 98 (.call 19 [(.t 97)]) 96 ff, oc 99 (.mov (.t 14)) 96 ff, oc 100 (.mov (.t 15)) 96 ff, oc 101 (.bin .add (.t 99) (.t 100)) 96 ff, oc 102 (.bin .neq (.t 98) (.t 101)) 96 ff, oa 103 (.pick (.t 96) (.c (.bool true)) (.t 102))] (kp 112 [1,6,9,103]))
  (.cond (.t 103)
  (.seq (.region [oa 4 (.mov (.c (.bool false)))] (kp 112 [4]))
  (sr 112 [4]))
  (sk 112 [1,6,9])))))))))))
  (sk 112 [1,6,9]))
def c5 : IFn := ⟨112, [(4, none)],
  (.seq (.region [oa 4 (.mov (.c (.bool false)))] (kp 112 [0,1]))
  (.seq (.seq (.region [oa 16 (.mov (.t 0)), oa 17 (.call 24 [(.t 16)])] (kp 112 [0,1,17]))
  (.cond (.t 17)
  (.seq (.region [oa 18 (.call 23 []), oa 4 (.mov (.t 18))] (kp 112 [4]))
  (sr 112 [4]))
  (sk 112 [0,1])))
  (.seq (.region [oa 20 (.call 25 [(ai 12), (ai 1)]), oa 19 (.mov (.t 20)), oa 21 (.extract (.t 19) 0), oa 22 (.extract (.t 19) 1), oa 23 (.extract (.t 19) 2), oa 24 (.extract (.t 19) 3), oa 5 (.mov (.t 21)), oa 6 (.mov (.t 22)), oa 7 (.mov (.t 23)), oa 8 (.mov (.t 24))] (kp 112 [0,1,5,6,8]))
  (.seq (.seq (.region [oa 25 (.mov (.t 8)), oa 26 (.un .not (.t 25))] (kp 112 [0,1,5,6,26]))
  (.cond (.t 26)
  (.seq (.region [oa 4 (.mov (.c (.bool false)))] (kp 112 [4]))
  (sr 112 [4]))
  (sk 112 [0,1,5,6])))
  (.seq (.region [oa 27 (.mov (.t 5)), oa 28 (.indexAddr 1 (.t 27) (ai 0)), oa 29 (.load none (.t 28)), oa 30 (.nilCheck (.t 29)), oa 31 (.fieldAddr 0 (.t 30)), oa 32 (.load none (.t 31)), oa 9 (.mov (.t 32))] (kp 112 [0,1,5,6,9]))
  (.seq (.seq (.region [oa 10 (.mov (ai 0))] (kp 112 [0,1,5,6,9,10]))
  (.block 0
  (.seq (sk 112 [0,1,5,6,9,10])
  (.loop l5_0))))
  (.seq (.block 2
  (.seq (sk 112 [1,6,9])
  (.loop l5_1)))
  (.seq (.region [oa 104 (.mov (.t 9)), oa 105 (.call 33 [(.t 104)])] (kp 112 [6]))
  (.seq (.region [oa 106 (.mov (.t 6)), oa 107 (.call 21 [(.t 106)]), oa 108 (.bin .eql (.t 107) (ai 0)), oa 109 (.mov (.t 108)), oc 110 (.call 23 []) 109 tt, oa 111 (.pick (.t 109) (.t 110) (.c (.bool false))), oa 4 (.mov (.t 111))] (kp 112 [4]))
  (sr 112 [4]))))))))))⟩
section
variable {o : Nat → Option O} {s : St} {C F : Ch} {Q : V → St → Prop} {p r q t : Nat} {u : List Bool} {others : List Nat} {G : PairG}
set_option maxRecDepth 10000
set_option maxHeartbeats 4000000
structure POk (u : List Bool) (hp : PHeap) : Prop where
  ulen : u.length ≤ 30
  inv : HInv hp.lives (hp.regs.map PReg.m)
  pool : PoolInv u ((hp.regs.map PReg.m).flatMap (·.pages))
  pok : ∀ g ∈ hp.regs, g.ok
theorem POk.ne {hp : PHeap} (h : POk u hp) : hp.regs ≠ [] := fun e => h.inv.ne (by rw [e]; rfl)
theorem POk.len {hp : PHeap} (h : POk u hp) : hp.regs.length ≤ 100000 := by have h1 := h.inv.len; have h2 := h.inv.lives; rw [List.length_map] at h1; omega
theorem POk.last {hp : PHeap} (h : POk u hp) {A : List PReg} {g : PReg} (e : hp.regs = A ++ [g]) : PoolInv u (g.pages ++ (A.map PReg.m).flatMap (·.pages)) := by
  have := h.pool
  rw [e] at this
  refine this.perm ?_
  simp only [List.map_append, List.map_cons, List.map_nil, List.flatMap_append, List.flatMap_cons, List.flatMap_nil, List.append_nil]
  exact List.perm_append_comm
theorem POk.pop {hp : PHeap} (h : POk u hp) {A : List PReg} {g : PReg} (e : hp.regs = A ++ [g]) (h0 : A ≠ []) (sl : List V) : POk (freeP u g.pages) { hp with regs := A, sl := sl } where
  ulen := by rw [freeP_len]; exact h.ulen
  inv := by
    have hi := h.inv
    rw [e] at hi
    simp only [List.map_append, List.map_cons, List.map_nil] at hi
    refine ⟨hi.lives, by simpa using h0, by have := hi.len; simp at this ⊢; omega, ?_, fun r hr => hi.life r (List.mem_append_left _ hr), fun r hr => hi.reg r (List.mem_append_left _ hr)⟩
    have := hi.nodup
    rw [List.map_append, List.nodup_append] at this
    exact this.1
  pool := (h.last e).free
  pok := fun x hx => h.pok x (by rw [e]; exact List.mem_append_left _ hx)
theorem POk.reset {hp : PHeap} (h : POk u hp) {A : List PReg} {g : PReg} {k : Nat} (e : hp.regs = A ++ [g]) (hl : hp.lives < 100000) :
    POk (freeP u g.pages) { hp with lives := hp.lives + 1, regs := A ++ { g with life := hp.lives + 1, fill := 0, pages := [], objs := [], plk := k, pl := .map [] 0 } :: [] } where
  ulen := by rw [freeP_len]; exact h.ulen
  inv := by
    have hi := h.inv
    rw [e] at hi
    simp only [List.map_append, List.map_cons, List.map_nil] at hi
    refine ⟨by simp only; omega, by simp, by have := hi.len; simp at this ⊢; omega, ?_, ?_, ?_⟩
    · have hn := hi.nodup
      simp only [List.map_append, List.map_cons, List.map_nil, List.nodup_append] at hn ⊢
      refine ⟨hn.1, by simp, fun x hx y hy => ?_⟩
      obtain ⟨r, hr, rfl⟩ := List.mem_map.1 hx
      have := (hi.life r (List.mem_append_left _ hr)).2
      simp [PReg.m] at hy
      omega
    · intro r hr
      simp only [List.map_append, List.map_cons, List.map_nil, List.mem_append, List.mem_cons, List.not_mem_nil, or_false] at hr
      rcases hr with hr | rfl
      · have := hi.life r (List.mem_append_left _ hr); simp only; omega
      · simp only [PReg.m]; omega
    · intro r hr
      simp only [List.map_append, List.map_cons, List.map_nil, List.mem_append, List.mem_cons, List.not_mem_nil, or_false] at hr
      rcases hr with hr | rfl
      · exact hi.reg r (List.mem_append_left _ hr)
      · have := (hi.reg g.m (by simp)).size
        exact ⟨this, by simp [PReg.m], fun _ => by simp [PReg.m], fun _ => Packed.nil, fun x hx => by simp [PReg.m] at hx⟩
  pool := by
    have := (h.last e).free
    simpa [PReg.m] using this
  pok := by
    intro x hx
    simp only [List.mem_append, List.mem_cons, List.not_mem_nil, or_false] at hx
    rcases hx with hx | rfl
    · exact h.pok x (by rw [e]; simp [hx])
    · exact mapIs_nil
end
end Go.Proofs.Ytoldkemimhebaaa

set_option linter.unusedSimpArgs false
set_option linter.unusedVariables false
namespace Go.Proofs.Ytoldkemimhebaaa
open Go Go.IM
def layObj (ys : List Obj) (ats : List Nat) : List Obj := List.zipWith (fun x a => { x with at_ := a }) ys ats
theorem relay_b : ∀ (xs : List PObj) (ats : List Nat), (relay xs ats).map (·.b) = layObj (xs.map (·.b)) ats
  | [], _ => by simp [relay, layObj]
  | _ :: _, [] => by simp [relay, layObj]
  | x :: xs, a :: ats => by
    have := relay_b xs ats
    simp only [relay, layObj] at this
    simp only [relay, layObj, List.zipWith_cons_cons, List.map_cons, this]
    rfl
theorem layObj_os : ∀ (ys : List Obj) (ats : List Nat), ats.length = ys.length → (layObj ys ats).map (fun x => (x.at_, x.ws.length + 1)) = ats.zip (ys.map fun x => x.ws.length + 1)
  | [], [], _ => rfl
  | [], _ :: _, h => by simp at h
  | _ :: _, [], h => by simp at h
  | y :: ys, a :: ats, h => by
    have := layObj_os ys ats (by simpa using h)
    simp only [layObj] at this
    simp only [layObj, List.zipWith_cons_cons, List.map_cons, List.zip_cons_cons, this]
theorem layObj_mem : ∀ (ys : List Obj) (ats : List Nat), ∀ z ∈ layObj ys ats, ∃ y ∈ ys, z.ws = y.ws ∧ z.kind = y.kind
  | [], _, z, h => by simp [layObj] at h
  | _ :: _, [], z, h => by simp [layObj] at h
  | y :: ys, a :: ats, z, h => by
    simp only [layObj, List.zipWith_cons_cons, List.mem_cons] at h
    rcases h with rfl | h
    · exact ⟨y, List.mem_cons_self .., rfl, rfl⟩
    · obtain ⟨y', h1, h2⟩ := layObj_mem ys ats z h
      exact ⟨y', List.mem_cons_of_mem _ h1, h2⟩
structure RsOk (lv : Nat) (u : List Bool) (regs : List Reg) : Prop where
  ulen : u.length ≤ 30
  inv : HInv lv regs
  pool : PoolInv u (regs.flatMap (·.pages))
theorem RsOk.turn {lv : Nat} {u : List Bool} {A B : List Reg} {g : Reg} (h : RsOk lv u (A ++ g :: B)) (hs : g.size = 0) {ys : List Obj} (hx : ys.Sublist g.objs) :
    ∃ ats u' fill' pages', layM 0 g.life (ys.map fun x => x.ws.length + 1) (freeP u g.pages) 0 [] = some (ats, u', fill', pages') ∧ ats.Nodup ∧ pages'.length ≤ 30 ∧ ats.length = ys.length ∧ u'.length = u.length ∧
      RsOk lv u' (A ++ { g with fill := fill', pages := pages', objs := layObj ys ats } :: B) := by
  have hi := h.inv.reg g (by simp)
  have hpk := hi.inf hs
  have hp1 : PoolInv u (g.pages ++ (A.flatMap (·.pages) ++ B.flatMap (·.pages))) := by
    have := h.pool
    refine this.perm ?_
    simp only [List.flatMap_append, List.flatMap_cons]
    exact (List.perm_append_comm_assoc _ _ _).symm
  have hfr := hp1.free
  have hf := hpk.fold
  have hsub : (ys.map fun x => x.ws.length + 1).Sublist ((g.objs.map fun x => (x.at_, x.ws.length + 1)).map (·.2)) := by
    simp only [List.map_map]
    exact hx.map _
  have hle := fold_sub hsub (Le2.refl (0, 0))
  rw [hf] at hle
  have hcnt : g.pages.length ≤ (freeP u g.pages).count false := by
    have c1 := hfr.count
    have c2 := count_both (freeP u g.pages)
    have c3 := hp1.len
    rw [freeP_len] at c2
    rw [List.length_append] at c3
    omega
  obtain ⟨⟨ats, u', fill', pages'⟩, hlay, hlen⟩ := layM_some (life := g.life) (ys.map fun x => x.ws.length + 1) (freeP u g.pages) 0 [] (by
    have : ((ys.map fun x => x.ws.length + 1).foldl step (0, 0)).1 ≤ g.pages.length := by unfold Le2 at hle; omega
    simp only [List.length_nil]; omega)
  have hp2 : PoolInv (freeP u g.pages) ([] ++ (A.flatMap (·.pages) ++ B.flatMap (·.pages))) := hfr
  obtain ⟨k1, k2⟩ := lay_packed Packed.nil hp2 hlay
  rw [List.nil_append] at k1
  have hal : ats.length = ys.length := by have := layM_len hlay; simpa using this
  have hul : u'.length = u.length := by have := (layM_pages hlay).2; simp only at this; rw [this, freeP_len]
  have hnd : ats.Nodup := by
    have := k1.nodup (fun x hx' => by
      obtain ⟨a, b⟩ := x
      have := (List.of_mem_zip hx').2
      obtain ⟨y, hy, rfl⟩ := List.mem_map.1 this
      have := hi.ws y (hx.subset hy)
      simp only; omega)
    rwa [List.map_fst_zip (by simp; omega)] at this
  have hul30 := h.ulen
  refine ⟨ats, u', fill', pages', hlay, hnd, ?_, hal, hul, by omega, ?_, ?_⟩
  · have : pages'.length ≤ u'.length := k2.sub_len (List.sublist_append_left pages' _)
    omega
  · have hI := h.inv
    have hmap : (A ++ { g with fill := fill', pages := pages', objs := layObj ys ats } :: B).map (·.life) = (A ++ g :: B).map (·.life) := by simp
    refine ⟨hI.lives, by simp, by have := hI.len; simpa using this, by rw [hmap]; exact hI.nodup, fun r hr => ?_, fun r hr => ?_⟩
    · rcases List.mem_append.1 hr with hr | hr
      · exact hI.life r (List.mem_append_left _ hr)
      · rcases List.mem_cons.1 hr with rfl | hr
        · exact hI.life g (by simp)
        · exact hI.life r (by simp [hr])
    · rcases List.mem_append.1 hr with hr | hr
      · exact hI.reg r (List.mem_append_left _ hr)
      · rcases List.mem_cons.1 hr with rfl | hr
        · refine ⟨hi.size, fun z hz => ?_, fun h0 => ?_, fun _ => ?_, fun z hz => ?_⟩
          · obtain ⟨y, hy, e1, e2⟩ := layObj_mem _ _ z hz
            rw [e1, e2]; exact hi.ws y (hx.subset hy)
          · simp only at h0; omega
          · show Packed ((layObj ys ats).map _) _ _
            rw [layObj_os ys ats hal]; exact k1
          · obtain ⟨y, hy, e1, e2⟩ := layObj_mem _ _ z hz
            rw [e1]; exact hi.wl y (hx.subset hy)
        · exact hI.reg r (by simp [hr])
  · refine k2.perm ?_
    simp only [List.flatMap_append, List.flatMap_cons]
    exact List.perm_append_comm_assoc _ _ _
end Go.Proofs.Ytoldkemimhebaaa

set_option linter.unusedSimpArgs false
set_option linter.unusedVariables false
namespace Go.Proofs.Ytoldkemimhebaaa
open Go Go.IM
def c91 : IFn := ⟨16, [(4, none)],
  (.seq (.region [oa 4 (.mov (.c (.bool false)))] (kp 16 [0,1]))
  (.seq (.region [oa 8 (.mov (.t 0)), oa 9 (.mov (.t 1)), oa 10 (.call 29 [(.t 8), (.t 9)]), oa 7 (.mov (.t 10)), oa 11 (.extract (.t 7) 0), oa 12 (.extract (.t 7) 1), oa 5 (.mov (.t 11)), oa 6 (.mov (.t 12))] (kp 16 [5]))
  (.seq (.region [oa 13 (.mov (.t 5)), oa 14 (.lenSlice (.t 13)), oa 15 (.bin .gtr (.t 14) (ai 0)), oa 4 (.mov (.t 15))] (kp 16 [4]))
  (sr 16 [4]))))⟩
theorem F91 : shutF Try.prog 91 = some c91 := by kernel_rfl
def c94 : IFn := ⟨32, [(4, (some (some 2)))],
  (.seq (.region [oa 3 (.box (.t 1)), oa 4 (.alloc [(.int .i64 (0)), (.int .i64 (0))])] (kp 32 [0,3,4]))
  (.seq (.seq (.region [oa 7 (.fieldAddr 1 (.t 3)), oa 8 (.load none (.t 7)), oa 9 (.bin .eql (.t 8) (ai 0))] (kp 32 [0,3,4,9]))
  (.cond (.t 9)
  (.seq (.region [oa 10 (.load (some 2) (.t 3)), ob (.store 2 (.t 4) (.t 10))] (kp 32 [4]))
  (sr 32 [4]))
  (sk 32 [0,3,4])))
  (.seq (.seq (.region [oa 12 (.mov (.t 0)), oa 13 (.nilCheck (.t 12)), oa 14 (.fieldAddr 1 (.t 13)), oa 15 (.load none (.t 14)), oa 16 (.load (some 2) (.t 3)), oa 17 (.lookup (.agg [.i, .i]) (.agg [(.int .i64 (0)), (.int .i64 (0))]) true (.t 15) (.t 16)), oa 11 (.mov (.t 17)), oa 18 (.extract (.t 11) 0), oa 19 (.extract (.t 11) 1), oa 5 (.alloc [(.int .i64 (0)), (.int .i64 (0))]), ob (.store 2 (.t 5) (.t 18)), oa 6 (.mov (.t 19))] (kp 32 [0,3,4,5,6]))
  (.seq (.region [oa 20 (.mov (.t 6))] (kp 32 [0,3,4,5,20]))
  (.cond (.t 20)
  (.seq (.region [oa 21 (.load (some 2) (.t 5)), ob (.store 2 (.t 4) (.t 21))] (kp 32 [4]))
  (sr 32 [4]))
  (sk 32 [0,3,4]))))
  (.seq (.seq (.region [oa 22 (.mov (.t 0)), oa 23 (.nilCheck (.t 22)), oa 24 (.fieldAddr 2 (.t 23)), oa 25 (.load none (.t 24)), oa 26 (.load (some 2) (.t 3)), oa 27 (.lookup (.agg [.i, .i]) (.bool false) false (.t 25) (.t 26))] (kp 32 [3,4,27]))
  (.cond (.t 27)
  (.seq (.region [oa 28 (.load (some 2) (.t 3)), ob (.store 2 (.t 4) (.t 28))] (kp 32 [4]))
  (sr 32 [4]))
  (sk 32 [3,4])))
  (.seq (.region [oa 29 (.fieldAddr 1 (.t 3)), oa 30 (.load none (.t 29)), oa 31 (.build [(.int .i64 (0)), (.int .i64 (0))] [(0, 1, (ai (-1))), (1, 1, (.t 30))]), ob (.store 2 (.t 4) (.t 31))] (kp 32 [4]))
  (sr 32 [4]))))))⟩
theorem F94 : shutF Try.prog 94 = some c94 := by kernel_rfl
def l92_0 : IC := (.seq (.seq (.region [oa 28 (.bin .lss (.t 27) (.t 26))] (kp 77 [0,1,6,25,26,27,28]))
  (.seq (.cond (.t 28)
  (sk 77 [0,1,6,25,26,27])
  (sx 77 [0,1,6] 0))
  (.seq (.block 1
  (.seq (.region [oa 29 (.indexAddr 2 (.t 25) (.t 27)), oa 30 (.load (some 2) (.t 29)), oa 8 (.alloc [(.int .i64 (0)), (.int .i64 (0))]), ob (.store 2 (.t 8) (.t 30))] (kp 77 [0,1,6,8,25,26,27]))
  (.seq (.region [oa 31 (.mov (.t 0)), oa 32 (.nilCheck (.t 31)), oa 33 (.fieldAddr 0 (.t 32)), oa 34 (.load none (.t 33)), oa 35 (.nilCheck (.t 34)), oa 36 (.fieldAddr 2 (.t 35)), oa 37 (.load none (.t 36)), oa 38 (.load (some 2) (.t 8)), oa 39 (.lookup (.agg [.i, .i]) (.bool false) false (.t 37) (.t 38))] (kp 77 [0,1,6,8,25,26,27,39]))
  (.cond (.t 39)
  (.region [oa 40 (.mov (.t 6)), oa 41 (.load (some 2) (.t 8)), oa 42 (.buildSlice 1 [(.int .i64 (0)), (.int .i64 (0))] [(0, 2, (.t 41))]), oa 43 (.append 2 16 (.t 40) (.t 42)), oa 6 (.mov (.t 43))] (kp 77 [0,1,6,25,26,27]))
  (sk 77 [0,1,6,25,26,27])))))
  (.region [oa 44 (.bin .add (.t 27) (ai 1)), oa 27 (.mov (.t 44))] (kp 77 [0,1,6,25,26,27])))))
  (sk 77 [0,1,6,25,26,27]))
def l92_1 : IC := (.seq (.seq (.region [oa 63 (.bin .lss (.t 62) (.t 61))] (kp 77 [0,9,60,61,62,63]))
  (.seq (.cond (.t 63)
  (sk 77 [0,9,60,61,62])
  (sx 77 [] 2))
  (.seq (.block 3
  (.seq (.region [oa 64 (.mov (.t 62)), oa 65 (.indexAddr 2 (.t 60) (.t 62)), oa 66 (.load (some 2) (.t 65)), oa 12 (.alloc [(.int .i64 (0)), (.int .i64 (0))]), oa 11 (.mov (.t 64)), ob (.store 2 (.t 12) (.t 66))] (kp 77 [0,9,11,12,60,61,62]))
  (.region [oa 67 (.mov (.t 0)), oa 68 (.nilCheck (.t 67)), oa 69 (.fieldAddr 1 (.t 68)), oa 70 (.load none (.t 69)), oa 71 (.load (some 2) (.t 12)), oa 72 (.mov (.t 9)), oa 73 (.mov (.t 11)), oa 74 (.indexAddr 2 (.t 72) (.t 73)), oa 75 (.load (some 2) (.t 74)), ob (.mapSet (.agg [.i, .i]) (.t 70) (.t 71) (.t 75))] (kp 77 [0,9,60,61,62]))))
  (.region [oa 76 (.bin .add (.t 62) (ai 1)), oa 62 (.mov (.t 76))] (kp 77 [0,9,60,61,62])))))
  (sk 77 [0,9,60,61,62]))
def j92_bbbbb : IC := (.seq (.region [oa 60 (.mov (.t 6)), oa 61 (.lenSlice (.t 60)), oa 62 (.mov (ai 0))] (kp 77 [0,9,60,61,62]))
  (.block 2
  (.seq (sk 77 [0,9,60,61,62])
  (.loop l92_1))))
def j92_bbb : IC := (.seq (.region [oa 46 (.mov (.t 0)), oa 47 (.nilCheck (.t 46)), oa 48 (.fieldAddr 0 (.t 47)), oa 49 (.load none (.t 48)), oa 50 (.nilCheck (.t 49)), oa 51 (.fieldAddr 0 (.t 50)), oa 52 (.load none (.t 51)), oa 53 (.mov (.t 1)), oa 54 (.mov (.t 6)), oa 55 (.call 109 [(.t 52), (.t 53), (.t 54)]), oa 45 (.mov (.t 55)), oa 56 (.extract (.t 45) 0), oa 57 (.extract (.t 45) 1), oa 9 (.mov (.t 56)), oa 10 (.mov (.t 57))] (kp 77 [0,6,9,10]))
  (.seq (.seq (.region [oa 58 (.mov (.t 10)), oa 59 (.bin .neq (.t 58) (ai 0))] (kp 77 [0,6,9,59]))
  (.cond (.t 59)
  (sr 77 [])
  (sk 77 [0,6,9])))
  j92_bbbbb))
def c92 : IFn := ⟨77, [],
  (.seq (.region [oa 14 (.mov (.t 0)), oa 15 (.nilCheck (.t 14)), oa 16 (.fieldAddr 0 (.t 15)), oa 17 (.load none (.t 16)), oa 18 (.nilCheck (.t 17)), oa 19 (.fieldAddr 0 (.t 18)), oa 20 (.load none (.t 19)), oa 21 (.mov (.t 1)), oa 22 (.call 28 [(.t 20), (.t 21)]), oa 13 (.mov (.t 22)), oa 23 (.extract (.t 13) 0), oa 24 (.extract (.t 13) 1), oa 4 (.mov (.t 23)), oa 5 (.mov (.t 24))] (kp 77 [0,1,4]))
  (.seq (.region [oa 6 (.mov (.c (.slice none 0 (some 0))))] (kp 77 [0,1,4,6]))
  (.seq (.seq (.region [oa 25 (.mov (.t 4)), oa 26 (.lenSlice (.t 25)), oa 27 (.mov (ai 0))] (kp 77 [0,1,6,25,26,27]))
  (.block 0
  (.seq (sk 77 [0,1,6,25,26,27])
  (.loop l92_0))))
  j92_bbb)))⟩
theorem F92 : shutF Try.prog 92 = some c92 := by kernel_rfl
section
variable {o : Nat → Option O} {s : St} {C F : Ch} {Q : V → St → Prop} {p r : Nat} {u : List Bool}
set_option maxRecDepth 10000
set_option maxHeartbeats 4000000
theorem s89 (hC : Holds o s C) {hp : PHeap} {p : Nat} (hin : In C p hp) (h0 : hp.regs ≠ []) (hl : hp.regs.length ≤ 100000) : call PF 89 [ptrN hp.id] s = some (.bool false, s) := by
  have e := s27 hC hin
  have h1 := List.length_pos_iff.2 h0
  have h2 : ((hp.regs.length : Int) == 0) = false := by simp; omega
  rw [call_run F89]; simp -implicitDefEqProofs only [↓GP, GB, GL, Nat.reduceAdd, Nat.reduceSub, Nat.reduceEqDiff, Nat.reduceMul, Nat.reduceLeDiff, Int.reduceBNe, Int.reduceBEq, Nat.reduceLT, reduceCtorEq, c89, e, h2]
theorem s91 (hC : Holds o s C) {hp : PHeap} {p i : Nat} (hin : In C p hp) (hlen : hp.regs.length ≤ 100000) {g : PReg} (hr : hp.regs[i]? = some g) (hpl : g.pages.length ≤ 400)
    (q : ∀ s', Holds o s' C → Q (.bool (decide (0 < g.pages.length))) s') : WP (call PF 91 [ptrN hp.id, I i] s) Q := by
  rw [call_run F91]; simp -implicitDefEqProofs only [↓GP, GB, GL, Nat.reduceAdd, Nat.reduceSub, Nat.reduceEqDiff, Nat.reduceMul, Nat.reduceLeDiff, Int.reduceBNe, Int.reduceBEq, Nat.reduceLT, reduceCtorEq, c91]
  refine wp_in (s29 hC hin hlen hr hpl fun s1 k h1 => ?_)
  by_cases h0 : 0 < g.pages.length
  · have h0' : ((g.pages.length : Int) > 0) := by omega
    simp -implicitDefEqProofs only [↓GP, GB, GL, Nat.reduceAdd, Nat.reduceSub, Nat.reduceEqDiff, Nat.reduceMul, Nat.reduceLeDiff, Int.reduceBNe, Int.reduceBEq, Nat.reduceLT, reduceCtorEq, h0']
    have := q s1 h1.tl
    rwa [decide_eq_true h0] at this
  · have h0' : ¬ ((g.pages.length : Int) > 0) := by omega
    simp -implicitDefEqProofs only [↓GP, GB, GL, Nat.reduceAdd, Nat.reduceSub, Nat.reduceEqDiff, Nat.reduceMul, Nat.reduceLeDiff, Int.reduceBNe, Int.reduceBEq, Nat.reduceLT, reduceCtorEq, h0']
    have := q s1 h1.tl
    rwa [decide_eq_false h0] at this
def nowW (to : Int × Int → Option (Int × Int)) (fx : List (Int × Int)) (w : Int × Int) : Int × Int := if w.2 = 0 then w else match to w with | some n => n | none => if w ∈ fx then w else (-1, w.2)
def colC (c t tk fk : Nat) (mt mf : O) : Ch := (c, some (.cells [ptrN t, .map (some (.new tk)), .map (some (.new fk))] none)) :: (tk, some mt) :: (fk, some mf) :: []
theorem s94 {c t tk fk : Nat} {mt mf : O} {to : Int × Int → Option (Int × Int)} {fx : List (Int × Int)} {w : Int × Int} (H : Holds o s C) (hs : ∀ x ∈ colC c t tk fk mt mf, x ∈ C)
    (hmt : MapIs encA (fun w => (to w).map encA) mt) (hmf : MapIs encA (seenF fx) mf) (q : ∀ s', Holds o s' C → Q (.agg (encW (nowW to fx w))) s') : WP (call PF 94 [ptrN c, .agg (encW w)] s) Q := by
  have mc := hs (c, some (.cells [ptrN t, .map (some (.new tk)), .map (some (.new fk))] none)) (List.mem_cons_self ..)
  have h1 := (H.alloc (.cells (encW w) none)).alloc (.cells [I 0, I 0] none)
  have f := H.mem mc
  have f0 := h1.tl.g0
  unfold nowW at q
  by_cases h0 : w.2 = 0
  · rw [if_pos h0] at q
    have h0' : (w.2 == 0) = true := by simpa using h0
    rw [call_run F94]; simp -implicitDefEqProofs only [↓GP, GB, GL, Nat.reduceAdd, Nat.reduceSub, Nat.reduceEqDiff, Nat.reduceMul, Nat.reduceLeDiff, Int.reduceBNe, Int.reduceBEq, Nat.reduceLT, reduceCtorEq, c94, encW, h0']
    exact q _ (h1.set0 (.cells (encW w) none)).tl.tl
  · rw [if_neg h0] at q
    have h0' : (w.2 == 0) = false := by simpa using h0
    have mt' := hs (tk, some mt) (List.mem_cons_of_mem _ (List.mem_cons_self ..))
    have mf' := hs (fk, some mf) (List.mem_cons_of_mem _ (List.mem_cons_of_mem _ (List.mem_cons_self ..)))
    have el := lookup_map keyA hmt (h1.mem (List.mem_cons_of_mem _ (List.mem_cons_of_mem _ mt'))).1 (.agg [I 0, I 0]) true w
    simp only [encA, encW, Bool.false_eq_true, if_true, Option.isSome_map] at el
    cases ht : to w with
    | some n =>
      rw [ht] at q el
      simp only [Option.map_some, Option.getD_some, Option.isSome_some, encA, encW] at el
      rw [call_run F94]; simp -implicitDefEqProofs only [↓GP, GB, GL, Nat.reduceAdd, Nat.reduceSub, Nat.reduceEqDiff, Nat.reduceMul, Nat.reduceLeDiff, Int.reduceBNe, Int.reduceBEq, Nat.reduceLT, reduceCtorEq, c94, encW, h0', f, el]
      exact q _ (((h1.alloc (.cells [I 0, I 0] none)).set0 (.cells (encW n) none)).set1 (.cells (encW n) none)).tl.tl.tl
    | none =>
      rw [ht] at q el
      simp only [Option.map_none, Option.getD_none, Option.isSome_none] at el
      have h2 := (h1.alloc (.cells [I 0, I 0] none)).set0 (.cells [I 0, I 0] none)
      have el2 := lookup_map keyA hmf (h2.mem (List.mem_cons_of_mem _ (List.mem_cons_of_mem _ (List.mem_cons_of_mem _ mf')))).1 (.bool false) false w
      simp only [encA, encW, Bool.false_eq_true, if_false, alloc_next, set_next, Nat.add_assoc, Nat.reduceAdd] at el2
      by_cases hw : w ∈ fx
      · rw [show seenF fx w = some (.bool true) from if_pos hw, Option.getD_some] at el2
        simp only [if_pos hw] at q
        rw [call_run F94]; simp -implicitDefEqProofs only [↓GP, GB, GL, Nat.reduceAdd, Nat.reduceSub, Nat.reduceEqDiff, Nat.reduceMul, Nat.reduceLeDiff, Int.reduceBNe, Int.reduceBEq, Nat.reduceLT, reduceCtorEq, c94, encW, h0', f, el, el2]
        exact q _ (h2.set1 (.cells (encW w) none)).tl.tl.tl
      · rw [show seenF fx w = none from if_neg hw, Option.getD_none] at el2
        simp only [if_neg hw] at q
        rw [call_run F94]; simp -implicitDefEqProofs only [↓GP, GB, GL, Nat.reduceAdd, Nat.reduceSub, Nat.reduceEqDiff, Nat.reduceMul, Nat.reduceLeDiff, Int.reduceBNe, Int.reduceBEq, Nat.reduceLT, reduceCtorEq, c94, encW, h0', f, el, el2]
        exact q _ (h2.set1 (.cells (encW (-1, w.2)) none)).tl.tl.tl
def wordsP (life : Nat) (xs : List PObj) : List (Int × Int) := xs.map fun x => ((x.b.at_ : Int), (life : Int))
theorem words_enc (life : Nat) (xs : List PObj) : xs.flatMap (encP life) = (wordsP life xs).flatMap encW := by
  unfold wordsP
  rw [List.flatMap_map]
  rfl
theorem pick_filter {life : Nat} (f : PObj → Bool) : ∀ {os : List PObj}, (os.map (·.b.at_)).Nodup → pickM life os (wordsP life (os.filter f)) = some (os.filter f)
  | [], _ => rfl
  | x :: os, h => by
    rw [List.map_cons, List.nodup_cons] at h
    have ih := pick_filter (life := life) f (os := os) h.2
    cases hf : f x with
    | true =>
      rw [List.filter_cons_of_pos hf]
      show pickM life (x :: os) (((x.b.at_ : Int), (life : Int)) :: wordsP life (os.filter f)) = _
      rw [pickM]
      have e : (x :: os).findIdx (fun y => decide ((y.b.at_ : Int) = (x.b.at_ : Int))) = 0 := by simp [List.findIdx_cons]
      rw [e, List.drop_zero]
      simp only [if_true, ih, Option.map_some]
    | false =>
      rw [List.filter_cons_of_neg (by rw [hf]; simp)]
      cases hos : os.filter f with
      | nil => rfl
      | cons y ys =>
        rw [hos] at ih
        have hy : y ∈ os := (List.mem_filter.1 (hos ▸ List.mem_cons_self ..)).1
        have hne : ¬ ((x.b.at_ : Int) = (y.b.at_ : Int)) := fun e => h.1 (List.mem_map.2 ⟨y, hy, by omega⟩)
        show pickM life (x :: os) (((y.b.at_ : Int), (life : Int)) :: wordsP life ys) = _
        rw [pickM]
        have e : (x :: os).findIdx (fun z => decide ((z.b.at_ : Int) = (y.b.at_ : Int))) = os.findIdx (fun z => decide ((z.b.at_ : Int) = (y.b.at_ : Int))) + 1 := by
          rw [List.findIdx_cons]; simp [hne]
        rw [e, List.drop_succ_cons]
        have ih' : pickM life os (((y.b.at_ : Int), (life : Int)) :: wordsP life ys) = some (y :: ys) := ih
        rw [pickM] at ih'
        exact ih'
theorem keep92 {c t lk mk ko : Nat} {hv i0 : V} {c1 c2 : V} {L W : List (Int × Int)} {m : O} {K : Kt} (mc : (c, some (.cells [ptrN t, c1, c2] none)) ∈ C) (mh : ∀ x ∈ huntC t lk mk hv L m, x ∈ C) (hm : MapIs encA (seenF L) m)
    (mo : (ko, rowO 2 W.length (W.flatMap encW)) ∈ C) (hl : W.length ≤ 100000) :
    ∀ (n i k : Nat) (acc : List (Int × Int)) (s : St), i + n = W.length → acc.length ≤ i → Holds o s ((k, rowO 2 acc.length (acc.flatMap encW)) :: C) →
    (∀ s' k', Holds o s' ((k', rowO 2 (acc ++ (W.drop i).filter (decide <| · ∈ L)).length ((acc ++ (W.drop i).filter (decide <| · ∈ L)).flatMap encW)) :: C) → WP (K (.exit 0) (sp 77 [(0, ptrN c), (1, i0), (6, rowV k' (acc ++ (W.drop i).filter (decide <| · ∈ L)).length)]) s') Q) →
    WP (loop PF (.loop l92_0) (sp 77 [(0, ptrN c), (1, i0), (6, rowV k acc.length), (25, rowV ko W.length), (26, I W.length), (27, I i)]) s K) Q
  | 0, i, k, acc, s, hi, ha, H, q => by
    have hlt : ¬ ((i : Int) < (W.length : Int)) := by omega
    rw [List.drop_eq_nil_of_le (by omega), List.filter_nil, List.append_nil] at q
    refine wp_round fun LL hLL => ?_
    simp -implicitDefEqProofs only [↓GP, GB, GL, Nat.reduceAdd, Nat.reduceSub, Nat.reduceEqDiff, Nat.reduceMul, Nat.reduceLeDiff, Int.reduceBNe, Int.reduceBEq, Nat.reduceLT, reduceCtorEq, l92_0, hlt]
    exact q s k H
  | n + 1, i, k, acc, s, hi, ha, H, q => by
    have hlt : ((i : Int) < (W.length : Int)) := by omega
    have hi' : i < W.length := by omega
    have hw1 := wrap_add1 (a := i) (by omega)
    have hix := ix_row (sz := 2) (k := ko) (n := W.length) (i := i) (kk := .i64) hi'
    have er : rowO 2 W.length (W.flatMap encW) = some (.cells (W.flatMap encW) (some 2)) := by unfold rowO; rw [if_neg (by omega)]
    have fr := H.mem (List.mem_cons_of_mem _ (er ▸ mo))
    have fc := H.mem (List.mem_cons_of_mem _ mc)
    have ft := H.mem (List.mem_cons_of_mem _ (mh (t, some (.cells [hv, rowV lk L.length, .map (some (.new mk))] none)) (List.mem_cons_self ..)))
    have mm := mh (mk, some m) (List.mem_cons_of_mem _ (List.mem_cons_of_mem _ (List.mem_cons_self ..)))
    have hld := ldN_tab (enc := encW) encW_len W (some 2) (List.getElem?_eq_getElem hi')
    rw [List.drop_eq_getElem_cons hi', List.filter_cons] at q
    generalize W[i] = w at q hld
    have h1 := (H.alloc (.cells [I 0, I 0] none)).set0 (.cells (encW w) none)
    have el := lookup_map keyA hm (h1.mem (List.mem_cons_of_mem _ (List.mem_cons_of_mem _ mm))).1 (.bool false) false w
    simp only [encA, encW, Bool.false_eq_true, if_false] at el
    by_cases hw : w ∈ L
    · rw [show seenF L w = some (.bool true) from if_pos hw, Option.getD_some] at el
      rw [if_pos (by simpa using hw)] at q
      refine wp_round fun LL hLL => ?_
      simp -implicitDefEqProofs only [↓GP, GB, GL, Nat.reduceAdd, Nat.reduceSub, Nat.reduceEqDiff, Nat.reduceMul, Nat.reduceLeDiff, Int.reduceBNe, Int.reduceBEq, Nat.reduceLT, reduceCtorEq, l92_0, hlt, hix, fr, fc, ft, hld, encW, el]
      refine wp_append (sz := 2) (bytes := 16) (m := 1) (cs := acc.flatMap encW) ((h1.alloc _).r2) (by rw [tab_len encW_len]) (new_cells' (alloc_new_same _ _) rfl) rfl rfl (by omega) (by unfold maxRow; omega) (by unfold maxRow; omega) fun k' s1 h2 => ?_
      simp -implicitDefEqProofs only [↓GP, GB, GL, Nat.reduceAdd, Nat.reduceSub, Nat.reduceEqDiff, Nat.reduceMul, Nat.reduceLeDiff, Int.reduceBNe, Int.reduceBEq, Nat.reduceLT, reduceCtorEq, hw1]
      rw [hLL]
      have hl1 : (acc ++ [w]).length = acc.length + 1 := by simp
      have := keep92 (K := K) (i0 := i0) mc mh hm mo hl n (i + 1) k' (acc ++ [w]) s1 (by omega) (by simp; omega) (by
        have h3 := h2.r1.tl.r1.tl
        rw [List.flatMap_append]; simpa [encW] using h3) (by simpa using q)
      rw [hl1] at this
      exact this
    · rw [show seenF L w = none from if_neg hw, Option.getD_none] at el
      rw [if_neg (by simpa using hw)] at q
      refine wp_round fun LL hLL => ?_
      simp -implicitDefEqProofs only [↓GP, GB, GL, Nat.reduceAdd, Nat.reduceSub, Nat.reduceEqDiff, Nat.reduceMul, Nat.reduceLeDiff, Int.reduceBNe, Int.reduceBEq, Nat.reduceLT, reduceCtorEq, l92_0, hlt, hix, fr, fc, ft, hld, encW, el, hw1]
      rw [hLL]
      exact keep92 mc mh hm mo hl n (i + 1) k acc _ (by omega) (by omega) (Holds.of (h1) (fun k => by simp +arith only [encW, HA, HB]) (fun k x => by simp only [encW, HA, HC]; grind only)) q
abbrev ToF := Int × Int → Option (Int × Int)
def updF (to : ToF) (x : (Int × Int) × (Int × Int)) : ToF := fun w => if w = x.1 then some x.2 else to w
theorem updF_map (to : ToF) (a n : Int × Int) : (fun b => if b = a then some (encA n) else (to b).map encA) = fun b => ((updF to (a, n)) b).map encA := by
  funext b
  unfold updF
  by_cases h : b = a
  · simp [h]
  · simp [h]
theorem set92 {c t tk fk kk kn : Nat} {Ks Ns : List (Int × Int)} {K : Kt} (mc : (c, some (.cells [ptrN t, .map (some (.new tk)), .map (some (.new fk))] none)) ∈ C) (mk : (kk, rowO 2 Ks.length (Ks.flatMap encW)) ∈ C) (mn : (kn, rowO 2 Ks.length (Ns.flatMap encW)) ∈ C)
    (hn : Ns.length = Ks.length) (hl : Ks.length ≤ 100000) :
    ∀ (n i : Nat) (to : ToF) (mt : O) (s : St), i + n = Ks.length → MapIs encA (fun w => (to w).map encA) mt → Holds o s ((tk, some mt) :: C) →
    (∀ s' mt', MapIs encA (fun w => ((((Ks.zip Ns).drop i).foldl updF to) w).map encA) mt' → Holds o s' ((tk, some mt') :: C) → WP (K (.exit 2) (sp 77 []) s') Q) →
    WP (loop PF (.loop l92_1) (sp 77 [(0, ptrN c), (9, rowV kn Ks.length), (60, rowV kk Ks.length), (61, I Ks.length), (62, I i)]) s K) Q
  | 0, i, to, mt, s, hi, hm, H, q => by
    have hlt : ¬ ((i : Int) < (Ks.length : Int)) := by omega
    rw [List.drop_eq_nil_of_le (by simp; omega), List.foldl_nil] at q
    refine wp_round fun LL hLL => ?_
    simp -implicitDefEqProofs only [↓GP, GB, GL, Nat.reduceAdd, Nat.reduceSub, Nat.reduceEqDiff, Nat.reduceMul, Nat.reduceLeDiff, Int.reduceBNe, Int.reduceBEq, Nat.reduceLT, reduceCtorEq, l92_1, hlt]
    exact q s mt hm H
  | n + 1, i, to, mt, s, hi, hm, H, q => by
    have hlt : ((i : Int) < (Ks.length : Int)) := by omega
    have hi' : i < Ks.length := by omega
    have hi2 : i < Ns.length := by omega
    have hw1 := wrap_add1 (a := i) (by omega)
    have hix := ix_row (sz := 2) (k := kk) (n := Ks.length) (i := i) (kk := .i64) hi'
    have hix2 := ix_row (sz := 2) (k := kn) (n := Ks.length) (i := i) (kk := .i64) hi'
    have er : rowO 2 Ks.length (Ks.flatMap encW) = some (.cells (Ks.flatMap encW) (some 2)) := by unfold rowO; rw [if_neg (by omega)]
    have er2 : rowO 2 Ks.length (Ns.flatMap encW) = some (.cells (Ns.flatMap encW) (some 2)) := by unfold rowO; rw [if_neg (by omega)]
    have fk' := H.mem (List.mem_cons_of_mem _ (er ▸ mk))
    have fn' := H.mem (List.mem_cons_of_mem _ (er2 ▸ mn))
    have fc := H.mem (List.mem_cons_of_mem _ mc)
    have hld := ldN_tab (enc := encW) encW_len Ks (some 2) (List.getElem?_eq_getElem hi')
    have hld2 := ldN_tab (enc := encW) encW_len Ns (some 2) (List.getElem?_eq_getElem hi2)
    rw [List.drop_eq_getElem_cons (by simp; omega), List.foldl_cons, List.getElem_zip] at q
    generalize Ks[i] = a at q hld
    generalize Ns[i] = b at q hld2
    have h1 := (H.alloc (.cells [I 0, I 0] none)).set0 (.cells (encW a) none)
    refine wp_round fun LL hLL => ?_
    simp -implicitDefEqProofs only [↓GP, GB, GL, Nat.reduceAdd, Nat.reduceSub, Nat.reduceEqDiff, Nat.reduceMul, Nat.reduceLeDiff, Int.reduceBNe, Int.reduceBEq, Nat.reduceLT, reduceCtorEq, l92_1, hlt, hix, hix2, fk', fn', fc, hld, hld2, encW]
    refine wp_mapSet (enc := encA) (a := a) (v := encA b) keyA hm (h1.tl.g0) fun mt' hm' => ?_
    rw [updF_map] at hm'
    simp -implicitDefEqProofs only [↓GP, GB, GL, Nat.reduceAdd, Nat.reduceSub, Nat.reduceEqDiff, Nat.reduceMul, Nat.reduceLeDiff, Int.reduceBNe, Int.reduceBEq, Nat.reduceLT, reduceCtorEq, hw1]
    rw [hLL]
    exact set92 mc mk mn hn hl n (i + 1) _ mt' _ (by omega) hm' (h1.set1 mt').tl q
theorem s92 {hp : PHeap} {c t tk fk lk mk : Nat} {mt mf m : O} {to : ToF} {L : List (Int × Int)} {A B : List PReg} {g : PReg}
    (H : Holds o s (poolC p r u ++ (hp.ch p ++ (colC c t tk fk mt mf ++ (huntC t lk mk (ptrN hp.id) L m ++ F))))) (hr : hp.regs = A ++ g :: B) (hs : g.size = 0) (hok : ∀ g ∈ hp.regs, g.ok) (hR : RsOk hp.lives u (hp.regs.map PReg.m))
    (hm : MapIs encA (seenF L) m) (hmt : MapIs encA (fun w => (to w).map encA) mt)
    (q : ∀ s' u' fill' pages' ats pgk obk plk pl mt',
      layM 0 g.life ((g.objs.filter fun x => decide (((x.b.at_ : Int), (g.life : Int)) ∈ L)).map fun x => x.b.ws.length + 1) (freeP u g.pages) 0 [] = some (ats, u', fill', pages') → u'.length = u.length →
      PReg.ok { g with pgk := pgk, obk := obk, plk := plk, pl := pl, fill := fill', pages := pages', objs := relay (g.objs.filter fun x => decide (((x.b.at_ : Int), (g.life : Int)) ∈ L)) ats } →
      RsOk hp.lives u' ((A ++ { g with pgk := pgk, obk := obk, plk := plk, pl := pl, fill := fill', pages := pages', objs := relay (g.objs.filter fun x => decide (((x.b.at_ : Int), (g.life : Int)) ∈ L)) ats } :: B).map PReg.m) →
      MapIs encA (fun w => ((((wordsP g.life (g.objs.filter fun x => decide (((x.b.at_ : Int), (g.life : Int)) ∈ L))).zip (ats.map fun a : Nat => ((a : Int), (g.life : Int)))).foldl updF to) w).map encA) mt' →
      Holds o s' (poolC p r u' ++ (({ hp with regs := A ++ { g with pgk := pgk, obk := obk, plk := plk, pl := pl, fill := fill', pages := pages', objs := relay (g.objs.filter fun x => decide (((x.b.at_ : Int), (g.life : Int)) ∈ L)) ats } :: B } : PHeap).ch p ++ (colC c t tk fk mt' mf ++ (huntC t lk mk (ptrN hp.id) L m ++ F)))) →
      Q (.tuple []) s') : WP (call PF 92 [ptrN c, I A.length] s) Q := by
  have hin : In (poolC p r u ++ (hp.ch p ++ (colC c t tk fk mt mf ++ (huntC t lk mk (ptrN hp.id) L m ++ F)))) p hp := ⟨fun x hx => List.mem_append_right _ (List.mem_append_left _ hx)⟩
  have hg : hp.regs[A.length]? = some g := by rw [hr]; simp
  have mg := List.mem_of_getElem? hg
  have hlen : hp.regs.length ≤ 100000 := by have h1 := hR.inv.len; have h2 := hR.inv.lives; rw [List.length_map] at h1; omega
  have hri := hR.inv.reg g.m (List.mem_map.2 ⟨g, mg, rfl⟩)
  have hu := hR.ulen
  have hpgs : (∀ x ∈ g.pages, x < u.length) ∧ g.pages.length ≤ 30 := by
    have hrm : g.m ∈ hp.regs.map PReg.m := List.mem_map.2 ⟨g, mg, rfl⟩
    have hsb := sub_flatMap (fun r : Reg => r.pages) hrm
    have := hR.pool.sub_len hsb
    exact ⟨fun x hx => hR.pool.lt (hsb.subset hx), by simp only [PReg.m] at *; omega⟩
  have hrok : RegOk u.length g.m := hri.ok (by have := (hR.inv.life g.m (List.mem_map.2 ⟨g, mg, rfl⟩)).2; have := hR.inv.lives; omega) hpgs.1 (by omega) (by have := hpgs.2; simp only [PReg.m]; omega)
  have hno : g.objs.length ≤ 961 := by have := hri.nobjs; simp only [PReg.m, List.length_map] at this; have := hpgs.2; omega
  have hat : (g.objs.map (·.b.at_)).Nodup := by have := hri.nodup; simpa [PReg.m, List.map_map, Function.comp_def] using this
  have hpick := pick_filter (life := g.life) (fun x => decide (((x.b.at_ : Int), (g.life : Int)) ∈ L)) hat
  have hsub : (g.objs.filter fun x => decide (((x.b.at_ : Int), (g.life : Int)) ∈ L)).Sublist g.objs := List.filter_sublist ..
  have hW : (wordsP g.life g.objs).filter (decide <| · ∈ L) = wordsP g.life (g.objs.filter fun x => decide (((x.b.at_ : Int), (g.life : Int)) ∈ L)) := by
    unfold wordsP; rw [List.filter_map]; rfl
  generalize hxs : (g.objs.filter fun x => decide (((x.b.at_ : Int), (g.life : Int)) ∈ L)) = xs at hpick hsub hW q
  have hm2 : hp.regs.map PReg.m = A.map PReg.m ++ g.m :: B.map PReg.m := by rw [hr]; simp
  have hR2 := hR
  rw [hm2] at hR2
  obtain ⟨ats, u', fill', pages', hlay, hnd, hpl', hal, hul, hR'⟩ := hR2.turn hs (ys := xs.map (·.b)) (hsub.map _)
  have hlay' : layM 0 g.life (xs.map fun x => x.b.ws.length + 1) (freeP u g.pages) 0 [] = some (ats, u', fill', pages') := by
    rw [List.map_map] at hlay; exact hlay
  have hal' : ats.length = xs.length := by simpa using hal
  have fc := H.mem (List.mem_append_right _ (List.mem_append_right _ (List.mem_append_left _ (List.mem_cons_self ..))) : (c, some (O.cells [ptrN t, V.map (some (.new tk)), V.map (some (.new fk))] none)) ∈ poolC p r u ++ (hp.ch p ++ (colC c t tk fk mt mf ++ (huntC t lk mk (ptrN hp.id) L m ++ F))))
  have ft := H.mem (List.mem_append_right _ (List.mem_append_right _ (List.mem_append_right _ (List.mem_append_left _ (List.mem_cons_self ..)))) : (t, some (O.cells [ptrN hp.id, rowV lk L.length, V.map (some (.new mk))] none)) ∈ poolC p r u ++ (hp.ch p ++ (colC c t tk fk mt mf ++ (huntC t lk mk (ptrN hp.id) L m ++ F))))
  rw [call_run F92]; simp -implicitDefEqProofs only [↓GP, GB, GL, Nat.reduceAdd, Nat.reduceSub, Nat.reduceEqDiff, Nat.reduceMul, Nat.reduceLeDiff, Int.reduceBNe, Int.reduceBEq, Nat.reduceLT, reduceCtorEq, c92, fc, ft]
  refine wp_in (s28 H hin hlen hg (by omega) fun s1 ko h1 => ?_)
  rw [words_enc, show g.objs.length = (wordsP g.life g.objs).length by simp [wordsP]] at h1
  rw [show g.objs.length = (wordsP g.life g.objs).length by simp [wordsP]]
  simp -implicitDefEqProofs only [↓GP, GB, GL, Nat.reduceAdd, Nat.reduceSub, Nat.reduceEqDiff, Nat.reduceMul, Nat.reduceLeDiff, Int.reduceBNe, Int.reduceBEq, Nat.reduceLT, reduceCtorEq]
  have hwl : (wordsP g.life xs).length = xs.length := by simp [wordsP]
  have hxl : xs.length ≤ 961 := Nat.le_trans hsub.length_le hno
  have mc1 : (c, some (O.cells [ptrN t, V.map (some (.new tk)), V.map (some (.new fk))] none)) ∈ (ko, rowO 2 (wordsP g.life g.objs).length ((wordsP g.life g.objs).flatMap encW)) :: (poolC p r u ++ (hp.ch p ++ (colC c t tk fk mt mf ++ (huntC t lk mk (ptrN hp.id) L m ++ F)))) :=
    List.mem_cons_of_mem _ (List.mem_append_right _ (List.mem_append_right _ (List.mem_append_left _ (List.mem_cons_self ..))))
  have := keep92 (K := blockK 0 (seqK (loop PF) (call PF) j92_bbb (finR []))) (Q := Q) (i0 := I A.length) (lk := lk) (mk := mk) (hv := ptrN hp.id) mc1 (fun x hx => List.mem_cons_of_mem _ (List.mem_append_right _ (List.mem_append_right _ (List.mem_append_right _ (List.mem_append_left _ hx))))) hm (List.mem_cons_self ..) (by simp [wordsP]; omega) (wordsP g.life g.objs).length 0 0 [] s1 (by omega) (by simp) (h1.nilEntry 0)
  simp only [List.drop_zero, List.nil_append, List.length_nil, Int.natCast_zero, hW] at this
  refine this fun s2 kk h3 => ?_
  have fc2 := h3.mem (List.mem_cons_of_mem _ mc1)
  have ft2 := h3.mem (List.mem_cons_of_mem _ (List.mem_cons_of_mem _ (List.mem_append_right _ (List.mem_append_right _ (List.mem_append_right _ (List.mem_append_left _ (List.mem_cons_self ..)))))) : (t, some (O.cells [ptrN hp.id, rowV lk L.length, V.map (some (.new mk))] none)) ∈ _)
  simp -implicitDefEqProofs only [↓GP, GB, GL, Nat.reduceAdd, Nat.reduceSub, Nat.reduceEqDiff, Nat.reduceMul, Nat.reduceLeDiff, Int.reduceBNe, Int.reduceBEq, Nat.reduceLT, reduceCtorEq, j92_bbb, fc2, ft2]
  refine wp_in (s109 (o := o) (hp := hp) (p := p) (r := r) (wk := kk) (u := u) (A := A) (B := B) (g := g) (ws := wordsP g.life xs) (xs := xs) (ats := ats) (u' := u') (fill' := fill') (pages' := pages') (F := (kk, rowO 2 (wordsP g.life xs).length ((wordsP g.life xs).flatMap encW)) :: (colC c t tk fk mt mf ++ (huntC t lk mk (ptrN hp.id) L m ++ F)))
    (Holds.of (h3) (fun k => by simp +arith only [HA, HB]) (fun k x => by simp only [HA, HC]; grind only)) hr hlen (by omega) hrok (by omega) (by omega) (List.mem_cons_self ..) hs hpick hlay' hnd (by omega) fun s3 pgk obk plk pl kn okp h4 => ?_)
  rw [relay_enc _ _ _ hal'] at h4
  simp -implicitDefEqProofs only [↓GP, GB, GL, Nat.reduceAdd, Nat.reduceSub, Nat.reduceEqDiff, Nat.reduceMul, Nat.reduceLeDiff, Int.reduceBNe, Int.reduceBEq, Nat.reduceLT, reduceCtorEq, j92_bbbbb]
  have h5 : Holds o s3 ((tk, some mt) :: (c, some (.cells [ptrN t, .map (some (.new tk)), .map (some (.new fk))] none)) :: (kk, rowO 2 (wordsP g.life xs).length ((wordsP g.life xs).flatMap encW)) :: (kn, rowO 2 (wordsP g.life xs).length ((ats.map fun a : Nat => ((a : Int), (g.life : Int))).flatMap encW)) :: (fk, some mf) ::
      (poolC p r u' ++ (({ hp with regs := A ++ { g with pgk := pgk, obk := obk, plk := plk, pl := pl, fill := fill', pages := pages', objs := relay xs ats } :: B } : PHeap).ch p ++ (huntC t lk mk (ptrN hp.id) L m ++ F)))) := (Holds.of (h4) (fun k => by simp +arith only [colC, HA, HB]) (fun k x => by simp only [colC, HA, HC]; grind only))
  have := set92 (K := blockK 2 (finR [])) (Q := Q) (t := t) (fk := fk) (List.mem_cons_self ..) (List.mem_cons_of_mem _ (List.mem_cons_self ..)) (List.mem_cons_of_mem _ (List.mem_cons_of_mem _ (List.mem_cons_self ..))) (by simp; omega) (by omega) (wordsP g.life xs).length 0 to mt s3 (by omega) hmt h5
  simp only [List.drop_zero, Int.natCast_zero] at this
  refine this fun s4 mt' hm' h6 => ?_
  simp -implicitDefEqProofs only [↓GP, GB, GL, Nat.reduceAdd, Nat.reduceSub, Nat.reduceEqDiff, Nat.reduceMul, Nat.reduceLeDiff, Int.reduceBNe, Int.reduceBEq, Nat.reduceLT, reduceCtorEq]
  refine q s4 u' fill' pages' ats pgk obk plk pl mt' hlay' hul okp ?_ hm' (Holds.of (h6) (fun k => by simp +arith only [colC, HA, HB]) (fun k x => by simp only [colC, HA, HC]; grind only))
  rw [List.map_append, List.map_cons]
  simp only [PReg.m, relay_b]
  exact hR'
end
end Go.Proofs.Ytoldkemimhebaaa

set_option linter.unusedSimpArgs false
set_option linter.unusedVariables false
namespace Go.Proofs.Ytoldkemimhebaaa
open Go Go.IM
def l46_0 : IC := (.seq (.seq (.region [oa 52 (.bin .lss (.t 51) (.t 50))] (kp 132 [1,2,4,5,6,7,9,33,34,49,50,51,52]))
  (.seq (.cond (.t 52)
  (sk 132 [1,2,4,5,6,7,9,33,34,49,50,51])
  (sx 132 [1,2,4,5,6,7,9,33,34] 2))
  (.seq (.block 3
  (.seq (.region [oa 53 (.indexAddr 2 (.t 49) (.t 51)), oa 54 (.load (some 2) (.t 53)), oa 12 (.alloc [(.int .i64 (0)), (.int .i64 (0))]), ob (.store 2 (.t 12) (.t 54))] (kp 132 [1,2,4,5,6,7,9,12,33,34,49,50,51]))
  (.region [oa 55 (.load none (.t 6)), oa 56 (.nilCheck (.t 55)), oa 57 (.fieldAddr 2 (.t 56)), oa 58 (.load none (.t 57)), oa 59 (.load (some 2) (.t 12)), ob (.mapSet (.agg [.i, .i]) (.t 58) (.t 59) (.c (.bool true)))] (kp 132 [1,2,4,5,6,7,9,33,34,49,50,51]))))
  (.region [oa 60 (.bin .add (.t 51) (ai 1)), oa 51 (.mov (.t 60))] (kp 132 [1,2,4,5,6,7,9,33,34,49,50,51])))))
  (sk 132 [1,2,4,5,6,7,9,33,34,49,50,51]))
def l46_1 : IC := (.seq (.seq (.region [oa 35 (.bin .lss (.t 34) (.t 33))] (kp 132 [1,2,4,5,6,7,33,34,35]))
  (.seq (.cond (.t 35)
  (sk 132 [1,2,4,5,6,7,33,34])
  (sx 132 [1,2,4,5,6,7] 0))
  (.seq (.block 1
  (.seq (.region [oa 36 (.mov (.t 34)), oa 8 (.mov (.t 36))] (kp 132 [1,2,4,5,6,7,8,33,34]))
  (.seq (.region [oa 37 (.load none (.t 2)), oa 38 (.mov (.t 8)), oa 39 (.call 91 [(.t 37), (.t 38)])] (kp 132 [1,2,4,5,6,7,8,33,34,39]))
  (.cond (.t 39)
  (.region [oa 40 (.load none (.t 6)), oa 41 (.mov (.t 8)), oa 42 (.call 92 [(.t 40), (.t 41)])] (kp 132 [1,2,4,5,6,7,33,34]))
  (.seq (.region [oa 44 (.load none (.t 2)), oa 45 (.mov (.t 8)), oa 46 (.call 28 [(.t 44), (.t 45)]), oa 43 (.mov (.t 46)), oa 47 (.extract (.t 43) 0), oa 48 (.extract (.t 43) 1), oa 9 (.mov (.t 47)), oa 10 (.mov (.t 48))] (kp 132 [1,2,4,5,6,7,9,33,34]))
  (.seq (.seq (.region [oa 49 (.mov (.t 9)), oa 50 (.lenSlice (.t 49)), oa 51 (.mov (ai 0))] (kp 132 [1,2,4,5,6,7,9,33,34,49,50,51]))
  (.block 2
  (.seq (sk 132 [1,2,4,5,6,7,9,33,34,49,50,51])
  (.loop l46_0))))
  (.region [oa 61 (.mov (.t 7)), oa 62 (.mov (.t 9)), oa 63 (.append 2 16 (.t 61) (.t 62)), oa 7 (.mov (.t 63))] (kp 132 [1,2,4,5,6,7,33,34]))))))))
  (.region [oa 64 (.bin .add (.t 34) (ai 1)), oa 34 (.mov (.t 64))] (kp 132 [1,2,4,5,6,7,33,34])))))
  (sk 132 [1,2,4,5,6,7,33,34]))
def l46_2 : IC := (.seq (.seq (.region [oa 74 (.bin .lss (.t 73) (.t 72))] (kp 132 [1,2,4,5,6,7,71,72,73,74]))
  (.seq (.cond (.t 74)
  (sk 132 [1,2,4,5,6,7,71,72,73])
  (sx 132 [1,2,4,5,6,7] 4))
  (.seq (.block 5
  (.seq (.region [oa 75 (.indexAddr 2 (.t 71) (.t 73)), oa 76 (.load (some 2) (.t 75)), oa 14 (.alloc [(.int .i64 (0)), (.int .i64 (0))]), ob (.store 2 (.t 14) (.t 76))] (kp 132 [1,2,4,5,6,7,14,71,72,73]))
  (.seq (.region [oa 77 (.load none (.t 6)), oa 78 (.nilCheck (.t 77)), oa 79 (.fieldAddr 2 (.t 78)), oa 80 (.load none (.t 79)), oa 81 (.load (some 2) (.t 14)), oa 82 (.lookup (.agg [.i, .i]) (.bool false) false (.t 80) (.t 81)), oa 83 (.un .not (.t 82))] (kp 132 [1,2,4,5,6,7,14,71,72,73,83]))
  (.cond (.t 83)
  (.region [oa 84 (.mov (.t 7)), oa 85 (.load none (.t 6)), oa 86 (.nilCheck (.t 85)), oa 87 (.fieldAddr 1 (.t 86)), oa 88 (.load none (.t 87)), oa 89 (.load (some 2) (.t 14)), oa 90 (.lookup (.agg [.i, .i]) (.agg [(.int .i64 (0)), (.int .i64 (0))]) false (.t 88) (.t 89)), oa 91 (.buildSlice 1 [(.int .i64 (0)), (.int .i64 (0))] [(0, 2, (.t 90))]), oa 92 (.append 2 16 (.t 84) (.t 91)), oa 7 (.mov (.t 92))] (kp 132 [1,2,4,5,6,7,71,72,73]))
  (sk 132 [1,2,4,5,6,7,71,72,73])))))
  (.region [oa 93 (.bin .add (.t 73) (ai 1)), oa 73 (.mov (.t 93))] (kp 132 [1,2,4,5,6,7,71,72,73])))))
  (sk 132 [1,2,4,5,6,7,71,72,73]))
def a46_3 : IC := (.region [oa 18 (.alloc [(.int .i64 (0)), (.int .i64 (0))]), ob (.store 2 (.t 18) (.t 103))] (kp 132 [2,6,16,17,18]))
def b46_3 : IC := (.block 9
  (.seq (.seq (.region [oa 104 (.load none (.t 6)), oa 105 (.load (some 2) (.t 18)), oa 106 (.call 94 [(.t 104), (.t 105)]), oa 19 (.alloc [(.int .i64 (0)), (.int .i64 (0))]), ob (.store 2 (.t 19) (.t 106))] (kp 132 [2,16,17,18,19]))
  (.seq (.region [oa 107 (.load (some 2) (.t 19)), oa 108 (.load (some 2) (.t 18)), oa 109 (.eql true (.key (.agg [.i, .i])) (.t 107) (.t 108))] (kp 132 [2,16,17,19,109]))
  (.cond (.t 109)
  (.region [oa 110 (.load none (.t 2)), oa 111 (.load (some 2) (.t 16)), oa 112 (.load none (.t 17)), oa 113 (.load (some 2) (.t 19)), oa 114 (.call 65 [(.t 110), (.t 111), (.t 112), (.t 113)])] (kp 132 [17]))
  (sk 132 [17]))))
  (.region [oa 115 (.load none (.t 17)), oa 116 (.bin .add (.t 115) (ai 1)), ob (.store 1 (.t 17) (.t 116))] (kp 132 []))))
def l46_4 : IC := (.seq (.seq (.region [oa 97 (.bin .lss (.t 96) (.t 95))] (kp 132 [1,2,4,5,6,94,95,96,97]))
  (.seq (.cond (.t 97)
  (sk 132 [1,2,4,5,6,94,95,96])
  (sx 132 [1,6] 6))
  (.seq (.block 7
  (.seq (.region [oa 98 (.indexAddr 2 (.t 94) (.t 96)), oa 99 (.load (some 2) (.t 98)), oa 16 (.alloc [(.int .i64 (0)), (.int .i64 (0))]), ob (.store 2 (.t 16) (.t 99))] (kp 132 [1,2,4,5,6,16,94,95,96]))
  (.seq (.region [oa 17 (.alloc [(.int .i64 (0))]), ob (.store 1 (.t 17) (ai 0))] (kp 132 [1,2,4,5,6,16,17,94,95,96]))
  (.seq (.region [oa 100 (.load none (.t 2)), oa 101 (.load (some 2) (.t 16)), oa 102 (.call 93 [(.t 100), (.t 101)])] (kp 132 [1,2,4,5,6,16,17,94,95,96,102]))
  (.block 8
  (.seq (sk 132 [1,2,4,5,6,16,17,94,95,96,102])
  (.seq (.range (.t 102) [103] a46_3 b46_3)
  (sk 132 [1,2,4,5,6,94,95,96]))))))))
  (.region [oa 117 (.bin .add (.t 96) (ai 1)), oa 96 (.mov (.t 117))] (kp 132 [1,2,4,5,6,94,95,96])))))
  (sk 132 [1,2,4,5,6,94,95,96]))
def l46_5 : IC := (.seq (.seq (.region [oa 121 (.bin .lss (.t 120) (.t 119))] (kp 132 [6,20,118,119,120,121]))
  (.seq (.cond (.t 121)
  (sk 132 [6,20,118,119,120])
  (sx 132 [20] 10))
  (.seq (.block 11
  (.seq (.region [oa 122 (.indexAddr 2 (.t 118) (.t 120)), oa 123 (.load (some 2) (.t 122)), oa 22 (.alloc [(.int .i64 (0)), (.int .i64 (0))]), ob (.store 2 (.t 22) (.t 123))] (kp 132 [6,20,22,118,119,120]))
  (.region [oa 124 (.mov (.t 20)), oa 125 (.load none (.t 6)), oa 126 (.load (some 2) (.t 22)), oa 127 (.call 94 [(.t 125), (.t 126)]), oa 128 (.buildSlice 1 [(.int .i64 (0)), (.int .i64 (0))] [(0, 2, (.t 127))]), oa 129 (.append 2 16 (.t 124) (.t 128)), oa 20 (.mov (.t 129))] (kp 132 [6,20,118,119,120]))))
  (.region [oa 130 (.bin .add (.t 120) (ai 1)), oa 120 (.mov (.t 130))] (kp 132 [6,20,118,119,120])))))
  (sk 132 [6,20,118,119,120]))
def j46_bbbbbbbbb : IC := (.seq (.region [oa 131 (.mov (.t 20)), oa 4 (.mov (.t 131)), oa 5 (.mov (ai 0))] (kp 132 [4,5]))
  (sr 132 [4,5]))
def j46_bbbbbbb : IC := (.seq (.region [oa 20 (.mov (.c (.slice none 0 (some 0))))] (kp 132 [1,6,20]))
  (.seq (.seq (.region [oa 118 (.mov (.t 1)), oa 119 (.lenSlice (.t 118)), oa 120 (.mov (ai 0))] (kp 132 [6,20,118,119,120]))
  (.block 10
  (.seq (sk 132 [6,20,118,119,120])
  (.loop l46_5))))
  j46_bbbbbbbbb))
def j46_bbbbbb : IC := (.seq (.seq (.region [oa 94 (.mov (.t 7)), oa 95 (.lenSlice (.t 94)), oa 96 (.mov (ai 0))] (kp 132 [1,2,4,5,6,94,95,96]))
  (.block 6
  (.seq (sk 132 [1,2,4,5,6,94,95,96])
  (.loop l46_4))))
  j46_bbbbbbb)
def j46_bbbbb : IC := (.seq (.seq (.region [oa 65 (.load none (.t 6)), oa 66 (.nilCheck (.t 65)), oa 67 (.fieldAddr 0 (.t 66)), oa 68 (.load none (.t 67)), oa 69 (.nilCheck (.t 68)), oa 70 (.fieldAddr 1 (.t 69)), oa 71 (.load none (.t 70)), oa 72 (.lenSlice (.t 71)), oa 73 (.mov (ai 0))] (kp 132 [1,2,4,5,6,7,71,72,73]))
  (.block 4
  (.seq (sk 132 [1,2,4,5,6,7,71,72,73])
  (.loop l46_2))))
  j46_bbbbbb)
def c46 : IFn := ⟨132, [(4, none), (5, none)],
  (.seq (.region [oa 2 (.box (.t 0)), oa 4 (.mov (.c (.slice none 0 (some 0)))), oa 5 (.mov (ai 0))] (kp 132 [1,2,4,5]))
  (.seq (.seq (.region [oa 23 (.load none (.t 2)), oa 24 (.call 89 [(.t 23)])] (kp 132 [1,2,4,5,24]))
  (.cond (.t 24)
  (.seq (.region [oa 4 (.mov (.c (.slice none 0 (some 0)))), oa 5 (.mov (ai 6))] (kp 132 [4,5]))
  (sr 132 [4,5]))
  (sk 132 [1,2,4,5])))
  (.seq (.region [oa 25 (.load none (.t 2)), oa 26 (.mov (.t 1)), oa 27 (.call 90 [(.t 25), (.t 26)]), oa 28 .mkMap, oa 29 .mkMap, oa 30 (.build [(.ptr none), (.map none), (.map none)] [(0, 1, (.t 27)), (1, 1, (.t 28)), (2, 1, (.t 29))]), oa 31 (.box (.t 30)), oa 6 (.alloc [(.ptr none)]), ob (.store 1 (.t 6) (.t 31))] (kp 132 [1,2,4,5,6]))
  (.seq (.region [oa 7 (.mov (.c (.slice none 0 (some 0))))] (kp 132 [1,2,4,5,6,7]))
  (.seq (.seq (.region [oa 32 (.load none (.t 2)), oa 33 (.call 27 [(.t 32)]), oa 34 (.mov (ai 0))] (kp 132 [1,2,4,5,6,7,33,34]))
  (.block 0
  (.seq (sk 132 [1,2,4,5,6,7,33,34])
  (.loop l46_1))))
  j46_bbbbb)))))⟩
theorem F46 : shutF Try.prog 46 = some c46 := by kernel_rfl
def wordsR (g : Reg) : List (Int × Int) := g.objs.map fun x => ((x.at_ : Int), (g.life : Int))
structure ColS where
  regs : List Reg
  u : List Bool
  mv : ToF
  fx : List (Int × Int)
  objs : List (Int × Int)
def keptM (L : List (Int × Int)) (g : Reg) : List Obj := g.objs.filter fun x => decide (((x.at_ : Int), (g.life : Int)) ∈ L)
def colStep (L : List (Int × Int)) (S : ColS) (g : Reg) : ColS :=
  if 0 < g.pages.length then
    match layM 0 g.life ((keptM L g).map fun x => x.ws.length + 1) (freeP S.u g.pages) 0 [] with
    | some (ats, u', fill', pages') => ⟨S.regs ++ [{ g with fill := fill', pages := pages', objs := layObj (keptM L g) ats }], u',
        (((keptM L g).map fun x => ((x.at_ : Int), (g.life : Int))).zip (ats.map fun a : Nat => ((a : Int), (g.life : Int)))).foldl updF S.mv, S.fx, S.objs⟩
    | none => ⟨S.regs ++ [g], S.u, S.mv, S.fx, S.objs⟩
  else ⟨S.regs ++ [g], S.u, S.mv, S.fx ++ wordsR g, S.objs ++ wordsR g⟩
section
variable {o : Nat → Option O} {s : St} {C F : Ch} {Q : V → St → Prop} {p r : Nat} {u : List Bool}
set_option maxRecDepth 10000
set_option maxHeartbeats 4000000
theorem seenF_add (l : List (Int × Int)) (w : Int × Int) : (fun b => if b = w then some (V.bool true) else seenF l b) = seenF (l ++ [w]) := by
  funext b
  unfold seenF
  by_cases hb : b = w
  · subst hb; simp
  · simp [hb]
theorem fix_loop {c t tk fk cb kl : Nat} {v1 v2 v4 v5 v7 v33 v34 : V} {W : List (Int × Int)} {K : Kt} (mc : (c, some (.cells [ptrN t, .map (some (.new tk)), .map (some (.new fk))] none)) ∈ C) (mb : (cb, some (.cells [ptrN c] none)) ∈ C)
    (mo : (kl, rowO 2 W.length (W.flatMap encW)) ∈ C) (hl : W.length ≤ 100000) :
    ∀ (n i : Nat) (fx : List (Int × Int)) (mf : O) (s : St), i + n = W.length → MapIs encA (seenF fx) mf → Holds o s ((fk, some mf) :: C) →
    (∀ s' mf', MapIs encA (seenF (fx ++ W.drop i)) mf' → Holds o s' ((fk, some mf') :: C) → WP (K (.exit 2) (sp 132 [(1, v1), (2, v2), (4, v4), (5, v5), (6, ptrN cb), (7, v7), (9, rowV kl W.length), (33, v33), (34, v34)]) s') Q) →
    WP (loop PF (.loop l46_0) (sp 132 [(1, v1), (2, v2), (4, v4), (5, v5), (6, ptrN cb), (7, v7), (9, rowV kl W.length), (33, v33), (34, v34), (49, rowV kl W.length), (50, I W.length), (51, I i)]) s K) Q
  | 0, i, fx, mf, s, hi, hm, H, q => by
    have hlt : ¬ ((i : Int) < (W.length : Int)) := by omega
    rw [List.drop_eq_nil_of_le (by omega), List.append_nil] at q
    refine wp_round fun LL hLL => ?_
    simp -implicitDefEqProofs only [↓GP, GB, GL, Nat.reduceAdd, Nat.reduceSub, Nat.reduceEqDiff, Nat.reduceMul, Nat.reduceLeDiff, Int.reduceBNe, Int.reduceBEq, Nat.reduceLT, reduceCtorEq, l46_0, hlt]
    exact q s mf hm H
  | n + 1, i, fx, mf, s, hi, hm, H, q => by
    have hlt : ((i : Int) < (W.length : Int)) := by omega
    have hi' : i < W.length := by omega
    have hw1 := wrap_add1 (a := i) (by omega)
    have hix := ix_row (sz := 2) (k := kl) (n := W.length) (i := i) (kk := .i64) hi'
    have er : rowO 2 W.length (W.flatMap encW) = some (.cells (W.flatMap encW) (some 2)) := by unfold rowO; rw [if_neg (by omega)]
    have fr := H.mem (List.mem_cons_of_mem _ (er ▸ mo))
    have fc := H.mem (List.mem_cons_of_mem _ mc)
    have fb := H.mem (List.mem_cons_of_mem _ mb)
    have hld := ldN_tab (enc := encW) encW_len W (some 2) (List.getElem?_eq_getElem hi')
    rw [List.drop_eq_getElem_cons hi'] at q
    generalize W[i] = w at q hld
    have h1 := (H.alloc (.cells [I 0, I 0] none)).set0 (.cells (encW w) none)
    refine wp_round fun LL hLL => ?_
    simp -implicitDefEqProofs only [↓GP, GB, GL, Nat.reduceAdd, Nat.reduceSub, Nat.reduceEqDiff, Nat.reduceMul, Nat.reduceLeDiff, Int.reduceBNe, Int.reduceBEq, Nat.reduceLT, reduceCtorEq, l46_0, hlt, hix, fr, fc, fb, hld, encW]
    refine wp_mapSet (enc := encA) (a := w) (v := .bool true) keyA hm (h1.tl.g0) fun mf' hm' => ?_
    rw [seenF_add] at hm'
    simp -implicitDefEqProofs only [↓GP, GB, GL, Nat.reduceAdd, Nat.reduceSub, Nat.reduceEqDiff, Nat.reduceMul, Nat.reduceLeDiff, Int.reduceBNe, Int.reduceBEq, Nat.reduceLT, reduceCtorEq, hw1]
    rw [hLL]
    exact fix_loop mc mb mo hl n (i + 1) _ mf' _ (by omega) hm' (h1.set1 mf').tl (by simpa using q)
theorem kept_m (L : List (Int × Int)) (g : PReg) : keptM L g.m = (g.objs.filter fun x => decide (((x.b.at_ : Int), (g.life : Int)) ∈ L)).map (·.b) := by
  unfold keptM PReg.m
  rw [List.filter_map]
  rfl
theorem words_m (g : PReg) : wordsR g.m = wordsP g.life g.objs := by
  unfold wordsR wordsP PReg.m
  rw [List.map_map]
  rfl
theorem col_loop {c t tk fk lk mk hb cb id lv : Nat} {v1 v4 v5 : V} {L : List (Int × Int)} {m : O} {K : Kt} (mhb : (hb, some (.cells [ptrN id] none)) ∈ F) (mcb : (cb, some (.cells [ptrN c] none)) ∈ F) (hm : MapIs encA (seenF L) m) :
    ∀ (B A : List PReg) (hp : PHeap) (S : ColS) (ko : Nat) (mt mf : O) (s : St), hp.id = id → hp.lives = lv → hp.regs = A ++ B → A.map PReg.m = S.regs → RsOk hp.lives S.u (hp.regs.map PReg.m) → (∀ g ∈ hp.regs, g.ok) → S.objs.length ≤ A.length →
    MapIs encA (fun w => (S.mv w).map encA) mt → MapIs encA (seenF S.fx) mf →
    Holds o s ((ko, rowO 2 S.objs.length (S.objs.flatMap encW)) :: (poolC p r S.u ++ (hp.ch p ++ (colC c t tk fk mt mf ++ (huntC t lk mk (ptrN id) L m ++ F))))) →
    (∀ s' (hp' : PHeap) ko' mt' mf', hp'.id = id → hp'.lives = lv → hp'.regs.length = hp.regs.length → hp'.regs.map PReg.m = ((B.map PReg.m).foldl (colStep L) S).regs → RsOk lv ((B.map PReg.m).foldl (colStep L) S).u (hp'.regs.map PReg.m) → (∀ g ∈ hp'.regs, g.ok) → ((B.map PReg.m).foldl (colStep L) S).objs.length ≤ hp.regs.length →
      MapIs encA (fun w => (((B.map PReg.m).foldl (colStep L) S).mv w).map encA) mt' → MapIs encA (seenF ((B.map PReg.m).foldl (colStep L) S).fx) mf' →
      Holds o s' ((ko', rowO 2 ((B.map PReg.m).foldl (colStep L) S).objs.length (((B.map PReg.m).foldl (colStep L) S).objs.flatMap encW)) :: (poolC p r ((B.map PReg.m).foldl (colStep L) S).u ++ (hp'.ch p ++ (colC c t tk fk mt' mf' ++ (huntC t lk mk (ptrN id) L m ++ F))))) →
      WP (K (.exit 0) (sp 132 [(1, v1), (2, ptrN hb), (4, v4), (5, v5), (6, ptrN cb), (7, rowV ko' ((B.map PReg.m).foldl (colStep L) S).objs.length)]) s') Q) →
    WP (loop PF (.loop l46_1) (sp 132 [(1, v1), (2, ptrN hb), (4, v4), (5, v5), (6, ptrN cb), (7, rowV ko S.objs.length), (33, I hp.regs.length), (34, I A.length)]) s K) Q
  | [], A, hp, S, ko, mt, mf, s, hid, hlv, hr, hA, hR, hok, hob, hmt, hmf, H, q => by
    have hlt : ¬ ((A.length : Int) < (hp.regs.length : Int)) := by rw [hr]; simp
    refine wp_round fun LL hLL => ?_
    simp -implicitDefEqProofs only [↓GP, GB, GL, Nat.reduceAdd, Nat.reduceSub, Nat.reduceEqDiff, Nat.reduceMul, Nat.reduceLeDiff, Int.reduceBNe, Int.reduceBEq, Nat.reduceLT, reduceCtorEq, l46_1, hlt]
    rw [List.append_nil] at hr
    exact q s hp ko mt mf hid hlv rfl (by rw [hr]; exact hA) (hlv ▸ hR) hok (by rw [hr]; exact hob) hmt hmf H
  | g :: B, A, hp, S, ko, mt, mf, s, hid, hlv, hr, hA, hR, hok, hob, hmt, hmf, H, q => by
    have hlen : hp.regs.length ≤ 100000 := by have h1 := hR.inv.len; have h2 := hR.inv.lives; rw [List.length_map] at h1; omega
    have hlt : ((A.length : Int) < (hp.regs.length : Int)) := by rw [hr]; simp; omega
    have hAl : A.length < hp.regs.length := by rw [hr]; simp
    have hg : hp.regs[A.length]? = some g := by rw [hr]; simp
    have mg := List.mem_of_getElem? hg
    have hri := hR.inv.reg g.m (List.mem_map.2 ⟨g, mg, rfl⟩)
    have hw1 := wrap_add1 (a := A.length) (by omega)
    have hu := hR.ulen
    have hpl : g.pages.length ≤ 30 := by
      have hrm : g.m ∈ hp.regs.map PReg.m := List.mem_map.2 ⟨g, mg, rfl⟩
      have hsb := sub_flatMap (fun r : Reg => r.pages) hrm
      have := hR.pool.sub_len hsb
      simp only [PReg.m] at *; omega
    subst hid
    have hin : In ((ko, rowO 2 S.objs.length (S.objs.flatMap encW)) :: (poolC p r S.u ++ (hp.ch p ++ (colC c t tk fk mt mf ++ (huntC t lk mk (ptrN hp.id) L m ++ F))))) p hp := ⟨fun x hx => List.mem_cons_of_mem _ (List.mem_append_right _ (List.mem_append_left _ hx))⟩
    have inF : ∀ x ∈ F, x ∈ (ko, rowO 2 S.objs.length (S.objs.flatMap encW)) :: (poolC p r S.u ++ (hp.ch p ++ (colC c t tk fk mt mf ++ (huntC t lk mk (ptrN hp.id) L m ++ F)))) :=
      fun x hx => List.mem_cons_of_mem _ (List.mem_append_right _ (List.mem_append_right _ (List.mem_append_right _ (List.mem_append_right _ hx))))
    have fh := H.mem (inF _ mhb)
    have fc := H.mem (inF _ mcb)
    refine wp_round fun LL hLL => ?_
    simp -implicitDefEqProofs only [↓GP, GB, GL, Nat.reduceAdd, Nat.reduceSub, Nat.reduceEqDiff, Nat.reduceMul, Nat.reduceLeDiff, Int.reduceBNe, Int.reduceBEq, Nat.reduceLT, reduceCtorEq, l46_1, hlt, fh, fc]
    refine wp_in (s91 H hin hlen hg (by omega) fun s1 h1 => ?_)
    have fh1 := h1.mem (inF _ mhb)
    have fc1 := h1.mem (inF _ mcb)
    by_cases hpg : 0 < g.pages.length
    · rw [decide_eq_true hpg]
      have hs0 : g.size = 0 := by
        rcases Nat.eq_zero_or_pos g.size with h | h
        · exact h
        · have := (hri.fin h).1; simp only [PReg.m] at this; rw [this] at hpg; simp at hpg
      simp -implicitDefEqProofs only [↓GP, GB, GL, Nat.reduceAdd, Nat.reduceSub, Nat.reduceEqDiff, Nat.reduceMul, Nat.reduceLeDiff, Int.reduceBNe, Int.reduceBEq, Nat.reduceLT, reduceCtorEq, fh1, fc1]
      refine wp_in (s92 (p := p) (r := r) (u := S.u) (F := (ko, rowO 2 S.objs.length (S.objs.flatMap encW)) :: F) (lk := lk) (mk := mk) (L := L) (m := m) (t := t) (tk := tk) (fk := fk) (mt := mt) (mf := mf) (Holds.of (h1) (fun k => by simp +arith only [HA, HB]) (fun k x => by simp only [HA, HC]; grind only)) hr hs0 hok hR hm hmt fun s2 u' fill' pages' ats pgk obk plk pl mt' hlay hul okp hR' hm' h2 => ?_)
      generalize hg1 : ({ g with pgk := pgk, obk := obk, plk := plk, pl := pl, fill := fill', pages := pages', objs := relay (g.objs.filter fun x => decide (((x.b.at_ : Int), (g.life : Int)) ∈ L)) ats } : PReg) = g1 at okp hR' h2
      have e : colStep L S g.m = ⟨S.regs ++ [PReg.m g1], u', ((wordsP g.life (g.objs.filter fun x => decide (((x.b.at_ : Int), (g.life : Int)) ∈ L))).zip (ats.map fun a : Nat => ((a : Int), (g.life : Int)))).foldl updF S.mv, S.fx, S.objs⟩ := by
        have hl : layM 0 g.m.life ((keptM L g.m).map fun x => x.ws.length + 1) (freeP S.u g.m.pages) 0 [] = some (ats, u', fill', pages') := by
          rw [kept_m, List.map_map]; exact hlay
        unfold colStep
        rw [if_pos (show 0 < g.m.pages.length from hpg), hl]
        simp only [kept_m, List.map_map, wordsP, ← hg1]
        simp only [PReg.m, relay_b]
        rfl
      obtain ⟨S1, hS1⟩ : ∃ S1 : ColS, S1 = ⟨S.regs ++ [PReg.m g1], u', ((wordsP g.life (g.objs.filter fun x => decide (((x.b.at_ : Int), (g.life : Int)) ∈ L))).zip (ats.map fun a : Nat => ((a : Int), (g.life : Int)))).foldl updF S.mv, S.fx, S.objs⟩ := ⟨_, rfl⟩
      rw [← hS1] at e
      rw [List.map_cons, List.foldl_cons, e] at q
      have eo : S1.objs = S.objs := by rw [hS1]
      simp -implicitDefEqProofs only [↓GP, GB, GL, Nat.reduceAdd, Nat.reduceSub, Nat.reduceEqDiff, Nat.reduceMul, Nat.reduceLeDiff, Int.reduceBNe, Int.reduceBEq, Nat.reduceLT, reduceCtorEq, hw1]
      rw [hLL]
      have hl1 : (A ++ [g1]).length = A.length + 1 := by simp
      have hl2 : (A ++ g1 :: B).length = hp.regs.length := by rw [hr]; simp
      have := col_loop (K := K) (v1 := v1) (v4 := v4) (v5 := v5) mhb mcb hm B (A ++ [g1]) { hp with regs := A ++ g1 :: B } S1 ko mt' mf s2 rfl hlv (by simp) (by rw [List.map_append, hA, hS1]; rfl) (by rw [hS1]; exact hR') (fun x hx => by
        rcases List.mem_append.1 hx with hx | hx
        · exact hok x (by rw [hr]; exact List.mem_append_left _ hx)
        · rcases List.mem_cons.1 hx with rfl | hx
          · exact okp
          · exact hok x (by rw [hr]; simp [hx])) (by rw [hl1, eo]; exact Nat.le_succ_of_le hob) (by rw [hS1]; exact hm') (by rw [hS1]; exact hmf) (by subst hS1; exact (Holds.of (h2) (fun k => by simp +arith only [HA, HB]) (fun k x => by simp only [HA, HC]; grind only))) (by
          intro s' hp' ko' mt' mf' e1 e2 e3
          simp only [hl2] at e3 ⊢
          exact q s' hp' ko' mt' mf' e1 e2 e3)
      rw [hl1, eo] at this
      simp only [hl2] at this
      exact this
    · rw [decide_eq_false hpg]
      simp -implicitDefEqProofs only [↓GP, GB, GL, Nat.reduceAdd, Nat.reduceSub, Nat.reduceEqDiff, Nat.reduceMul, Nat.reduceLeDiff, Int.reduceBNe, Int.reduceBEq, Nat.reduceLT, reduceCtorEq, fh1, fc1]
      have hno : g.objs.length ≤ 1 := by have := hri.nobjs; simp only [PReg.m, List.length_map] at this; omega
      refine wp_in (s28 h1 hin hlen hg (by omega) fun s2 kl h2 => ?_)
      rw [words_enc, show g.objs.length = (wordsP g.life g.objs).length by simp [wordsP]] at h2
      rw [show g.objs.length = (wordsP g.life g.objs).length by simp [wordsP]]
      have hwl : (wordsP g.life g.objs).length ≤ 1 := by simpa [wordsP] using hno
      have e : colStep L S g.m = ⟨S.regs ++ [g.m], S.u, S.mv, S.fx ++ wordsP g.life g.objs, S.objs ++ wordsP g.life g.objs⟩ := by
        unfold colStep
        rw [if_neg (show ¬ 0 < g.m.pages.length from hpg), words_m]
      generalize wordsP g.life g.objs = W at h2 hwl e
      simp -implicitDefEqProofs only [↓GP, GB, GL, Nat.reduceAdd, Nat.reduceSub, Nat.reduceEqDiff, Nat.reduceMul, Nat.reduceLeDiff, Int.reduceBNe, Int.reduceBEq, Nat.reduceLT, reduceCtorEq]
      have h3 : Holds o s2 ((fk, some mf) :: (ko, rowO 2 S.objs.length (S.objs.flatMap encW)) :: (kl, rowO 2 W.length (W.flatMap encW)) :: (c, some (.cells [ptrN t, .map (some (.new tk)), .map (some (.new fk))] none)) :: (tk, some mt) ::
        (poolC p r S.u ++ (hp.ch p ++ (huntC t lk mk (ptrN hp.id) L m ++ F)))) := (Holds.of (h2) (fun k => by simp +arith only [colC, HA, HB]) (fun k x => by simp only [colC, HA, HC]; grind only))
      refine fix_loop (t := t) (tk := tk) (List.mem_cons_of_mem _ (List.mem_cons_of_mem _ (List.mem_cons_self ..))) (List.mem_cons_of_mem _ (List.mem_cons_of_mem _ (List.mem_cons_of_mem _ (List.mem_cons_of_mem _ (List.mem_append_right _ (List.mem_append_right _ (List.mem_append_right _ mcb))))))) (List.mem_cons_of_mem _ (List.mem_cons_self ..)) (by omega) W.length 0 S.fx mf s2 (by omega) hmf h3 fun s3 mf' hm' h4 => ?_
      rw [List.drop_zero] at hm'
      simp -implicitDefEqProofs only [↓GP, GB, GL, Nat.reduceAdd, Nat.reduceSub, Nat.reduceEqDiff, Nat.reduceMul, Nat.reduceLeDiff, Int.reduceBNe, Int.reduceBEq, Nat.reduceLT, reduceCtorEq]
      have fl : W.length = 0 ∨ s3.new kl = some (.cells (W.flatMap encW) (some 2)) := by
        by_cases h0 : W.length = 0
        · exact .inl h0
        · have er : rowO 2 W.length (W.flatMap encW) = some (.cells (W.flatMap encW) (some 2)) := by unfold rowO; rw [if_neg h0]
          rw [er] at h4
          exact .inr (h4.mem (List.mem_cons_of_mem _ (List.mem_cons_of_mem _ (List.mem_cons_self ..)))).1
      refine wp_append (sz := 2) (bytes := 16) (m := W.length) (cs := S.objs.flatMap encW) h4.r1 (by rw [tab_len encW_len]) (new_row fl (by rw [tab_len encW_len])) (by rw [tab_len encW_len]) (by rw [List.all_flatMap]; simp [encW, V.one]) (by omega) (by unfold maxRow; omega) (by unfold maxRow; omega) fun ko' s4 h5 => ?_
      obtain ⟨S1, hS1⟩ : ∃ S1 : ColS, S1 = ⟨S.regs ++ [g.m], S.u, S.mv, S.fx ++ W, S.objs ++ W⟩ := ⟨_, rfl⟩
      rw [← hS1] at e
      rw [List.map_cons, List.foldl_cons, e] at q
      have eo : S1.objs.length = S.objs.length + W.length := by rw [hS1]; simp
      simp -implicitDefEqProofs only [↓GP, GB, GL, Nat.reduceAdd, Nat.reduceSub, Nat.reduceEqDiff, Nat.reduceMul, Nat.reduceLeDiff, Int.reduceBNe, Int.reduceBEq, Nat.reduceLT, reduceCtorEq, hw1]
      rw [hLL]
      have hl1 : (A ++ [g]).length = A.length + 1 := by simp
      have := col_loop (K := K) (v1 := v1) (v4 := v4) (v5 := v5) mhb mcb hm B (A ++ [g]) hp S1 ko' mt mf' s4 rfl hlv (by simp [hr]) (by rw [List.map_append, hA, hS1]; rfl) (by rw [hS1]; exact hR) hok (by omega) (by rw [hS1]; exact hmt) (by rw [hS1]; exact hm')
        (by subst hS1; exact (Holds.of (h5) (fun k => by simp +arith only [colC, List.length_append, List.flatMap_append, HA, HB]) (fun k x => by simp only [colC, List.length_append, List.flatMap_append, HA, HC]; grind only))) q
      rw [hl1, eo] at this
      exact this
end
end Go.Proofs.Ytoldkemimhebaaa

set_option linter.unusedSimpArgs false
set_option linter.unusedVariables false
namespace Go.Proofs.Ytoldkemimhebaaa
open Go Go.IM
section
variable {o : Nat → Option O} {s : St} {C F : Ch} {Q : V → St → Prop} {p r : Nat} {u : List Bool}
set_option maxRecDepth 10000
set_option maxHeartbeats 4000000
def toD (mv : ToF) (w : Int × Int) : Int × Int := (mv w).getD (0, 0)
theorem obj_loop {c t tk fk lk cb : Nat} {v1 v2 v4 v5 : V} {L fx : List (Int × Int)} {mv : ToF} {mt mf : O} {K : Kt} (hs : ∀ x ∈ colC c t tk fk mt mf, x ∈ C) (mb : (cb, some (.cells [ptrN c] none)) ∈ C) (mo : (lk, rowO 2 L.length (L.flatMap encW)) ∈ C)
    (hmt : MapIs encA (fun w => (mv w).map encA) mt) (hmf : MapIs encA (seenF fx) mf) (hl : L.length ≤ 100000) :
    ∀ (n i k : Nat) (acc : List (Int × Int)) (s : St), i + n = L.length → acc.length ≤ 100000 + i → Holds o s ((k, rowO 2 acc.length (acc.flatMap encW)) :: C) →
    (∀ s' k', Holds o s' ((k', rowO 2 (acc ++ ((L.drop i).filter fun w => !decide (w ∈ fx)).map (toD mv)).length ((acc ++ ((L.drop i).filter fun w => !decide (w ∈ fx)).map (toD mv)).flatMap encW)) :: C) →
      WP (K (.exit 4) (sp 132 [(1, v1), (2, v2), (4, v4), (5, v5), (6, ptrN cb), (7, rowV k' (acc ++ ((L.drop i).filter fun w => !decide (w ∈ fx)).map (toD mv)).length)]) s') Q) →
    WP (loop PF (.loop l46_2) (sp 132 [(1, v1), (2, v2), (4, v4), (5, v5), (6, ptrN cb), (7, rowV k acc.length), (71, rowV lk L.length), (72, I L.length), (73, I i)]) s K) Q
  | 0, i, k, acc, s, hi, ha, H, q => by
    have hlt : ¬ ((i : Int) < (L.length : Int)) := by omega
    rw [List.drop_eq_nil_of_le (by omega), List.filter_nil, List.map_nil, List.append_nil] at q
    refine wp_round fun LL hLL => ?_
    simp -implicitDefEqProofs only [↓GP, GB, GL, Nat.reduceAdd, Nat.reduceSub, Nat.reduceEqDiff, Nat.reduceMul, Nat.reduceLeDiff, Int.reduceBNe, Int.reduceBEq, Nat.reduceLT, reduceCtorEq, l46_2, hlt]
    exact q s k H
  | n + 1, i, k, acc, s, hi, ha, H, q => by
    have hlt : ((i : Int) < (L.length : Int)) := by omega
    have hi' : i < L.length := by omega
    have hw1 := wrap_add1 (a := i) (by omega)
    have hix := ix_row (sz := 2) (k := lk) (n := L.length) (i := i) (kk := .i64) hi'
    have er : rowO 2 L.length (L.flatMap encW) = some (.cells (L.flatMap encW) (some 2)) := by unfold rowO; rw [if_neg (by omega)]
    have fr := H.mem (List.mem_cons_of_mem _ (er ▸ mo))
    have fc := H.mem (List.mem_cons_of_mem _ (hs (c, some (.cells [ptrN t, .map (some (.new tk)), .map (some (.new fk))] none)) (List.mem_cons_self ..)))
    have mt' := hs (tk, some mt) (List.mem_cons_of_mem _ (List.mem_cons_self ..))
    have mf' := hs (fk, some mf) (List.mem_cons_of_mem _ (List.mem_cons_of_mem _ (List.mem_cons_self ..)))
    have fb := H.mem (List.mem_cons_of_mem _ mb)
    have hld := ldN_tab (enc := encW) encW_len L (some 2) (List.getElem?_eq_getElem hi')
    rw [List.drop_eq_getElem_cons hi', List.filter_cons] at q
    generalize L[i] = w at q hld
    have h1 := (H.alloc (.cells [I 0, I 0] none)).set0 (.cells (encW w) none)
    have el := lookup_map keyA hmf (h1.mem (List.mem_cons_of_mem _ (List.mem_cons_of_mem _ mf'))).1 (.bool false) false w
    simp only [encA, encW, Bool.false_eq_true, if_false] at el
    by_cases hw : w ∈ fx
    · rw [show seenF fx w = some (.bool true) from if_pos hw, Option.getD_some] at el
      rw [if_neg (by simpa using hw)] at q
      refine wp_round fun LL hLL => ?_
      simp -implicitDefEqProofs only [↓GP, GB, GL, Nat.reduceAdd, Nat.reduceSub, Nat.reduceEqDiff, Nat.reduceMul, Nat.reduceLeDiff, Int.reduceBNe, Int.reduceBEq, Nat.reduceLT, reduceCtorEq, l46_2, hlt, hix, fr, fc, fb, hld, encW, el, hw1]
      rw [hLL]
      exact obj_loop hs mb mo hmt hmf hl n (i + 1) k acc _ (by omega) (by omega) (Holds.of (h1) (fun k => by simp +arith only [encW, HA, HB]) (fun k x => by simp only [encW, HA, HC]; grind only)) q
    · rw [show seenF fx w = none from if_neg hw, Option.getD_none] at el
      rw [if_pos (by simpa using hw)] at q
      have el2 := lookup_map keyA hmt (h1.mem (List.mem_cons_of_mem _ (List.mem_cons_of_mem _ mt'))).1 (.agg [I 0, I 0]) false w
      rw [show ((mv w).map encA).getD (.agg [I 0, I 0]) = encA (toD mv w) by unfold toD; cases mv w <;> rfl] at el2
      simp only [encA, encW, Bool.false_eq_true, if_false] at el2
      refine wp_round fun LL hLL => ?_
      simp -implicitDefEqProofs only [↓GP, GB, GL, Nat.reduceAdd, Nat.reduceSub, Nat.reduceEqDiff, Nat.reduceMul, Nat.reduceLeDiff, Int.reduceBNe, Int.reduceBEq, Nat.reduceLT, reduceCtorEq, l46_2, hlt, hix, fr, fc, fb, hld, encW, el, el2]
      refine wp_append (sz := 2) (bytes := 16) (m := 1) (cs := acc.flatMap encW) ((h1.alloc _).r2) (by rw [tab_len encW_len]) (new_cells' (alloc_new_same _ _) rfl) rfl rfl (by omega) (by unfold maxRow; omega) (by unfold maxRow; omega) fun k' s1 h2 => ?_
      simp -implicitDefEqProofs only [↓GP, GB, GL, Nat.reduceAdd, Nat.reduceSub, Nat.reduceEqDiff, Nat.reduceMul, Nat.reduceLeDiff, Int.reduceBNe, Int.reduceBEq, Nat.reduceLT, reduceCtorEq, hw1]
      rw [hLL]
      have hl1 : (acc ++ [toD mv w]).length = acc.length + 1 := by simp
      have := obj_loop (K := K) (v1 := v1) (v2 := v2) (v4 := v4) (v5 := v5) hs mb mo hmt hmf hl n (i + 1) k' (acc ++ [toD mv w]) s1 (by omega) (by simp; omega) (by
        have h3 := h2.r1.tl.r1.tl
        rw [List.flatMap_append]; simpa [encW] using h3) (by simpa using q)
      rw [hl1] at this
      exact this
theorem out_loop {c t tk fk cb kr : Nat} {roots fx : List (Int × Int)} {mv : ToF} {mt mf : O} {K : Kt} (hs : ∀ x ∈ colC c t tk fk mt mf, x ∈ C) (mb : (cb, some (.cells [ptrN c] none)) ∈ C) (mo : (kr, rowO 2 roots.length (roots.flatMap encW)) ∈ C)
    (hmt : MapIs encA (fun w => (mv w).map encA) mt) (hmf : MapIs encA (seenF fx) mf) (hl : roots.length ≤ 100000) :
    ∀ (n i k : Nat) (acc : List (Int × Int)) (s : St), i + n = roots.length → acc.length ≤ i → Holds o s ((k, rowO 2 acc.length (acc.flatMap encW)) :: C) →
    (∀ s' k', Holds o s' ((k', rowO 2 (acc ++ (roots.drop i).map (nowW mv fx)).length ((acc ++ (roots.drop i).map (nowW mv fx)).flatMap encW)) :: C) →
      WP (K (.exit 10) (sp 132 [(20, rowV k' (acc ++ (roots.drop i).map (nowW mv fx)).length)]) s') Q) →
    WP (loop PF (.loop l46_5) (sp 132 [(6, ptrN cb), (20, rowV k acc.length), (118, rowV kr roots.length), (119, I roots.length), (120, I i)]) s K) Q
  | 0, i, k, acc, s, hi, ha, H, q => by
    have hlt : ¬ ((i : Int) < (roots.length : Int)) := by omega
    rw [List.drop_eq_nil_of_le (by omega), List.map_nil, List.append_nil] at q
    refine wp_round fun LL hLL => ?_
    simp -implicitDefEqProofs only [↓GP, GB, GL, Nat.reduceAdd, Nat.reduceSub, Nat.reduceEqDiff, Nat.reduceMul, Nat.reduceLeDiff, Int.reduceBNe, Int.reduceBEq, Nat.reduceLT, reduceCtorEq, l46_5, hlt]
    exact q s k H
  | n + 1, i, k, acc, s, hi, ha, H, q => by
    have hlt : ((i : Int) < (roots.length : Int)) := by omega
    have hi' : i < roots.length := by omega
    have hw1 := wrap_add1 (a := i) (by omega)
    have hix := ix_row (sz := 2) (k := kr) (n := roots.length) (i := i) (kk := .i64) hi'
    have er : rowO 2 roots.length (roots.flatMap encW) = some (.cells (roots.flatMap encW) (some 2)) := by unfold rowO; rw [if_neg (by omega)]
    have fr := H.mem (List.mem_cons_of_mem _ (er ▸ mo))
    have fb := H.mem (List.mem_cons_of_mem _ mb)
    have hld := ldN_tab (enc := encW) encW_len roots (some 2) (List.getElem?_eq_getElem hi')
    rw [List.drop_eq_getElem_cons hi', List.map_cons] at q
    generalize roots[i] = w at q hld
    have h1 := ((H.alloc (.cells [I 0, I 0] none)).set0 (.cells (encW w) none)).tl
    refine wp_round fun LL hLL => ?_
    simp -implicitDefEqProofs only [↓GP, GB, GL, Nat.reduceAdd, Nat.reduceSub, Nat.reduceEqDiff, Nat.reduceMul, Nat.reduceLeDiff, Int.reduceBNe, Int.reduceBEq, Nat.reduceLT, reduceCtorEq, l46_5, hlt, hix, fr, fb, hld, encW]
    refine wp_in (s94 (w := w) h1 (fun x hx => List.mem_cons_of_mem _ (hs x hx)) hmt hmf fun s1 h2 => ?_)
    simp -implicitDefEqProofs only [↓GP, GB, GL, Nat.reduceAdd, Nat.reduceSub, Nat.reduceEqDiff, Nat.reduceMul, Nat.reduceLeDiff, Int.reduceBNe, Int.reduceBEq, Nat.reduceLT, reduceCtorEq, encW]
    refine wp_append (sz := 2) (bytes := 16) (m := 1) (cs := acc.flatMap encW) ((h2.alloc _).r1) (by rw [tab_len encW_len]) (new_cells' (alloc_new_same _ _) rfl) rfl rfl (by omega) (by unfold maxRow; omega) (by unfold maxRow; omega) fun k' s2 h3 => ?_
    simp -implicitDefEqProofs only [↓GP, GB, GL, Nat.reduceAdd, Nat.reduceSub, Nat.reduceEqDiff, Nat.reduceMul, Nat.reduceLeDiff, Int.reduceBNe, Int.reduceBEq, Nat.reduceLT, reduceCtorEq, hw1]
    rw [hLL]
    have hl1 : (acc ++ [nowW mv fx w]).length = acc.length + 1 := by simp
    have := out_loop (K := K) hs mb mo hmt hmf hl n (i + 1) k' (acc ++ [nowW mv fx w]) s2 (by omega) (by simp; omega) (by
      have h4 := h3.r1.tl
      rw [List.flatMap_append]; simpa [encW] using h4) (by simpa using q)
    rw [hl1] at this
    exact this
end
end Go.Proofs.Ytoldkemimhebaaa

set_option linter.unusedSimpArgs false
set_option linter.unusedVariables false
namespace Go.Proofs.Ytoldkemimhebaaa
open Go Go.IM
def Obj.wr (x : Obj) (ws : List (Int × Int)) : Obj := { x with ws := ws }
def PObj.wr (x : PObj) (ws : List (Int × Int)) : PObj := { x with b := x.b.wr ws }
def setObj1 (w : Int × Int) (f : List (Int × Int) → List (Int × Int)) (x : Obj) : Obj := if (x.at_ : Int) = w.1 then x.wr (f x.ws) else x
def setReg1 (w : Int × Int) (f : List (Int × Int) → List (Int × Int)) (g : Reg) : Reg := if (g.life : Int) = w.2 then { g with objs := g.objs.map (setObj1 w f) } else g
def setM (w : Int × Int) (f : List (Int × Int) → List (Int × Int)) (rs : List Reg) : List Reg := rs.map (setReg1 w f)
theorem setReg1_life (w : Int × Int) (f) (g : Reg) : (setReg1 w f g).life = g.life := by unfold setReg1; split <;> rfl
theorem setReg1_pages (w : Int × Int) (f) (g : Reg) : (setReg1 w f g).pages = g.pages := by unfold setReg1; split <;> rfl
theorem setReg1_size (w : Int × Int) (f) (g : Reg) : (setReg1 w f g).size = g.size := by unfold setReg1; split <;> rfl
theorem setReg1_fill (w : Int × Int) (f) (g : Reg) : (setReg1 w f g).fill = g.fill := by unfold setReg1; split <;> rfl
theorem setObj1_at (w : Int × Int) (f) (x : Obj) : (setObj1 w f x).at_ = x.at_ := by unfold setObj1; split <;> rfl
theorem setObj1_kind (w : Int × Int) (f) (x : Obj) : (setObj1 w f x).kind = x.kind := by unfold setObj1; split <;> rfl
theorem setObj1_len (w : Int × Int) {f : List (Int × Int) → List (Int × Int)} (hf : ∀ l, (f l).length = l.length) (x : Obj) : (setObj1 w f x).ws.length = x.ws.length := by
  unfold setObj1; split
  · exact hf _
  · rfl
def shapeR (g : Reg) : Nat × Nat × Nat × List Nat × List (Nat × Nat × Nat) := (g.size, g.life, g.fill, g.pages, g.objs.map fun x => (x.at_, x.kind, x.ws.length))
theorem setReg1_shape (w : Int × Int) {f : List (Int × Int) → List (Int × Int)} (hf : ∀ l, (f l).length = l.length) (g : Reg) : shapeR (setReg1 w f g) = shapeR g := by
  unfold shapeR
  rw [setReg1_size, setReg1_life, setReg1_fill, setReg1_pages]
  unfold setReg1
  split
  · simp only [List.map_map]
    congr 4
    exact List.map_congr_left fun x _ => by simp only [Function.comp, setObj1_at, setObj1_kind, setObj1_len w hf]
  · rfl
theorem RInv.ofShape {g g' : Reg} (h : RInv g) (e : shapeR g' = shapeR g) (hw : ∀ x ∈ g'.objs, ∀ w ∈ x.ws, 0 ≤ w.2 ∧ w.2 ≤ 100000) : RInv g' := by
  unfold shapeR at e
  simp only [Prod.mk.injEq] at e
  obtain ⟨e1, e2, e3, e4, e5⟩ := e
  exact h.congr e1 e2 e3 e4 e5 hw
theorem RsOk.ofShape {lv : Nat} {u : List Bool} {rs rs' : List Reg} (h : RsOk lv u rs) (e : rs'.map shapeR = rs.map shapeR) (hw : ∀ r ∈ rs', ∀ x ∈ r.objs, ∀ w ∈ x.ws, 0 ≤ w.2 ∧ w.2 ≤ 100000) : RsOk lv u rs' := by
  have el : rs'.map (·.life) = rs.map (·.life) := by
    have := congrArg (List.map fun t : Nat × Nat × Nat × List Nat × List (Nat × Nat × Nat) => t.2.1) e
    simpa [List.map_map, Function.comp_def, shapeR] using this
  have ep : rs'.map (·.pages) = rs.map (·.pages) := by
    have := congrArg (List.map fun t : Nat × Nat × Nat × List Nat × List (Nat × Nat × Nat) => t.2.2.2.1) e
    simpa [List.map_map, Function.comp_def, shapeR] using this
  have hl : rs'.length = rs.length := by have := congrArg List.length e; simpa using this
  have hx : ∀ r ∈ rs', ∃ r0 ∈ rs, shapeR r = shapeR r0 := fun r hr => by
    have : shapeR r ∈ rs.map shapeR := e ▸ List.mem_map.2 ⟨r, hr, rfl⟩
    obtain ⟨y, hy, e⟩ := List.mem_map.1 this
    exact ⟨y, hy, e.symm⟩
  have hI := h.inv
  refine ⟨h.ulen, ⟨hI.lives, fun e => hI.ne (List.length_eq_zero_iff.1 (by rw [← hl, e]; rfl)), by rw [hl]; exact hI.len, by rw [el]; exact hI.nodup, fun r hr => ?_, fun r hr => ?_⟩, ?_⟩
  · obtain ⟨r0, h0, e0⟩ := hx r hr
    have : r.life = r0.life := by unfold shapeR at e0; simp only [Prod.mk.injEq] at e0; exact e0.2.1
    rw [this]; exact hI.life r0 h0
  · obtain ⟨r0, h0, e0⟩ := hx r hr
    exact (hI.reg r0 h0).ofShape e0 (hw r hr)
  · have e1 : ∀ l : List Reg, l.flatMap (·.pages) = (l.map (·.pages)).flatten := fun l => by rw [List.flatMap_def]
    have := h.pool
    rw [e1] at this ⊢
    rw [ep]; exact this
theorem setM_shape (w : Int × Int) {f : List (Int × Int) → List (Int × Int)} (hf : ∀ l, (f l).length = l.length) (rs : List Reg) : (setM w f rs).map shapeR = rs.map shapeR := by
  unfold setM
  rw [List.map_map]
  exact List.map_congr_left fun g _ => setReg1_shape w hf g
def mfind (N L : Int) (rs : List Reg) : Option Obj := rs.findSome? fun r => if (r.life : Int) = L then r.objs.find? (fun x => decide ((x.at_ : Int) = N)) else none
theorem pfind_m (N L : Int) : ∀ rs : List PReg, (pfind N L rs).map (·.b) = mfind N L (rs.map PReg.m)
  | [] => rfl
  | r :: rs => by
    have ih := pfind_m N L rs
    unfold pfind mfind at *
    simp only [List.map_cons, List.findSome?_cons]
    have e : (pf N L r).map (·.b) = (if (r.m.life : Int) = L then r.m.objs.find? (fun x => decide ((x.at_ : Int) = N)) else none) := by
      unfold pf
      split
      · rename_i h; rw [if_pos (show (r.m.life : Int) = L from h)]; simp only [PReg.m, List.find?_map]; rfl
      · rename_i h; rw [if_neg (show ¬ (r.m.life : Int) = L from h)]; rfl
    rw [← e]
    cases pf N L r with
    | some x => rfl
    | none => exact ih
theorem mfind_set (N L : Int) (w : Int × Int) (f) : ∀ rs : List Reg, (mfind N L (setM w f rs)).isSome = (mfind N L rs).isSome
  | [] => rfl
  | r :: rs => by
    have ih := mfind_set N L w f rs
    unfold mfind setM at *
    simp only [List.map_cons, List.findSome?_cons, setReg1_life]
    by_cases h : (r.life : Int) = L
    · simp only [if_pos h]
      have e : ((setReg1 w f r).objs.find? fun x => decide ((x.at_ : Int) = N)).isSome = (r.objs.find? fun x => decide ((x.at_ : Int) = N)).isSome := by
        unfold setReg1
        split
        · rw [List.find?_map]
          simp only [Option.isSome_map]
          congr 1
          have : ((fun x : Obj => decide ((x.at_ : Int) = N)) ∘ setObj1 w f) = fun x => decide ((x.at_ : Int) = N) := by funext x; simp only [Function.comp, setObj1_at]
          rw [this]
        · rfl
      cases h1 : (setReg1 w f r).objs.find? fun x => decide ((x.at_ : Int) = N) with
      | some a =>
        rw [h1] at e
        cases h2 : r.objs.find? fun x => decide ((x.at_ : Int) = N) with
        | some b => rfl
        | none => rw [h2] at e; cases e
      | none =>
        rw [h1] at e
        cases h2 : r.objs.find? fun x => decide ((x.at_ : Int) = N) with
        | some b => rw [h2] at e; cases e
        | none => exact ih
    · simp only [if_neg h]
      exact ih
theorem pf_split {N L : Int} {r : PReg} {x : PObj} (h : pf N L r = some x) : ∃ X Y, r.objs = X ++ x :: Y ∧ ∀ y ∈ X, ¬ ((y.b.at_ : Int) = N) := by
  unfold pf at h
  split at h
  · obtain ⟨_, X, Y, e, hX⟩ := List.find?_eq_some_iff_append.1 h
    exact ⟨X, Y, e, fun y hy => by have := hX y hy; simpa using this⟩
  · cases h
theorem pfind_split {N L : Int} : ∀ {rs : List PReg} {x : PObj}, pfind N L rs = some x → ∃ A g B X Y, rs = A ++ g :: B ∧ g.objs = X ++ x :: Y ∧ (∀ a ∈ A, pf N L a = none) ∧ (g.life : Int) = L ∧ (x.b.at_ : Int) = N ∧ ∀ y ∈ X, ¬ ((y.b.at_ : Int) = N)
  | [], x, h => by simp [pfind] at h
  | r :: rs, x, h => by
    unfold pfind at h
    rw [List.findSome?_cons] at h
    cases hr : pf N L r with
    | some y =>
      rw [hr] at h
      cases h
      obtain ⟨X, Y, e, hX⟩ := pf_split hr
      obtain ⟨e1, e2, e3⟩ := pf_some hr
      exact ⟨[], r, rs, X, Y, rfl, e, (fun a ha => by cases ha), e1, e3, hX⟩
    | none =>
      rw [hr] at h
      obtain ⟨A, g, B, X, Y, e1, e2, e3, e4⟩ := pfind_split h
      exact ⟨r :: A, g, B, X, Y, by rw [e1]; rfl, e2, (fun a ha => by
        rcases List.mem_cons.1 ha with rfl | ha
        · exact hr
        · exact e3 a ha), e4⟩
theorem ok_wr {g : PReg} {X Y : List PObj} {x : PObj} (e : g.objs = X ++ x :: Y) (h : g.ok) (ws : List (Int × Int)) : PReg.ok { g with objs := X ++ x.wr ws :: Y } := by
  obtain ⟨l, c, e1, hl⟩ := h
  refine ⟨l, c, e1, fun a => (hl a).trans ?_⟩
  simp only [e, List.find?_append, List.find?_cons]
  have : (x.wr ws).b.at_ = x.b.at_ := rfl
  rw [this]
  cases List.find? (fun x => decide ((x.b.at_ : Int) = a)) X with
  | some _ => rfl
  | none => simp only [Option.none_or]; cases decide ((x.b.at_ : Int) = a) <;> rfl
theorem pfind_wr {N L : Int} {A B : List PReg} {g : PReg} {X Y : List PObj} {x : PObj} (hA : ∀ a ∈ A, pf N L a = none) (hg : (g.life : Int) = L) (hx : (x.b.at_ : Int) = N) (hX : ∀ y ∈ X, ¬ ((y.b.at_ : Int) = N)) (ws : List (Int × Int)) :
    pfind N L (A ++ { g with objs := X ++ x.wr ws :: Y } :: B) = some (x.wr ws) := by
  unfold pfind
  rw [List.findSome?_append, List.findSome?_eq_none_iff.2 hA, List.findSome?_cons]
  have : pf N L { g with objs := X ++ x.wr ws :: Y } = some (x.wr ws) := by
    unfold pf
    rw [if_pos hg]
    show (X ++ x.wr ws :: Y).find? _ = _
    rw [List.find?_append, List.find?_eq_none.2 (fun y hy => by simpa using hX y hy), List.find?_cons_of_pos (by show decide ((x.b.at_ : Int) = N) = true; simpa using hx)]
    rfl
  rw [this]
  rfl
theorem setP_m {lv : Nat} {u : List Bool} {A B : List PReg} {g : PReg} {X Y : List PObj} {x : PObj} {w : Int × Int} (h : RsOk lv u ((A ++ g :: B).map PReg.m)) (ex : g.objs = X ++ x :: Y) (hg : (g.life : Int) = w.2) (hx : (x.b.at_ : Int) = w.1) (f : List (Int × Int) → List (Int × Int)) :
    (A ++ { g with objs := X ++ x.wr (f x.b.ws) :: Y } :: B).map PReg.m = setM w f ((A ++ g :: B).map PReg.m) := by
  have hn := h.inv.nodup
  rw [List.map_map, List.map_append, List.map_cons, List.nodup_append] at hn
  obtain ⟨_, hn2, hn3⟩ := hn
  rw [List.nodup_cons] at hn2
  have hat := (h.inv.reg g.m (by simp)).nodup
  simp only [PReg.m, ex, List.map_append, List.map_cons, List.nodup_append] at hat
  obtain ⟨_, ha2, ha3⟩ := hat
  rw [List.nodup_cons] at ha2
  have same : ∀ a : PReg, ¬ ((a.life : Int) = w.2) → setReg1 w f a.m = a.m := fun a ha => if_neg ha
  have sameO : ∀ l : List PObj, (∀ y ∈ l, ¬ ((y.b.at_ : Int) = w.1)) → (l.map (·.b)).map (setObj1 w f) = l.map (·.b) := fun l hl => by
    rw [List.map_map]
    exact List.map_congr_left fun y hy => if_neg (hl y hy)
  unfold setM
  rw [List.map_append, List.map_append, List.map_cons, List.map_cons, List.map_append, List.map_cons]
  congr 1
  · rw [List.map_map]
    exact (List.map_congr_left fun a ha => same a fun e => hn3 _ (List.mem_map.2 ⟨a, ha, rfl⟩) _ (List.mem_cons_self ..) (by simp only [Function.comp, PReg.m]; omega)).symm
  · congr 1
    · unfold setReg1
      rw [if_pos (show (g.m.life : Int) = w.2 from hg)]
      simp only [PReg.m, ex, List.map_append, List.map_cons]
      congr 1
      rw [sameO X fun y hy e => ha3 _ (List.mem_map.2 ⟨y.b, List.mem_map.2 ⟨y, hy, rfl⟩, rfl⟩) _ (List.mem_cons_self ..) (by omega),
        sameO Y fun y hy e => ha2.1 (List.mem_map.2 ⟨y.b, List.mem_map.2 ⟨y, hy, rfl⟩, by omega⟩)]
      congr 2
      exact (if_pos hx).symm
    · rw [List.map_map]
      exact (List.map_congr_left fun a ha => same a fun e => hn2.1 (List.mem_map.2 ⟨a, ha, by simp only [Function.comp, PReg.m]; omega⟩)).symm
def fixF (mv : ToF) (fx : List (Int × Int)) (v : Int × Int) : Int × Int := if 0 ≤ (nowW mv fx v).2 ∧ (nowW mv fx v).2 ≤ 100000 then nowW mv fx v else v
theorem fixF_in {mv : ToF} {fx : List (Int × Int)} {v : Int × Int} (h : 0 ≤ v.2 ∧ v.2 ≤ 100000) : 0 ≤ (fixF mv fx v).2 ∧ (fixF mv fx v).2 ≤ 100000 := by
  unfold fixF; split
  · assumption
  · exact h
theorem setM_in {w : Int × Int} {f : List (Int × Int) → List (Int × Int)} {rs : List Reg} (hf : ∀ l : List (Int × Int), (∀ v ∈ l, 0 ≤ v.2 ∧ v.2 ≤ 100000) → ∀ v ∈ f l, 0 ≤ v.2 ∧ v.2 ≤ 100000)
    (h : ∀ r ∈ rs, ∀ x ∈ r.objs, ∀ v ∈ x.ws, 0 ≤ v.2 ∧ v.2 ≤ 100000) : ∀ r ∈ setM w f rs, ∀ x ∈ r.objs, ∀ v ∈ x.ws, 0 ≤ v.2 ∧ v.2 ≤ 100000 := by
  intro r hr x hx
  obtain ⟨g, hg, rfl⟩ := List.mem_map.1 hr
  unfold setReg1 at hx
  split at hx
  · obtain ⟨y, hy, rfl⟩ := List.mem_map.1 hx
    unfold setObj1
    split
    · exact hf _ (h g hg y hy)
    · exact h g hg y hy
  · exact h g hg x hx
theorem RsOk.wl {lv : Nat} {u : List Bool} {rs : List Reg} (h : RsOk lv u rs) : ∀ r ∈ rs, ∀ x ∈ r.objs, ∀ v ∈ x.ws, 0 ≤ v.2 ∧ v.2 ≤ 100000 := fun r hr => (h.inv.reg r hr).wl
end Go.Proofs.Ytoldkemimhebaaa

set_option linter.unusedSimpArgs false
set_option linter.unusedVariables false
namespace Go.Proofs.Ytoldkemimhebaaa
open Go Go.IM
section
variable {o : Nat → Option O} {s : St} {C F : Ch} {Q : V → St → Prop} {p r : Nat} {u : List Bool}
set_option maxRecDepth 10000
set_option maxHeartbeats 4000000
theorem upd_get {α : Type} (f : α → α) (l : List α) (j : Nat) : ((l.take j).map f ++ l.drop j)[j]? = l[j]? := by
  by_cases h : j < l.length
  · rw [List.getElem?_append_right (by simp; omega)]
    simp [List.length_take, Nat.min_eq_left (Nat.le_of_lt h)]
  · rw [List.getElem?_eq_none (by simp; omega), List.getElem?_eq_none (by omega)]
theorem upd_step {α : Type} (f : α → α) {l : List α} {j : Nat} {v : α} (h : l[j]? = some v) : ((l.take j).map f ++ l.drop j).set j (f v) = (l.take (j + 1)).map f ++ l.drop (j + 1) := by
  obtain ⟨hj, e⟩ := List.getElem?_eq_some_iff.1 h
  rw [List.set_append_right _ _ (by simp; omega), List.length_map, List.length_take, Nat.min_eq_left (Nat.le_of_lt hj), Nat.sub_self, List.drop_eq_getElem_cons hj, List.set_cons_zero, List.take_add_one, h, Option.toList_some, List.map_append, List.append_assoc]
  rfl
theorem upd_same {α : Type} (f : α → α) {l : List α} {j : Nat} {v : α} (h : l[j]? = some v) (hf : f v = v) : (l.take j).map f ++ l.drop j = (l.take (j + 1)).map f ++ l.drop (j + 1) := by
  rw [← upd_step f h]
  refine (List.ext_getElem? fun i => ?_)
  rw [List.getElem?_set]
  split
  · rename_i e; subst e; rw [upd_get, h, hf]
    obtain ⟨hj, _⟩ := List.getElem?_eq_some_iff.1 h
    rw [if_pos (by simp; omega)]
  · rfl
theorem word_eq (a b : Int × Int) : eqI (.key (.agg [.i, .i])) (.agg [I a.1, I a.2]) (.agg [I b.1, I b.2]) = some (decide (a = b)) := keyA a b
abbrev hpW (hp : PHeap) (A : List PReg) (g : PReg) (B : List PReg) (X : List PObj) (x : PObj) (Y : List PObj) (ws : List (Int × Int)) : PHeap := { hp with regs := A ++ { g with objs := X ++ x.wr ws :: Y } :: B }
theorem fix_round {hp : PHeap} {A B : List PReg} {g : PReg} {X Y : List PObj} {x : PObj} {w v : Int × Int} {c t tk fk hb cb wb ib kr j : Nat} {mt mf : O} {mv : ToF} {fx ws : List (Int × Int)} {v1 v4 v5 v94 v95 v96 v102 : V} {E : Ch}
    (hL : Look (PHeap.ch p (hpW hp A g B X x Y ws) ++ E) p (hpW hp A g B X x Y ws)) (hx : pfind w.1 w.2 (hpW hp A g B X x Y ws).regs = some (x.wr ws)) (hw0 : 0 < w.2) (hv : ws[j]? = some v) (hn : ws.length ≤ 31)
    (hs : ∀ y ∈ colC c t tk fk mt mf, y ∈ E) (mhb : (hb, some (.cells [ptrN hp.id] none)) ∈ E) (mcb : (cb, some (.cells [ptrN c] none)) ∈ E)
    (hmt : MapIs encA (fun w => (mv w).map encA) mt) (hmf : MapIs encA (seenF fx) mf)
    (H : Holds o s ((kr, some (.loop .ready)) :: (ib, some (.cells [I j] none)) :: (wb, some (.cells (encW w) none)) :: (PHeap.ch p (hpW hp A g B X x Y ws) ++ E)))
    (q : ∀ s' ws', ws' = (if fixF mv fx v = v then ws else ws.set j (fixF mv fx v)) → Holds o s' ((kr, some (.loop .ready)) :: (ib, some (.cells [I ((j + 1 : Nat) : Int)] none)) :: (wb, some (.cells (encW w) none)) :: (PHeap.ch p (hpW hp A g B X x Y ws') ++ E)) → Q (.bool true) s') :
    WP (roundI (loop PF, call PF) [103] a46_3 b46_3 (sp 132 [(1, v1), (2, ptrN hb), (4, v4), (5, v5), (6, ptrN cb), (16, ptrN wb), (17, ptrN ib), (94, v94), (95, v95), (96, v96), (102, v102)]) kr [.agg (encW v)] s) Q := by
  refine wp_roundI H.g0 rfl ?_
  rw [putAll_one]
  simp -implicitDefEqProofs only [↓GP, GB, GL, Nat.reduceAdd, Nat.reduceSub, Nat.reduceEqDiff, Nat.reduceMul, Nat.reduceLeDiff, Int.reduceBNe, Int.reduceBEq, Nat.reduceLT, reduceCtorEq, a46_3, encW]
  have h1 := (H.alloc (.cells [I 0, I 0] none)).set0 (.cells (encW v) none)
  refine wp_roundMid h1.tl.g0 ?_
  have h2 := h1.set1 (.loop .busy)
  have hb0 := s.next
  generalize hkb : s.next = kb at h2 ⊢
  simp only [encW] at h2
  generalize ((s.alloc (.cells [I 0, I 0] none)).set kb (.cells [I v.1, I v.2] none)).set kr (.loop .busy) = S at h2 ⊢
  have inE : ∀ (a : Nat × Option O) (C2 : Ch), ∀ y ∈ E, y ∈ C2 ++ (PHeap.ch p (hpW hp A g B X x Y ws) ++ E) := fun a C2 y hy => List.mem_append_right _ (List.mem_append_right _ hy)
  have fc := h2.mem (List.mem_cons_of_mem _ (List.mem_cons_of_mem _ (List.mem_cons_of_mem _ (List.mem_cons_of_mem _ (List.mem_append_right _ mcb)))))
  have f4 := h2.f4
  simp -implicitDefEqProofs only [↓GP, GB, GL, Nat.reduceAdd, Nat.reduceSub, Nat.reduceEqDiff, Nat.reduceMul, Nat.reduceLeDiff, Int.reduceBNe, Int.reduceBEq, Nat.reduceLT, reduceCtorEq, b46_3, fc, f4, encW]
  refine wp_in (s94 (w := v) h2 (fun y hy => List.mem_cons_of_mem _ (List.mem_cons_of_mem _ (List.mem_cons_of_mem _ (List.mem_cons_of_mem _ (List.mem_append_right _ (hs y hy)))))) hmt hmf fun s1 h3 => ?_)
  generalize hnw : nowW mv fx v = n at *
  have h4 := (h3.alloc (.cells [I 0, I 0] none)).set0 (.cells (encW n) none)
  have f5 := h3.f4
  have fh := h3.mem (List.mem_cons_of_mem _ (List.mem_cons_of_mem _ (List.mem_cons_of_mem _ (List.mem_cons_of_mem _ (List.mem_append_right _ mhb)))))
  have hweq := word_eq n v
  have hw1 := wrap_add1 (a := j) (by have := (List.getElem?_eq_some_iff.1 hv).1; omega)
  by_cases hnv : n = v
  · rw [decide_eq_true hnv] at hweq
    simp -implicitDefEqProofs only [↓GP, GB, GL, Nat.reduceAdd, Nat.reduceSub, Nat.reduceEqDiff, Nat.reduceMul, Nat.reduceLeDiff, Int.reduceBNe, Int.reduceBEq, Nat.reduceLT, reduceCtorEq, f5, encW, hweq, hw1]
    have h5 := h4.set3 (.cells [I ((j + 1 : Nat) : Int)] none)
    have hfx : fixF mv fx v = v := by unfold fixF; rw [hnw, hnv]; split <;> rfl
    refine wp_roundEnd h5.tl.tl.g0 ?_
    exact q _ ws (by rw [if_pos hfx]) (h5.set2 (.loop .ready)).tl.tl
  · rw [decide_eq_false hnv] at hweq
    simp -implicitDefEqProofs only [↓GP, GB, GL, Nat.reduceAdd, Nat.reduceSub, Nat.reduceEqDiff, Nat.reduceMul, Nat.reduceLeDiff, Int.reduceBNe, Int.reduceBEq, Nat.reduceLT, reduceCtorEq, f5, fh, encW, hweq]
    have hjl : j < ws.length := (List.getElem?_eq_some_iff.1 hv).1
    have hin : In ((s1.next, some (.cells (encW n) none)) :: (kb, some (.cells [I v.1, I v.2] none)) :: (kr, some (.loop .busy)) :: (ib, some (.cells [I j] none)) :: (wb, some (.cells [I w.1, I w.2] none)) :: (PHeap.ch p (hpW hp A g B X x Y ws) ++ E)) p (hpW hp A g B X x Y ws) :=
      ⟨fun y hy => List.mem_cons_of_mem _ (List.mem_cons_of_mem _ (List.mem_cons_of_mem _ (List.mem_cons_of_mem _ (List.mem_cons_of_mem _ (List.mem_append_left _ hy)))))⟩
    by_cases hvl : 0 ≤ n.2 ∧ n.2 ≤ 100000
    · have hfx : fixF mv fx v = n := by unfold fixF; rw [hnw, if_pos hvl]
      refine wp_in (s65 (hp := hpW hp A g B X x Y ws) (x := x.wr ws) (w := n) (F := (kr, some (.loop .busy)) :: (ib, some (.cells [I j] none)) :: (wb, some (.cells [I w.1, I w.2] none)) :: (x.id, some (x.wr ws).O) :: (g.id, some (PReg.hd { g with objs := X ++ x.wr ws :: Y })) :: (g.pgk, pagesO g.pages) :: (g.obk, PReg.obO (X ++ x.wr ws :: Y)) :: (g.plk, some g.pl) ::
          (X.flatMap PObj.ch ++ (Y.flatMap PObj.ch ++ ((hp.id, some ((hpW hp A g B X x Y ws).hd p)) :: (hp.rowk, (hpW hp A g B X x Y ws).row) :: (A.flatMap PReg.ch ++ (B.flatMap PReg.ch ++ E))))))
        h4 hin hL.ne hL.len hL.ok hw0 hvl hx hjl hn (fun s1 h => (Holds.of (h) (fun k => by simp +arith only [PObj.wr, PReg.hd, PReg.obO, HA, HB]) (fun k x => by simp only [PObj.wr, PReg.hd, PReg.obO, HA, HC]; grind only))) fun s2 h6 => ?_)
      have h7 : Holds o s2 ((kr, some (.loop .busy)) :: (ib, some (.cells [I j] none)) :: (wb, some (.cells [I w.1, I w.2] none)) :: (PHeap.ch p (hpW hp A g B X x Y (ws.set j n)) ++ E)) :=
        (Holds.of (h6) (fun k => by simp +arith only [PObj.wr, Obj.wr, PReg.hd, PReg.obO, PObj.O, PObj.W, PHeap.hd, PHeap.row, List.length_append, List.length_cons, List.map_append, List.map_cons, List.length_set, HA, HB]) (fun k x => by simp only [PObj.wr, Obj.wr, PReg.hd, PReg.obO, PObj.O, PObj.W, PHeap.hd, PHeap.row, List.length_append, List.length_cons, List.map_append, List.map_cons, List.length_set, HA, HC]; grind only))
      have f7 := h7.f3
      simp -implicitDefEqProofs only [↓GP, GB, GL, Nat.reduceAdd, Nat.reduceSub, Nat.reduceEqDiff, Nat.reduceMul, Nat.reduceLeDiff, Int.reduceBNe, Int.reduceBEq, Nat.reduceLT, reduceCtorEq, f7, hw1]
      have h8 := h7.set1 (.cells [I ((j + 1 : Nat) : Int)] none)
      refine wp_roundEnd h8.g0 ?_
      exact q _ (ws.set j n) (by rw [hfx, if_neg hnv]) (h8.set0 (.loop .ready))
    · have hfx : fixF mv fx v = v := by unfold fixF; rw [hnw, if_neg hvl]
      have hbf : (decide (0 ≤ n.2) && decide (n.2 ≤ 100000)) = false := by simpa using hvl
      refine wp_in (s65_err (VN := n.1) (VL := n.2) (err := 2) h4 (.inl (.inr ⟨hpW hp A g B X x Y ws, p, rfl, hin, hL.ne, hL.len, hL.ok, .inl ⟨rfl, fun hh => by rw [hbf] at hh; cases hh.2⟩⟩)) fun s2 h6 => ?_)
      have f6 := h6.tl.f4
      simp -implicitDefEqProofs only [↓GP, GB, GL, Nat.reduceAdd, Nat.reduceSub, Nat.reduceEqDiff, Nat.reduceMul, Nat.reduceLeDiff, Int.reduceBNe, Int.reduceBEq, Nat.reduceLT, reduceCtorEq, f6, hw1]
      have h7 := h6.set3 (.cells [I ((j + 1 : Nat) : Int)] none)
      refine wp_roundEnd h7.tl.tl.g0 ?_
      exact q _ ws (by rw [if_pos hfx]) (h7.set2 (.loop .ready)).tl.tl
def fixM (mv : ToF) (fx : List (Int × Int)) (rs : List Reg) (w : Int × Int) : List Reg := setM w (List.map (fixF mv fx)) rs
theorem map_len (f : Int × Int → Int × Int) : ∀ l : List (Int × Int), (l.map f).length = l.length := fun l => by simp
theorem cwords_loop {c t tk fk hb cb ko id lv : Nat} {v1 v4 v5 : V} {mt mf : O} {mv : ToF} {fx Os : List (Int × Int)} {E : Ch} {K : Kt} (hs : ∀ y ∈ colC c t tk fk mt mf, y ∈ E) (mhb : (hb, some (.cells [ptrN id] none)) ∈ E) (mcb : (cb, some (.cells [ptrN c] none)) ∈ E)
    (mo : (ko, rowO 2 Os.length (Os.flatMap encW)) ∈ E) (hmt : MapIs encA (fun w => (mv w).map encA) mt) (hmf : MapIs encA (seenF fx) mf) (hl : Os.length ≤ 1000000) :
    ∀ (n i : Nat) (hp : PHeap) (s : St), i + n = Os.length → hp.id = id → hp.lives = lv → RsOk lv u (hp.regs.map PReg.m) → (∀ g ∈ hp.regs, g.ok) → (∀ w ∈ Os, 0 < w.2 ∧ (mfind w.1 w.2 (hp.regs.map PReg.m)).isSome = true) → Holds o s (hp.ch p ++ E) →
    (∀ s' (hp' : PHeap), hp'.id = id → hp'.lives = lv → hp'.regs.length = hp.regs.length → hp'.regs.map PReg.m = (Os.drop i).foldl (fixM mv fx) (hp.regs.map PReg.m) → RsOk lv u (hp'.regs.map PReg.m) → (∀ g ∈ hp'.regs, g.ok) → Holds o s' (hp'.ch p ++ E) → WP (K (.exit 6) (sp 132 [(1, v1), (6, ptrN cb)]) s') Q) →
    WP (loop PF (.loop l46_4) (sp 132 [(1, v1), (2, ptrN hb), (4, v4), (5, v5), (6, ptrN cb), (94, rowV ko Os.length), (95, I Os.length), (96, I i)]) s K) Q := by
  intro n
  induction n with
  | zero =>
    intro i hp s hi hid hlv hR hok hfd H q
    have hlt : ¬ ((i : Int) < (Os.length : Int)) := by omega
    rw [List.drop_eq_nil_of_le (by omega), List.foldl_nil] at q
    refine wp_round fun LL hLL => ?_
    simp -implicitDefEqProofs only [↓GP, GB, GL, Nat.reduceAdd, Nat.reduceSub, Nat.reduceEqDiff, Nat.reduceMul, Nat.reduceLeDiff, Int.reduceBNe, Int.reduceBEq, Nat.reduceLT, reduceCtorEq, l46_4, hlt]
    exact q s hp hid hlv rfl rfl hR hok H
  | succ n ih =>
    intro i hp s hi hid hlv hR hok hfd H q
    have hlt : ((i : Int) < (Os.length : Int)) := by omega
    have hi' : i < Os.length := by omega
    have hw1 := wrap_add1 (a := i) (by omega)
    have hix := ix_row (sz := 2) (k := ko) (n := Os.length) (i := i) (kk := .i64) hi'
    have er : rowO 2 Os.length (Os.flatMap encW) = some (.cells (Os.flatMap encW) (some 2)) := by unfold rowO; rw [if_neg (by omega)]
    have fr := H.mem (List.mem_append_right _ (er ▸ mo))
    have fh := H.mem (List.mem_append_right _ mhb)
    have hld := ldN_tab (enc := encW) encW_len Os (some 2) (List.getElem?_eq_getElem hi')
    obtain ⟨hw0, hfi⟩ := hfd _ (List.getElem_mem hi')
    rw [List.drop_eq_getElem_cons hi', List.foldl_cons] at q
    generalize Os[i] = w at q hld hw0 hfi
    have h1 := (H.alloc (.cells [I 0, I 0] none)).set0 (.cells (encW w) none)
    have h2 := (h1.alloc (.cells [I 0] none)).set0 (.cells [I 0] none)
    refine wp_round fun LL hLL => ?_
    simp -implicitDefEqProofs only [↓GP, GB, GL, Nat.reduceAdd, Nat.reduceSub, Nat.reduceEqDiff, Nat.reduceMul, Nat.reduceLeDiff, Int.reduceBNe, Int.reduceBEq, Nat.reduceLT, reduceCtorEq, l46_4, hlt, hix, fr, fh, hld, encW]
    refine wp_in (s93 (id := id) (w := w) h2 fun s1 a b h3 => ?_)
    simp -implicitDefEqProofs only [↓GP, GB, GL, Nat.reduceAdd, Nat.reduceSub, Nat.reduceEqDiff, Nat.reduceMul, Nat.reduceLeDiff, Int.reduceBNe, Int.reduceBEq, Nat.reduceLT, reduceCtorEq]
    rw [← pfind_m, Option.isSome_map] at hfi
    obtain ⟨x, hx⟩ := Option.isSome_iff_exists.1 hfi
    obtain ⟨A, g, B, X, Y, hr, ex, k1, k2, k3, k4⟩ := pfind_split hx
    have hlen : hp.regs.length ≤ 100000 := by have h1 := hR.inv.len; have h2 := hR.inv.lives; rw [List.length_map] at h1; omega
    have hri : ∀ g0 ∈ hp.regs, ∀ y ∈ g0.objs, y.b.ws.length ≤ 31 := fun g0 m0 y my => ((hR.inv.reg g0.m (List.mem_map.2 ⟨g0, m0, rfl⟩)).ws y.b (List.mem_map.2 ⟨y, my, rfl⟩)).2.1
    have mg : g ∈ hp.regs := by rw [hr]; simp
    have hxl : x.b.ws.length ≤ 31 := hri g mg x (by rw [ex]; simp)
    have hpe : hpW hp A g B X x Y x.b.ws = hp := by
      have e1 : ({ g with objs := X ++ x.wr x.b.ws :: Y } : PReg) = g := by rw [show x.wr x.b.ws = x from rfl, ← ex]
      show ({ hp with regs := A ++ { g with objs := X ++ x.wr x.b.ws :: Y } :: B } : PHeap) = hp
      rw [e1, ← hr]
    simp only [set_next, alloc_next] at h3
    generalize s.next + 1 = ib at h3 ⊢
    generalize s.next = wb at h3 ⊢
    have h4 := h3.alloc (.loop .ready)
    subst hid
    have h5 : Holds o (s1.alloc (.loop .ready)) ((s1.next, some (.loop .ready)) :: (ib, some (.cells [I 0] none)) :: (wb, some (.cells (encW w) none)) :: (PHeap.ch p (hpW hp A g B X x Y x.b.ws) ++ ((a, some (.cells [ptrN hp.id] none)) :: (b, some (.cells (encW w) none)) :: E))) := by
      rw [hpe]; exact (Holds.of (h4) (fun k => by simp +arith only [HA, HB]) (fun k x => by simp only [HA, HC]; grind only))
    have lookW : ∀ (ws : List (Int × Int)) (D : Ch), ws.length = x.b.ws.length → (∀ y ∈ PHeap.ch p (hpW hp A g B X x Y ws), y ∈ D) → Look D p (hpW hp A g B X x Y ws) := fun ws D hwsl hD => by
      refine ⟨⟨hD⟩, by simp, by have := hlen; rw [hr] at this; simpa using this, fun g0 m0 => ?_, fun g0 m0 y my => ?_⟩
      · rcases List.mem_append.1 m0 with m0 | m0
        · exact hok g0 (by rw [hr]; exact List.mem_append_left _ m0)
        · rcases List.mem_cons.1 m0 with rfl | m0
          · exact ok_wr ex (hok g mg) ws
          · exact hok g0 (by rw [hr]; simp [m0])
      · rcases List.mem_append.1 m0 with m0 | m0
        · exact hri g0 (by rw [hr]; exact List.mem_append_left _ m0) y my
        · rcases List.mem_cons.1 m0 with rfl | m0
          · rcases List.mem_append.1 my with my | my
            · exact hri g mg y (by rw [ex]; exact List.mem_append_left _ my)
            · rcases List.mem_cons.1 my with rfl | my
              · show ws.length ≤ 31; omega
              · exact hri g mg y (by rw [ex]; simp [my])
          · exact hri g0 (by rw [hr]; simp [m0]) y my
    have hlenw : ∀ (j : Nat) (ws : List (Int × Int)), ws = (x.b.ws.take j).map (fixF mv fx) ++ x.b.ws.drop j → ws.length = x.b.ws.length := fun j ws e => by
      rw [e]; simp; omega
    rw [go_range]
    refine wp_range (g := 116) (pre := []) (caps := [ptrN a, ptrN b]) (by simp -implicitDefEqProofs only [↓GP, GB, GL, Nat.reduceAdd, Nat.reduceSub, Nat.reduceEqDiff, Nat.reduceMul, Nat.reduceLeDiff, Int.reduceBNe, Int.reduceBEq, Nat.reduceLT, reduceCtorEq]) ?_
    refine s116 (γ := List (Int × Int) × Nat) (fun g2 => (s1.next, some (.loop .ready)) :: (ib, some (.cells [I g2.2] none)) :: (wb, some (.cells (encW w) none)) :: (PHeap.ch p (hpW hp A g B X x Y g2.1) ++ ((a, some (.cells [ptrN hp.id] none)) :: (b, some (.cells (encW w) none)) :: E)))
      (fun j g2 => g2.2 = j ∧ g2.1 = (x.b.ws.take j).map (fixF mv fx) ++ x.b.ws.drop j) (fun g2 => hpW hp A g B X x Y g2.1) (fun g2 => x.wr g2.1) (n := x.b.ws.length) (id := hp.id) (p := p) hxl hw0
      (fun j g2 hP => ⟨lookW _ _ (hlenw j _ hP.2) (fun y hy => List.mem_cons_of_mem _ (List.mem_cons_of_mem _ (List.mem_cons_of_mem _ (List.mem_append_left _ hy)))), rfl, pfind_wr k1 k2 k3 k4 g2.1, hlenw j _ hP.2⟩)
      (fun g2 => List.mem_cons_of_mem _ (List.mem_cons_of_mem _ (List.mem_cons_of_mem _ (List.mem_append_right _ (List.mem_cons_self ..)))))
      (fun g2 => List.mem_cons_of_mem _ (List.mem_cons_of_mem _ (List.mem_cons_of_mem _ (List.mem_append_right _ (List.mem_cons_of_mem _ (List.mem_cons_self ..)))))) ?_ (g := (x.b.ws, 0)) ⟨rfl, by simp⟩ h5 fun s2 g2 hP h6 => ?_
    · intro j g2 s2 v hP H2 hv
      obtain ⟨ws, jj⟩ := g2
      obtain ⟨rfl, hws⟩ := hP
      simp only at hws H2 hv
      have hvx : x.b.ws[jj]? = some v := by rw [← upd_get (fixF mv fx), ← hws]; exact hv
      refine fix_round (w := w) (t := t) (tk := tk) (fk := fk) (mt := mt) (mf := mf) (mv := mv) (fx := fx) (lookW ws _ (hlenw jj _ hws) (fun y hy => List.mem_append_left _ hy)) (pfind_wr k1 k2 k3 k4 ws) hw0 hv (by rw [hlenw jj _ hws]; exact hxl)
        (fun y hy => List.mem_cons_of_mem _ (List.mem_cons_of_mem _ (hs y hy))) (List.mem_cons_of_mem _ (List.mem_cons_of_mem _ mhb)) (List.mem_cons_of_mem _ (List.mem_cons_of_mem _ mcb)) hmt hmf H2 fun s3 ws' e h7 => ?_
      refine ⟨rfl, (ws', jj + 1), ⟨rfl, ?_⟩, h7⟩
      show ws' = _
      rw [e]
      split
      · rename_i hfv; rw [hws]; exact upd_same _ hvx hfv
      · rw [hws]; exact upd_step _ hvx
    · obtain ⟨ws, jj⟩ := g2
      obtain ⟨rfl, hws⟩ := hP
      simp only at hws h6
      rw [List.take_length, List.drop_length, List.append_nil] at hws
      have hm1 : (hpW hp A g B X x Y ws).regs.map PReg.m = fixM mv fx (hp.regs.map PReg.m) w := by
        have := setP_m (f := List.map (fixF mv fx)) (w := w) (by rw [← hr]; exact hR) ex k2 k3
        rw [← hws, ← hr] at this
        exact this
      have hR1 : RsOk lv u ((hpW hp A g B X x Y ws).regs.map PReg.m) := by
        rw [hm1]; exact hR.ofShape (setM_shape w (map_len _) _) (setM_in (fun l hl v hv => by obtain ⟨a, ha, rfl⟩ := List.mem_map.1 hv; exact fixF_in (hl a ha)) hR.wl)
      have hlr : (hpW hp A g B X x Y ws).regs.length = hp.regs.length := by rw [hr]; simp
      refine wp_rangeEnd h6.g0 ?_
      simp -implicitDefEqProofs only [↓GP, GB, GL, Nat.reduceAdd, Nat.reduceSub, Nat.reduceEqDiff, Nat.reduceMul, Nat.reduceLeDiff, Int.reduceBNe, Int.reduceBEq, Nat.reduceLT, reduceCtorEq, hw1]
      rw [hLL]
      refine ih (i + 1) (hpW hp A g B X x Y ws) (s2.kill s1.next) (by omega) rfl hlv hR1 (lookW ws _ (by rw [hws]; simp) (fun y hy => hy)).ok (fun w' hw' => ?_) (Holds.of (h6.kill) (fun k => by simp +arith only [HA, HB]) (fun k x => by simp only [HA, HC]; grind only)) ?_
      · obtain ⟨q1, q2⟩ := hfd w' hw'
        rw [hm1]
        exact ⟨q1, by unfold fixM; rw [mfind_set]; exact q2⟩
      · intro s' hp' e1 e2 e3 e4
        rw [hlr] at e3
        rw [hm1] at e4
        exact q s' hp' e1 e2 e3 e4
end
end Go.Proofs.Ytoldkemimhebaaa

set_option linter.unusedSimpArgs false
set_option linter.unusedVariables false
namespace Go.Proofs.Ytoldkemimhebaaa
open Go Go.IM
section
variable {o : Nat → Option O} {s : St} {C F : Ch} {Q : V → St → Prop}
set_option maxRecDepth 10000
set_option maxHeartbeats 4000000
end
end Go.Proofs.Ytoldkemimhebaaa

set_option linter.unusedSimpArgs false
set_option linter.unusedVariables false
namespace Go.Proofs.Ytoldkemimhebaaa
open Go Go.IM
def putAllW (hp : PHeap) (ws : List (Int × Int)) : List (Int × Int) := ws.foldl (putW hp) []
theorem puts_prefix (hp : PHeap) : ∀ (ws l : List (Int × Int)), l <+: ws.foldl (putW hp) l
  | [], l => List.prefix_refl l
  | w :: ws, l => by
    refine List.IsPrefix.trans ?_ (puts_prefix hp ws (putW hp l w))
    unfold putW; split
    · exact List.prefix_append ..
    · exact List.prefix_refl l
theorem putAllW_mono {hp : PHeap} {a b : List (Int × Int)} (h : a <+: b) : putAllW hp a <+: putAllW hp b := by
  obtain ⟨t, rfl⟩ := h
  unfold putAllW
  rw [List.foldl_append]
  exact puts_prefix ..
theorem flatMap_prefix {α β : Type} {a b : List α} (f : α → List β) (h : a <+: b) : a.flatMap f <+: b.flatMap f := by
  obtain ⟨t, rfl⟩ := h
  rw [List.flatMap_append]
  exact List.prefix_append ..
theorem prefix_app {α : Type} (r : List α) {a b : List α} (h : a <+: b) : r ++ a <+: r ++ b := by
  obtain ⟨t, rfl⟩ := h
  exact ⟨t, by simp⟩
theorem bfs_fix {hp : PHeap} {roots : List (Int × Int)} : ∀ (n i : Nat) (l : List (Int × Int)), Found hp l → (allW hp).length + 1 ≤ i + n → i ≤ l.length → l = putAllW hp (roots ++ (l.take i).flatMap (objW hp)) →
    (bfs hp n i l = putAllW hp (roots ++ (bfs hp n i l).flatMap (objW hp)) ∧ ∀ X, X = putAllW hp (roots ++ X.flatMap (objW hp)) → l <+: X → bfs hp n i l <+: X)
  | 0, i, l, hf, hn, hi, e => by have := hf.len; omega
  | n + 1, i, l, hf, hn, hi, e => by
    by_cases h : i < l.length
    · have hg := List.getElem?_eq_getElem h
      rw [bfs_in hg]
      have hpre := puts_prefix hp (objW hp l[i]) l
      have htk : ((objW hp l[i]).foldl (putW hp) l).take (i + 1) = l.take (i + 1) := by
        obtain ⟨t, ht⟩ := hpre
        rw [← ht, List.take_append_of_le_length (by omega)]
      have e2 : (objW hp l[i]).foldl (putW hp) l = putAllW hp (roots ++ (l.take (i + 1)).flatMap (objW hp)) := by
        rw [List.take_add_one, hg, Option.toList_some, List.flatMap_append, List.flatMap_cons, List.flatMap_nil, List.append_nil, ← List.append_assoc]
        unfold putAllW
        rw [List.foldl_append]
        unfold putAllW at e
        rw [← e]
      have hlen := hpre.length_le
      obtain ⟨r1, r2⟩ := bfs_fix (roots := roots) n (i + 1) _ (hf.puts (objW hp l[i])) (by omega) (by omega) (by rw [htk]; exact e2)
      refine ⟨r1, fun X hX hl => r2 X hX ?_⟩
      rw [e2, hX]
      refine putAllW_mono (prefix_app roots (flatMap_prefix _ ?_))
      exact (List.take_prefix ..).trans hl
    · have hil : i = l.length := by omega
      rw [bfs_out (by omega)]
      refine ⟨?_, fun X _ hl => hl⟩
      rw [hil, List.take_length] at e
      exact e
theorem reach_fix (hp : PHeap) (roots : List (Int × Int)) : reachW hp roots = putAllW hp (roots ++ (reachW hp roots).flatMap (objW hp)) :=
  (bfs_fix (roots := roots) _ 0 (roots.foldl (putW hp) []) ((Found.nil hp).puts roots) (by omega) (Nat.zero_le _) (by rw [List.take_zero, List.flatMap_nil, List.append_nil]; rfl)).1
theorem reach_least {hp : PHeap} {roots X : List (Int × Int)} (h : X = putAllW hp (roots ++ X.flatMap (objW hp))) : reachW hp roots <+: X :=
  (bfs_fix (roots := roots) _ 0 (roots.foldl (putW hp) []) ((Found.nil hp).puts roots) (by omega) (Nat.zero_le _) (by rw [List.take_zero, List.flatMap_nil, List.append_nil]; rfl)).2 X h (by
    rw [h]; exact putAllW_mono (List.prefix_append ..))
theorem reach_done {hp : PHeap} {roots out : List (Int × Int)} (h1 : out <+: reachW hp roots) (h2 : out = putAllW hp (roots ++ out.flatMap (objW hp))) : out = reachW hp roots := by
  have := reach_least h2
  exact h1.eq_of_length_le this.length_le
theorem reach_step {hp : PHeap} {roots out todo : List (Int × Int)} {j : Nat} {w : Int × Int} (h1 : out <+: reachW hp roots) (h2 : todo = roots ++ out.flatMap (objW hp)) (h3 : out = putAllW hp (todo.take j)) (hj : todo[j]? = some w) :
    putW hp out w <+: reachW hp roots ∧ putW hp out w = putAllW hp (todo.take (j + 1)) := by
  have e : putW hp out w = putAllW hp (todo.take (j + 1)) := by
    rw [List.take_add_one, hj, Option.toList_some]
    unfold putAllW at h3 ⊢
    rw [List.foldl_append, ← h3]
    rfl
  refine ⟨?_, e⟩
  rw [e, reach_fix hp roots]
  refine putAllW_mono ((List.take_prefix ..).trans ?_)
  rw [h2]
  exact prefix_app roots (flatMap_prefix _ h1)
theorem reach_todo {hp : PHeap} {roots out : List (Int × Int)} (h1 : out <+: reachW hp roots) : (roots ++ out.flatMap (objW hp)).length ≤ (roots ++ (reachW hp roots).flatMap (objW hp)).length :=
  (prefix_app roots (flatMap_prefix _ h1)).length_le
theorem reach_nil (hp : PHeap) : reachW hp [] = [] := by
  unfold reachW
  rw [List.foldl_nil, bfs_out (by simp)]
end Go.Proofs.Ytoldkemimhebaaa

set_option linter.unusedSimpArgs false
set_option linter.unusedVariables false
namespace Go.Proofs.Ytoldkemimhebaaa
open Go Go.IM
def l96_0 : IC := (.seq (.seq (.seq (.region [oa 6 (.mov (.t 5)), oa 7 (.mov (.t 0)), oa 8 (.lenSlice (.t 7)), oa 9 (.bin .lss (.t 6) (.t 8))] (kp 18 [0,3,5,9]))
  (.cond (.t 9)
  (sk 18 [0,3,5])
  (sx 18 [] 0)))
  (.seq (.block 1
  (.seq (.region [oa 12 (.mov (.t 0)), oa 13 (.mov (.t 5)), oa 14 (.indexAddr 2 (.t 12) (.t 13)), oa 15 (.load (some 2) (.t 14)), oa 16 (.load (some 2) (.t 3)), oa 17 (.eql false (.key (.agg [.i, .i])) (.t 15) (.t 16))] (kp 18 [0,3,5,17]))
  (.cond (.t 17)
  (.seq (.region [oa 4 (.mov (.c (.bool true)))] (kp 18 [4]))
  (sr 18 [4]))
  (sk 18 [0,3,5]))))
  (.region [oa 10 (.mov (.t 5)), oa 11 (.bin .add (.t 10) (ai 1)), oa 5 (.mov (.t 11))] (kp 18 [0,3,5]))))
  (sk 18 [0,3,5]))
def j96_bb : IC := (.seq (.region [oa 4 (.mov (.c (.bool false)))] (kp 18 [4]))
  (sr 18 [4]))
def c96 : IFn := ⟨18, [(4, none)],
  (.seq (.region [oa 3 (.box (.t 1)), oa 4 (.mov (.c (.bool false)))] (kp 18 [0,3]))
  (.seq (.seq (.region [oa 5 (.mov (ai 0))] (kp 18 [0,3,5]))
  (.block 0
  (.seq (sk 18 [0,3,5])
  (.loop l96_0))))
  j96_bb))⟩
theorem F96 : shutF Try.prog 96 = some c96 := by kernel_rfl
def c101 : IFn := ⟨13, [(2, none)],
  (.seq (.region [oa 2 (.mov (.c (.bool false)))] (kp 13 [0]))
  (.seq (.region [oa 3 (.mov (.t 0)), oa 4 (.eql false .ptr (.t 3) (.c (.ptr none))), oa 5 (.mov (.t 4)), oc 6 (.mov (.t 0)) 5 ff, oc 7 (.nilCheck (.t 6)) 5 ff, oc 8 (.fieldAddr 1 (.t 7)) 5 ff, oc 9 (.load none (.t 8)) 5 ff, oc 10 (.lenSlice (.t 9)) 5 ff, oc 11 (.bin .eql (.t 10) (ai 0)) 5 ff, oa 12 (.pick (.t 5) (.c (.bool true)) (.t 11)), oa 2 (.mov (.t 12))] (kp 13 [2]))
  (sr 13 [2])))⟩
theorem F101 : shutF Try.prog 101 = some c101 := by kernel_rfl
def l52_0 : IC := (.seq (.seq (.seq (.region [oa 16 (.mov (.t 8)), oa 17 (.mov (.t 7)), oa 18 (.lenSlice (.t 17)), oa 19 (.bin .lss (.t 16) (.t 18))] (kp 63 [0,6,7,8,19]))
  (.cond (.t 19)
  (sk 63 [0,6,7,8])
  (sx 63 [6] 0)))
  (.seq (.block 1
  (.seq (.region [oa 23 (.mov (.t 0)), oa 24 (.mov (.t 7)), oa 25 (.mov (.t 8)), oa 26 (.indexAddr 2 (.t 24) (.t 25)), oa 27 (.load (some 2) (.t 26)), oa 28 (.call 103 [(.t 23), (.t 27)]), oa 22 (.mov (.t 28)), oa 29 (.extract (.t 22) 0), oa 30 (.extract (.t 22) 1), oa 9 (.mov (.t 29)), oa 10 (.mov (.t 30))] (kp 63 [0,6,7,8,9,10]))
  (.seq (.seq (.region [oa 31 (.mov (.t 9)), oa 32 (.bin .lss (.t 31) (ai 0)), oa 33 (.mov (.t 32)), oc 34 (.mov (.t 6)) 33 ff, oc 35 (.mov (.t 7)) 33 ff, oc 36 (.mov (.t 8)) 33 ff, oc 37 (.indexAddr 2 (.t 35) (.t 36)) 33 ff, oc 38 (.load (some 2) (.t 37)) 33 ff, oc 39 (.call 96 [(.t 34), (.t 38)]) 33 ff, oa 40 (.pick (.t 33) (.c (.bool true)) (.t 39))] (kp 63 [0,6,7,8,9,10,40]))
  (.cond (.t 40)
  (sx 63 [0,6,7,8] 1)
  (sk 63 [0,6,7,8,9,10])))
  (.seq (.region [oa 41 (.mov (.t 6)), oa 42 (.mov (.t 7)), oa 43 (.mov (.t 8)), oa 44 (.indexAddr 2 (.t 42) (.t 43)), oa 45 (.load (some 2) (.t 44)), oa 46 (.buildSlice 1 [(.int .i64 (0)), (.int .i64 (0))] [(0, 2, (.t 45))]), oa 47 (.append 2 16 (.t 41) (.t 46)), oa 6 (.mov (.t 47))] (kp 63 [0,6,7,8,9,10]))
  (.region [oa 48 (.mov (.t 7)), oa 49 (.mov (.t 0)), oa 50 (.nilCheck (.t 49)), oa 51 (.fieldAddr 1 (.t 50)), oa 52 (.load none (.t 51)), oa 53 (.mov (.t 9)), oa 54 (.indexAddr 5 (.t 52) (.t 53)), oa 55 (.fieldAddr 4 (.t 54)), oa 56 (.load none (.t 55)), oa 57 (.mov (.t 10)), oa 58 (.indexAddr 3 (.t 56) (.t 57)), oa 59 (.fieldAddr 2 (.t 58)), oa 60 (.load none (.t 59)), oa 61 (.append 2 16 (.t 48) (.t 60)), oa 7 (.mov (.t 61))] (kp 63 [0,6,7,8]))))))
  (.region [oa 20 (.mov (.t 8)), oa 21 (.bin .add (.t 20) (ai 1)), oa 8 (.mov (.t 21))] (kp 63 [0,6,7,8]))))
  (sk 63 [0,6,7,8]))
def j52_bbbbb : IC := (.seq (.region [oa 62 (.mov (.t 6)), oa 4 (.mov (.t 62)), oa 5 (.mov (ai 0))] (kp 63 [4,5]))
  (sr 63 [4,5]))
def c52 : IFn := ⟨63, [(4, none), (5, none)],
  (.seq (.region [oa 4 (.mov (.c (.slice none 0 (some 0)))), oa 5 (.mov (ai 0))] (kp 63 [0,1]))
  (.seq (.seq (.region [oa 11 (.mov (.t 0)), oa 12 (.call 101 [(.t 11)])] (kp 63 [0,1,12]))
  (.cond (.t 12)
  (.seq (.region [oa 4 (.mov (.c (.slice none 0 (some 0)))), oa 5 (.mov (ai 6))] (kp 63 [4,5]))
  (sr 63 [4,5]))
  (sk 63 [0,1])))
  (.seq (.region [oa 6 (.mov (.c (.slice none 0 (some 0))))] (kp 63 [0,1,6]))
  (.seq (.region [oa 13 (.buildSlice 0 [] []), oa 14 (.mov (.t 1)), oa 15 (.append 2 16 (.t 13) (.t 14)), oa 7 (.mov (.t 15))] (kp 63 [0,6,7]))
  (.seq (.seq (.region [oa 8 (.mov (ai 0))] (kp 63 [0,6,7,8]))
  (.block 0
  (.seq (sk 63 [0,6,7,8])
  (.loop l52_0))))
  j52_bbbbb)))))⟩
theorem F52 : shutF Try.prog 52 = some c52 := by kernel_rfl
section
variable {o : Nat → Option O} {s : St} {C F : Ch} {Q : V → St → Prop} {p q : Nat}
set_option maxRecDepth 10000
set_option maxHeartbeats 4000000
theorem new_cV {s : St} {sz t m : Nat} {gr : Bool} {new : List V} {g : Option Nat} (h : s.new t = some (.cells new g)) (hm : new.length = m * sz) : newCells s sz (cV gr t m) = some (new, m) := by
  cases gr
  · exact new_cells' h hm
  · exact new_cells' h hm
theorem has_loop {kl wb : Nat} {L : List (Int × Int)} {w : Int × Int} {K : Kt} (ml : (kl, rowO 2 L.length (L.flatMap encW)) ∈ C) (mw : (wb, some (.cells (encW w) none)) ∈ C) (hl : L.length ≤ 1000000) (hC : Holds o s C) :
    ∀ (n i : Nat), i + n = L.length →
    loop PF (.loop l96_0) (sp 18 [(0, rowV kl L.length), (3, ptrN wb), (5, I i)]) s K = (if w ∈ L.drop i then K .ret (sp 18 [(4, .bool true)]) s else K (.exit 0) (sp 18 []) s)
  | 0, i, hi => by
    have hlt : ¬ ((i : Int) < (L.length : Int)) := by omega
    rw [List.drop_eq_nil_of_le (by omega), if_neg (by simp)]
    refine round fun LL hLL => ?_
    simp -implicitDefEqProofs only [↓GP, GB, GL, Nat.reduceAdd, Nat.reduceSub, Nat.reduceEqDiff, Nat.reduceMul, Nat.reduceLeDiff, Int.reduceBNe, Int.reduceBEq, Nat.reduceLT, reduceCtorEq, l96_0, hlt]
  | n + 1, i, hi => by
    have hlt : ((i : Int) < (L.length : Int)) := by omega
    have hi' : i < L.length := by omega
    have hw1 := wrap_add1 (a := i) (by omega)
    have hix := ix_row (sz := 2) (k := kl) (n := L.length) (i := i) (kk := .i64) hi'
    have er : rowO 2 L.length (L.flatMap encW) = some (.cells (L.flatMap encW) (some 2)) := by unfold rowO; rw [if_neg (by omega)]
    have fr := hC.mem (er ▸ ml)
    have fw := hC.mem mw
    have hld := ldN_tab (enc := encW) encW_len L (some 2) (List.getElem?_eq_getElem hi')
    rw [List.drop_eq_getElem_cons hi']
    generalize L[i] = v at hld
    have hq := word_eq v w
    by_cases e : v = w
    · rw [decide_eq_true e] at hq
      rw [if_pos (by rw [e]; exact List.mem_cons_self ..)]
      refine round fun LL hLL => ?_
      simp -implicitDefEqProofs only [↓GP, GB, GL, Nat.reduceAdd, Nat.reduceSub, Nat.reduceEqDiff, Nat.reduceMul, Nat.reduceLeDiff, Int.reduceBNe, Int.reduceBEq, Nat.reduceLT, reduceCtorEq, l96_0, hlt, hix, fr, fw, hld, encW, hq]
    · rw [decide_eq_false e] at hq
      refine round fun LL hLL => ?_
      simp -implicitDefEqProofs only [↓GP, GB, GL, Nat.reduceAdd, Nat.reduceSub, Nat.reduceEqDiff, Nat.reduceMul, Nat.reduceLeDiff, Int.reduceBNe, Int.reduceBEq, Nat.reduceLT, reduceCtorEq, l96_0, hlt, hix, fr, fw, hld, encW, hq, hw1]
      rw [hLL, has_loop ml mw hl hC n (i + 1) (by omega)]
      have : w ∈ v :: L.drop (i + 1) ↔ w ∈ L.drop (i + 1) := by rw [List.mem_cons]; exact ⟨fun h => h.resolve_left (fun h => e h.symm), .inr⟩
      simp only [this]
theorem s96 {kl : Nat} {L : List (Int × Int)} {w : Int × Int} (H : Holds o s C) (ml : (kl, rowO 2 L.length (L.flatMap encW)) ∈ C) (hl : L.length ≤ 1000000) (q : ∀ s', Holds o s' C → Q (.bool (decide (w ∈ L))) s') : WP (call PF 96 [rowV kl L.length, .agg (encW w)] s) Q := by
  have h1 := H.alloc (.cells (encW w) none)
  have e := fun K => has_loop (K := K) (w := w) (List.mem_cons_of_mem _ ml) (List.mem_cons_self ..) hl h1 L.length 0 (by omega)
  simp only [List.drop_zero, Int.natCast_zero, encW] at e
  by_cases hw : w ∈ L
  · simp only [if_pos hw] at e
    rw [call_run F96]; simp -implicitDefEqProofs only [↓GP, GB, GL, Nat.reduceAdd, Nat.reduceSub, Nat.reduceEqDiff, Nat.reduceMul, Nat.reduceLeDiff, Int.reduceBNe, Int.reduceBEq, Nat.reduceLT, reduceCtorEq, c96, encW, e]
    have := q _ h1.tl
    rwa [decide_eq_true hw] at this
  · simp only [if_neg hw] at e
    rw [call_run F96]; simp -implicitDefEqProofs only [↓GP, GB, GL, Nat.reduceAdd, Nat.reduceSub, Nat.reduceEqDiff, Nat.reduceMul, Nat.reduceLeDiff, Int.reduceBNe, Int.reduceBEq, Nat.reduceLT, reduceCtorEq, c96, encW, e, j96_bb]
    have := q _ h1.tl
    rwa [decide_eq_false hw] at this
theorem s101 (hC : Holds o s C) {hr : RHeap} {p : Nat} (hin : RIn C p hr) (h0 : hr.regs ≠ []) : call PF 101 [ptrN hr.id] s = some (.bool false, s) := by
  have f := hC.mem hin.id
  simp only [RHeap.hd] at f
  have h1 : ((hr.regs.length : Int) == 0) = false := by
    rw [beq_eq_false_iff_ne]
    have := List.length_pos_iff.2 h0
    omega
  rw [call_run F101]; simp -implicitDefEqProofs only [↓GP, GB, GL, Nat.reduceAdd, Nat.reduceSub, Nat.reduceEqDiff, Nat.reduceMul, Nat.reduceLeDiff, Int.reduceBNe, Int.reduceBEq, Nat.reduceLT, reduceCtorEq, c101, f, hr.rv_len, h1]
structure RLook (C : Ch) (p : Nat) (hr : RHeap) : Prop where
  rin : RIn C p hr
  ne : hr.regs ≠ []
  len : hr.regs.length ≤ 100000
  objs : ∀ g ∈ hr.regs, g.objs.length ≤ 100000
  ws : ∀ g ∈ hr.regs, ∀ x ∈ g.objs, 1 ≤ x.b.ws.length ∧ x.b.ws.length ≤ 31
theorem RLook.cons {hr : RHeap} (h : RLook C p hr) (x : Nat × Option O) : RLook (x :: C) p hr := ⟨h.rin.cons x, h.ne, h.len, h.objs, h.ws⟩
theorem RLook.mono {D : Ch} {hr : RHeap} (h : RLook C p hr) (hs : ∀ x ∈ C, x ∈ D) : RLook D p hr := ⟨h.rin.mono hs, h.ne, h.len, h.objs, h.ws⟩
theorem rfind_neg {N L : Int} (hL : ¬ 1 ≤ L) : ∀ (rs : List RReg) (i : Nat), rfind N L rs i = none
  | [], _ => rfl
  | g :: rs, i => by unfold rfind; rw [if_neg (fun h => hL h.2)]; exact rfind_neg hL rs (i + 1)
theorem find_both {hp : PHeap} {hr : RHeap} (hm : hp.regs.map PReg.m = hr.regs.map RReg.m) (w : Int × Int) :
    (rfind w.1 w.2 hr.regs 0 = none ∧ thereB hp w = false) ∨
    ∃ a b g x, rfind w.1 w.2 hr.regs 0 = some (a, b) ∧ hr.regs[a]? = some g ∧ g.objs[b]? = some x ∧ thereB hp w = true ∧ objW hp w = x.b.ws := by
  by_cases hL : 1 ≤ w.2
  · have hf := find_same (N := w.1) hL hp.regs hr.regs 0 hm
    cases h : rfind w.1 w.2 hr.regs 0 with
    | none =>
      rw [h] at hf
      simp only at hf
      refine .inl ⟨rfl, ?_⟩
      unfold thereB; rw [hf]; simp
    | some ab =>
      obtain ⟨a, b⟩ := ab
      rw [h] at hf
      obtain ⟨g, g', x, x', _, k1, k2, k3, k4, k5, k6, k7, _⟩ := hf
      refine .inr ⟨a, b, g', x', rfl, k2, k4, ?_, ?_⟩
      · unfold thereB; rw [k7]; simp; omega
      · unfold objW; rw [k7]; simp [k5]
  · refine .inl ⟨rfind_neg hL _ _, ?_⟩
    unfold thereB; rw [decide_eq_false (by omega)]; rfl
theorem reached_loop {hp : PHeap} {hr : RHeap} {roots : List (Int × Int)} {K : Kt} (h : RLook C p hr) (hm : hp.regs.map PReg.m = hr.regs.map RReg.m) (hT : (roots ++ (reachW hp roots).flatMap (objW hp)).length ≤ 10000000) (hall : (allW hp).length ≤ 90000) :
    ∀ (n j k kt : Nat) (out todo : List (Int × Int)) (s : St), j + n = (roots ++ (reachW hp roots).flatMap (objW hp)).length + 1 → out <+: reachW hp roots → todo = roots ++ out.flatMap (objW hp) → out = putAllW hp (todo.take j) → j ≤ todo.length →
    Holds o s ((k, rowO 2 out.length (out.flatMap encW)) :: (kt, rowO 2 todo.length (todo.flatMap encW)) :: C) →
    (∀ s' k', Holds o s' ((k', rowO 2 (reachW hp roots).length ((reachW hp roots).flatMap encW)) :: C) → WP (K (.exit 0) (sp 63 [(6, rowV k' (reachW hp roots).length)]) s') Q) →
    WP (loop PF (.loop l52_0) (sp 63 [(0, ptrN hr.id), (6, rowV k out.length), (7, rowV kt todo.length), (8, I j)]) s K) Q
  | 0, j, k, kt, out, todo, s, hn, h1, h2, h3, hj, H, q => by
    have := reach_todo h1
    rw [← h2] at this
    omega
  | n + 1, j, k, kt, out, todo, s, hn, h1, h2, h3, hj, H, q => by
    have htl := reach_todo h1
    rw [← h2] at htl
    have hol : out.length ≤ 90000 := Nat.le_trans h1.length_le (Nat.le_trans (Found.reach hp roots).len hall)
    by_cases hlt0 : j < todo.length
    · have hlt : ((j : Int) < (todo.length : Int)) := by omega
      have hw1 := wrap_add1 (a := j) (by omega)
      have hix := ix_row (sz := 2) (k := kt) (n := todo.length) (i := j) (kk := .i64) hlt0
      have er : rowO 2 todo.length (todo.flatMap encW) = some (.cells (todo.flatMap encW) (some 2)) := by unfold rowO; rw [if_neg (by omega)]
      have mt : (kt, some (.cells (todo.flatMap encW) (some 2))) ∈ (k, rowO 2 out.length (out.flatMap encW)) :: (kt, rowO 2 todo.length (todo.flatMap encW)) :: C := List.mem_cons_of_mem _ (er ▸ List.mem_cons_self ..)
      have fr := H.mem mt
      have hg := List.getElem?_eq_getElem hlt0
      have hld := ldN_tab (enc := encW) encW_len todo (some 2) hg
      generalize todo[j] = w at hg hld
      obtain ⟨k1, k2⟩ := reach_step h1 h2 h3 hg
      have h' := (h.cons (kt, rowO 2 todo.length (todo.flatMap encW))).cons (k, rowO 2 out.length (out.flatMap encW))
      refine wp_round fun LL hLL => ?_
      simp -implicitDefEqProofs only [↓GP, GB, GL, Nat.reduceAdd, Nat.reduceSub, Nat.reduceEqDiff, Nat.reduceMul, Nat.reduceLeDiff, Int.reduceBNe, Int.reduceBEq, Nat.reduceLT, reduceCtorEq, l52_0, hlt, hix, fr, hld, encW]
      refine wp_in (s103 H h'.rin h'.len h'.objs fun s1 g1 => ?_)
      rcases find_both hm w with ⟨e1, e2⟩ | ⟨a, b, g, x, e1, e2, e3, e4, e5⟩
      · rw [e1]
        have ep : putW hp out w = out := if_neg (fun hh => by rw [e2] at hh; cases hh.2)
        rw [ep] at k2
        simp -implicitDefEqProofs only [↓GP, GB, GL, Nat.reduceAdd, Nat.reduceSub, Nat.reduceEqDiff, Nat.reduceMul, Nat.reduceLeDiff, Int.reduceBNe, Int.reduceBEq, Nat.reduceLT, reduceCtorEq, Int.reduceNeg, Int.reduceLT, hw1]
        rw [hLL]
        exact reached_loop h hm hT hall n (j + 1) k kt out todo s1 (by omega) h1 h2 k2 (by omega) g1 q
      · rw [e1]
        have ha : ¬ ((a : Int) < 0) := by omega
        have fr1 := g1.mem mt
        simp -implicitDefEqProofs only [↓GP, GB, GL, Nat.reduceAdd, Nat.reduceSub, Nat.reduceEqDiff, Nat.reduceMul, Nat.reduceLeDiff, Int.reduceBNe, Int.reduceBEq, Nat.reduceLT, reduceCtorEq, ha, hix, fr1, hld, encW]
        refine wp_in (s96 (w := w) g1 (List.mem_cons_self ..) (by omega) fun s2 g2 => ?_)
        by_cases hin : w ∈ out
        · rw [decide_eq_true hin]
          have ep : putW hp out w = out := if_neg (fun hh => hh.1 hin)
          rw [ep] at k2
          simp -implicitDefEqProofs only [↓GP, GB, GL, Nat.reduceAdd, Nat.reduceSub, Nat.reduceEqDiff, Nat.reduceMul, Nat.reduceLeDiff, Int.reduceBNe, Int.reduceBEq, Nat.reduceLT, reduceCtorEq, hw1]
          rw [hLL]
          exact reached_loop h hm hT hall n (j + 1) k kt out todo s2 (by omega) h1 h2 k2 (by omega) g2 q
        · rw [decide_eq_false hin]
          have ep : putW hp out w = out ++ [w] := if_pos ⟨hin, e4⟩
          rw [ep] at k1 k2
          have fr2 := g2.mem mt
          have mg := List.mem_of_getElem? e2
          have mx := List.mem_of_getElem? e3
          have hws := h.ws g mg x mx
          have h2' : todo ++ x.b.ws = roots ++ (out ++ [w]).flatMap (objW hp) := by rw [h2, List.flatMap_append, List.flatMap_cons, List.flatMap_nil, List.append_nil, e5, List.append_assoc]
          have htl2 := reach_todo k1
          rw [← h2', List.length_append] at htl2
          simp -implicitDefEqProofs only [↓GP, GB, GL, Nat.reduceAdd, Nat.reduceSub, Nat.reduceEqDiff, Nat.reduceMul, Nat.reduceLeDiff, Int.reduceBNe, Int.reduceBEq, Nat.reduceLT, reduceCtorEq, hix, fr2, hld, encW]
          refine wp_append (sz := 2) (bytes := 16) (m := 1) (cs := out.flatMap encW) ((g2.alloc _).r1) (by rw [tab_len encW_len]) (new_cells' (alloc_new_same _ _) rfl) rfl rfl (by omega) (by unfold maxRow; omega) (by unfold maxRow; omega) fun k' s3 g3 => ?_
          have g4 := g3.r1.tl
          have h4 := (h.cons (kt, rowO 2 todo.length (todo.flatMap encW))).cons (k', rowO 2 (out.length + 1) (out.flatMap encW ++ [I w.1, I w.2]))
          have f4 := g4.mem h4.rin.id
          have fr4 := g4.mem h4.rin.row
          have mo := h4.rin.ob mg
          unfold RReg.obO at mo
          rw [rowO_pos (List.length_pos_iff.2 (List.ne_nil_of_mem mx) : 0 < g.objs.length)] at mo
          have fo := g4.mem mo
          have fw := g4.mem (h4.rin.w mg mx)
          simp only [RHeap.hd] at f4
          simp -implicitDefEqProofs only [↓GP, GB, GL, Nat.reduceAdd, Nat.reduceSub, Nat.reduceEqDiff, Nat.reduceMul, Nat.reduceLeDiff, Int.reduceBNe, Int.reduceBEq, Nat.reduceLT, reduceCtorEq, f4, fr4, rreg e2, fo, robj e3, ix_row (List.getElem?_eq_some_iff.1 e3).1]
          refine wp_append (k := kt) (n := todo.length) (sz := 2) (bytes := 16) (m := x.b.ws.length) (cs := todo.flatMap encW) (F := (k', rowO 2 (out.length + 1) (out.flatMap encW ++ [I w.1, I w.2])) :: C) (g4.r1) (by rw [tab_len encW_len]) (new_cV fw.1 (by rw [tab_len encW_len])) (by rw [tab_len encW_len]) (by rw [List.all_flatMap]; simp [encW, V.one]) (by omega) (by unfold maxRow; omega) (by unfold maxRow; omega) fun kt' s4 g5 => ?_
          simp -implicitDefEqProofs only [↓GP, GB, GL, Nat.reduceAdd, Nat.reduceSub, Nat.reduceEqDiff, Nat.reduceMul, Nat.reduceLeDiff, Int.reduceBNe, Int.reduceBEq, Nat.reduceLT, reduceCtorEq, hw1]
          rw [hLL]
          have hl1 : (out ++ [w]).length = out.length + 1 := by simp
          have hl2 : (todo ++ x.b.ws).length = todo.length + x.b.ws.length := by simp
          have := reached_loop (K := K) h hm hT hall n (j + 1) k' kt' (out ++ [w]) (todo ++ x.b.ws) s4 (by omega) k1 h2' (by rw [k2, List.take_append_of_le_length (by omega)]) (by omega) (by
            rw [hl1, hl2, List.flatMap_append, List.flatMap_append]; simpa [encW] using g5.r1) q
          rw [hl1, hl2] at this
          exact this
    · have hlt : ¬ ((j : Int) < (todo.length : Int)) := by omega
      have e : out = reachW hp roots := by
        refine reach_done h1 ?_
        rw [List.take_of_length_le (by omega)] at h3
        rw [← h2]; exact h3
      refine wp_round fun LL hLL => ?_
      simp -implicitDefEqProofs only [↓GP, GB, GL, Nat.reduceAdd, Nat.reduceSub, Nat.reduceEqDiff, Nat.reduceMul, Nat.reduceLeDiff, Int.reduceBNe, Int.reduceBEq, Nat.reduceLT, reduceCtorEq, l52_0, hlt]
      rw [e] at H ⊢
      exact q s k H.r1.tl
theorem all_objW {hp : PHeap} (hw : ∀ g ∈ hp.regs, ∀ x ∈ g.objs, x.b.ws.length ≤ 31) (w : Int × Int) : (objW hp w).length ≤ 31 := by
  unfold objW
  cases h : pfind w.1 w.2 hp.regs with
  | none => simp
  | some x =>
    obtain ⟨g, mg, mx⟩ := pfind_mem h
    exact hw g mg x mx
theorem flat_len {α β : Type} {f : α → List β} {n : Nat} (h : ∀ a, (f a).length ≤ n) : ∀ l : List α, (l.flatMap f).length ≤ l.length * n
  | [] => by simp
  | a :: l => by
    have := flat_len h l
    have := h a
    rw [List.flatMap_cons, List.length_append, List.length_cons, Nat.succ_mul]
    omega
theorem s52 {hp : PHeap} {hr : RHeap} {kr : Nat} {roots : List (Int × Int)} (H : Holds o s C) (h : RLook C p hr) (hm : hp.regs.map PReg.m = hr.regs.map RReg.m) (hw : ∀ g ∈ hp.regs, ∀ x ∈ g.objs, x.b.ws.length ≤ 31) (hr' : (kr, rowO 2 roots.length (roots.flatMap encW)) ∈ C) (hrl : roots.length ≤ 1000) (hall : (allW hp).length ≤ 90000)
    (q : ∀ s' k, Holds o s' ((k, rowO 2 (reachW hp roots).length ((reachW hp roots).flatMap encW)) :: C) → Q (.tuple [rowV k (reachW hp roots).length, I 0]) s') : WP (call PF 52 [ptrN hr.id, rowV kr roots.length] s) Q := by
  have e := s101 H h.rin h.ne
  rw [call_run F52]; simp -implicitDefEqProofs only [↓GP, GB, GL, Nat.reduceAdd, Nat.reduceSub, Nat.reduceEqDiff, Nat.reduceMul, Nat.reduceLeDiff, Int.reduceBNe, Int.reduceBEq, Nat.reduceLT, reduceCtorEq, c52, e]
  have h1 := H.alloc (.cells [] none)
  by_cases h0 : roots.length = 0
  · have hr0 := List.length_eq_zero_iff.1 h0
    have e0 : rowV kr roots.length = .slice none 0 (some 0) := by rw [h0]; rfl
    rw [e0]
    refine wp_append00 (show newCells _ 2 (.slice none 0 (some 0)) = some ([], 0) by simp [newCells]) ?_
    simp -implicitDefEqProofs only [↓GP, GB, GL, Nat.reduceAdd, Nat.reduceSub, Nat.reduceEqDiff, Nat.reduceMul, Nat.reduceLeDiff, Int.reduceBNe, Int.reduceBEq, Nat.reduceLT, reduceCtorEq]
    refine wp_round fun LL hLL => ?_
    simp -implicitDefEqProofs only [↓GP, GB, GL, Nat.reduceAdd, Nat.reduceSub, Nat.reduceEqDiff, Nat.reduceMul, Nat.reduceLeDiff, Int.reduceBNe, Int.reduceBEq, Nat.reduceLT, reduceCtorEq, l52_0, Int.natCast_zero, Int.lt_irrefl, j52_bbbbb]
    have := q (s.alloc (.cells [] none)) 0 (by rw [hr0, reach_nil]; exact h1.tl.nilEntry 0)
    rw [hr0, reach_nil] at this
    exact this
  · rw [rowO_pos (by omega)] at hr'
    have hT : (roots ++ (reachW hp roots).flatMap (objW hp)).length ≤ 10000000 := by
      have h3 := (Found.reach hp roots).len
      have h4 := flat_len (all_objW hw) (reachW hp roots)
      rw [List.length_append]; omega
    refine wp_append0 (sz := 2) h1 (new_row (.inr (h1.mem (List.mem_cons_of_mem _ hr')).1) (by rw [tab_len encW_len])) (by omega) (by omega) (by unfold maxRow; omega) (by unfold maxRow; omega) fun kt s1 h2 => ?_
    simp -implicitDefEqProofs only [↓GP, GB, GL, Nat.reduceAdd, Nat.reduceSub, Nat.reduceEqDiff, Nat.reduceMul, Nat.reduceLeDiff, Int.reduceBNe, Int.reduceBEq, Nat.reduceLT, reduceCtorEq]
    rw [I0, ← rowV_z 0]
    refine reached_loop h hm hT hall _ 0 0 kt [] roots s1 (Nat.zero_add _) (List.nil_prefix) (by simp) (by simp [putAllW]) (Nat.zero_le _) ((show Holds o s1 ((kt, rowO 2 roots.length (roots.flatMap encW)) :: C) by rw [rowO_pos (by omega)]; exact h2).nilEntry 0) fun s2 k2 h3 => ?_
    simp -implicitDefEqProofs only [↓GP, GB, GL, Nat.reduceAdd, Nat.reduceSub, Nat.reduceEqDiff, Nat.reduceMul, Nat.reduceLeDiff, Int.reduceBNe, Int.reduceBEq, Nat.reduceLT, reduceCtorEq, j52_bbbbb]
    exact q s2 k2 h3
end
end Go.Proofs.Ytoldkemimhebaaa

set_option linter.unusedSimpArgs false
set_option linter.unusedVariables false
namespace Go.Proofs.Ytoldkemimhebaaa
open Go Go.IM
def l95_0 : IC := (.seq (.seq (.seq (.region [oa 47 (.mov (.t 6)), oa 48 (.mov (.t 0)), oa 49 (.nilCheck (.t 48)), oa 50 (.fieldAddr 1 (.t 49)), oa 51 (.load none (.t 50)), oa 52 (.mov (.t 4)), oa 53 (.indexAddr 5 (.t 51) (.t 52)), oa 54 (.fieldAddr 4 (.t 53)), oa 55 (.load none (.t 54)), oa 56 (.lenSlice (.t 55)), oa 57 (.bin .lss (.t 47) (.t 56))] (kp 93 [0,3,4,5,6,57]))
  (.cond (.t 57)
  (sk 93 [0,3,4,5,6])
  (sx 93 [0,3,4,5] 2)))
  (.seq (.block 3
  (.seq (.region [oa 60 (.mov (.t 0)), oa 61 (.nilCheck (.t 60)), oa 62 (.fieldAddr 1 (.t 61)), oa 63 (.load none (.t 62)), oa 64 (.mov (.t 4)), oa 65 (.indexAddr 5 (.t 63) (.t 64)), oa 66 (.fieldAddr 4 (.t 65)), oa 67 (.load none (.t 66)), oa 68 (.mov (.t 6)), oa 69 (.indexAddr 3 (.t 67) (.t 68)), oa 70 (.load (some 3) (.t 69)), oa 7 (.alloc [(.int .i64 (0)), (.int .i64 (0)), (.slice none 0 (some 0))]), ob (.store 3 (.t 7) (.t 70))] (kp 93 [0,3,4,5,6,7]))
  (.seq (.region [oa 71 (.buildSlice 0 [] []), oa 72 (.fieldAddr 2 (.t 7)), oa 73 (.load none (.t 72)), oa 74 (.append 2 16 (.t 71) (.t 73)), oa 75 (.fieldAddr 2 (.t 7)), ob (.store 1 (.t 75) (.t 74))] (kp 93 [0,3,4,5,6,7]))
  (.region [oa 76 (.fieldAddr 4 (.t 5)), oa 77 (.load none (.t 76)), oa 78 (.load (some 3) (.t 7)), oa 79 (.buildSlice 1 [(.int .i64 (0)), (.int .i64 (0)), (.slice none 0 (some 0))] [(0, 3, (.t 78))]), oa 80 (.append 3 40 (.t 77) (.t 79)), oa 81 (.fieldAddr 4 (.t 5)), ob (.store 1 (.t 81) (.t 80))] (kp 93 [0,3,4,5,6])))))
  (.region [oa 58 (.mov (.t 6)), oa 59 (.bin .add (.t 58) (ai 1)), oa 6 (.mov (.t 59))] (kp 93 [0,3,4,5,6]))))
  (sk 93 [0,3,4,5,6]))
def j95_1xabaabbbb : IC := (.region [oa 82 (.mov (.t 3)), oa 83 (.mov (.t 3)), oa 84 (.nilCheck (.t 83)), oa 85 (.fieldAddr 1 (.t 84)), oa 86 (.load none (.t 85)), oa 87 (.load (some 5) (.t 5)), oa 88 (.buildSlice 1 [(.int .i64 (0)), (.int .i64 (0)), (.slice none 0 (some 0)), (.int .i64 (0)), (.slice none 0 (some 0))] [(0, 5, (.t 87))]), oa 89 (.append 5 72 (.t 86) (.t 88)), oa 90 (.nilCheck (.t 82)), oa 91 (.fieldAddr 1 (.t 90)), ob (.store 1 (.t 91) (.t 89))] (kp 93 [0,3,4]))
def l95_1 : IC := (.seq (.seq (.seq (.region [oa 25 (.mov (.t 4)), oa 26 (.mov (.t 0)), oa 27 (.nilCheck (.t 26)), oa 28 (.fieldAddr 1 (.t 27)), oa 29 (.load none (.t 28)), oa 30 (.lenSlice (.t 29)), oa 31 (.bin .lss (.t 25) (.t 30))] (kp 93 [0,3,4,31]))
  (.cond (.t 31)
  (sk 93 [0,3,4])
  (sx 93 [3] 0)))
  (.seq (.block 1
  (.seq (.region [oa 34 (.mov (.t 0)), oa 35 (.nilCheck (.t 34)), oa 36 (.fieldAddr 1 (.t 35)), oa 37 (.load none (.t 36)), oa 38 (.mov (.t 4)), oa 39 (.indexAddr 5 (.t 37) (.t 38)), oa 40 (.load (some 5) (.t 39)), oa 5 (.alloc [(.int .i64 (0)), (.int .i64 (0)), (.slice none 0 (some 0)), (.int .i64 (0)), (.slice none 0 (some 0))]), ob (.store 5 (.t 5) (.t 40))] (kp 93 [0,3,4,5]))
  (.seq (.region [oa 41 (.buildSlice 0 [] []), oa 42 (.fieldAddr 2 (.t 5)), oa 43 (.load none (.t 42)), oa 44 (.append 1 8 (.t 41) (.t 43)), oa 45 (.fieldAddr 2 (.t 5)), ob (.store 1 (.t 45) (.t 44))] (kp 93 [0,3,4,5]))
  (.seq (.region [oa 46 (.fieldAddr 4 (.t 5)), ob (.store 1 (.t 46) (.c (.slice none 0 (some 0))))] (kp 93 [0,3,4,5]))
  (.seq (.seq (.region [oa 6 (.mov (ai 0))] (kp 93 [0,3,4,5,6]))
  (.block 2
  (.seq (sk 93 [0,3,4,5,6])
  (.loop l95_0))))
  j95_1xabaabbbb)))))
  (.region [oa 32 (.mov (.t 4)), oa 33 (.bin .add (.t 32) (ai 1)), oa 4 (.mov (.t 33))] (kp 93 [0,3,4]))))
  (sk 93 [0,3,4]))
def j95_bbb : IC := (.seq (.region [oa 92 (.mov (.t 3)), oa 2 (.mov (.t 92))] (kp 93 [2]))
  (sr 93 [2]))
def c95 : IFn := ⟨93, [(2, none)],
  (.seq (.region [oa 2 (.mov (.c (.ptr none)))] (kp 93 [0]))
  (.seq (.region [oa 8 (.buildSlice 0 [] []), oa 9 (.mov (.t 0)), oa 10 (.nilCheck (.t 9)), oa 11 (.fieldAddr 0 (.t 10)), oa 12 (.load none (.t 11)), oa 13 (.nilCheck (.t 12)), oa 14 (.fieldAddr 0 (.t 13)), oa 15 (.load none (.t 14)), oa 19 (.mov (.t 0)), oa 20 (.nilCheck (.t 19)), oa 21 (.fieldAddr 2 (.t 20)), oa 22 (.load none (.t 21)), oa 16 (.append 1 1 (.t 8) (.t 15)), ob (.again 22 (.load none (.t 21))), oa 17 (.build [(.slice none 0 (some 0))] [(0, 1, (.t 16))]), oa 18 (.box (.t 17)), oa 23 (.build [(.ptr none), (.slice none 0 (some 0)), (.int .i64 (0))] [(0, 1, (.t 18)), (2, 1, (.t 22))]), oa 24 (.box (.t 23)), oa 3 (.mov (.t 24))] (kp 93 [0,3]))
  (.seq (.seq (.region [oa 4 (.mov (ai 0))] (kp 93 [0,3,4]))
  (.block 0
  (.seq (sk 93 [0,3,4])
  (.loop l95_1))))
  j95_bbb)))⟩
theorem F95 : shutF Try.prog 95 = some c95 := by kernel_rfl
section
variable {o : Nat → Option O} {s : St} {C F : Ch} {Q : V → St → Prop} {p q : Nat}
set_option maxRecDepth 10000
set_option maxHeartbeats 4000000
theorem wp_append_pg {C : CallT} {d : Option Nat} {r : List II} {e : Env} {K : Env → St → Res} {bytes t n : Nat} {new : List V} {y : V} (h : Holds o s ((t, some (.cells [] none)) :: F)) (hy : newCells s 1 y = some (new, n)) (hn : new.length = n) (hb : n * bytes ≤ maxRow) (hb' : n ≤ maxRow)
    (q : ∀ pk s', Holds o s' ((pk, rowO 1 n new) :: F) → WP (goOps C r (put e d (pgV pk n)) s' K) Q) : WP (contO C d r e K (appendI 1 bytes (.slice (some ⟨.new t, 0⟩) 0 (some 0)) y s)) Q := by
  by_cases h0 : n = 0
  · subst h0
    have hnn := List.length_eq_zero_iff.1 hn
    subst hnn
    refine wp_append00 hy ?_
    exact q (t + 1) s (h.tl.nilEntry _)
  · refine wp_append0 (sz := 1) h hy (by omega) (by omega) hb hb' fun k s' h1 => ?_
    have := q k s' (by rw [rowO_pos (by omega)]; exact h1)
    rw [pgV_pos (by omega)] at this
    exact this
theorem newCells_pgV {S : St} {k : Nat} {l : List Nat} (h : l.length = 0 ∨ S.new k = some (.cells (l.map fun n : Nat => I n) (some 1))) : newCells S 1 (pgV k l.length) = some (l.map fun n : Nat => I n, l.length) := by
  by_cases h0 : l.length = 0
  · rw [h0, List.length_eq_zero_iff.1 h0]; exact newCells_pg ..
  · rw [pgV_pos (by omega)]
    exact new_row (.inr (h.resolve_left h0)) (by simp)
def copyO (xs : List RObj) (ks : List Nat) : List RObj := List.zipWith (fun x k => ⟨k, x.b, true⟩) xs ks
theorem copyO_b : ∀ (xs : List RObj) (ks : List Nat), ks.length = xs.length → (copyO xs ks).map (·.b) = xs.map (·.b)
  | [], [], _ => rfl
  | [], _ :: _, h => by simp at h
  | _ :: _, [], h => by simp at h
  | x :: xs, k :: ks, h => by
    have := copyO_b xs ks (by simpa using h)
    simp only [copyO] at this
    simp only [copyO, List.zipWith_cons_cons, List.map_cons, this]
theorem copyO_snoc : ∀ (xs : List RObj) (ks : List Nat) (x : RObj) (k : Nat), ks.length = xs.length → copyO (xs ++ [x]) (ks ++ [k]) = copyO xs ks ++ [⟨k, x.b, true⟩]
  | [], [], _, _, _ => rfl
  | [], _ :: _, _, _, h => by simp at h
  | _ :: _, [], _, _, h => by simp at h
  | a :: xs, b :: ks, x, k, h => by
    have := copyO_snoc xs ks x k (by simpa using h)
    simp only [copyO] at this
    simp only [copyO, List.cons_append, List.zipWith_cons_cons, this]
theorem copyO_len (xs : List RObj) (ks : List Nat) (h : ks.length = xs.length) : (copyO xs ks).length = xs.length := by simp [copyO, h]
theorem copyo_loop {hr : RHeap} {g : RReg} {i hc t : Nat} {c0 c1 c2 c3 : V} {K : Kt} (h : RLook C p hr) (hg : hr.regs[i]? = some g) :
    ∀ (n j ok : Nat) (ks : List Nat) (s : St), j + n = g.objs.length → ks.length = j →
    Holds o s ((t, some (.cells [c0, c1, c2, c3, rowV ok j] none)) :: (ok, rowO 3 j ((copyO (g.objs.take j) ks).flatMap RObj.enc)) :: ((copyO (g.objs.take j) ks).flatMap RObj.ch ++ C)) →
    (∀ s' ok' ks', ks'.length = g.objs.length → Holds o s' ((t, some (.cells [c0, c1, c2, c3, rowV ok' g.objs.length] none)) :: (ok', rowO 3 g.objs.length ((copyO g.objs ks').flatMap RObj.enc)) :: ((copyO g.objs ks').flatMap RObj.ch ++ C)) →
      WP (K (.exit 2) (sp 93 [(0, ptrN hr.id), (3, ptrN hc), (4, I i), (5, ptrN t)]) s') Q) →
    WP (loop PF (.loop l95_0) (sp 93 [(0, ptrN hr.id), (3, ptrN hc), (4, I i), (5, ptrN t), (6, I j)]) s K) Q
  | 0, j, ok, ks, s, hj, hk, H, q => by
    have h' := (h.mono fun x hx => List.mem_append_right ((copyO (g.objs.take j) ks).flatMap RObj.ch) hx).cons (ok, rowO 3 j ((copyO (g.objs.take j) ks).flatMap RObj.enc)) |>.cons (t, some (.cells [c0, c1, c2, c3, rowV ok j] none))
    have f := H.mem h'.rin.id
    have fr := H.mem h'.rin.row
    simp only [RHeap.hd] at f
    have hlt : ¬ ((j : Int) < (g.objs.length : Int)) := by omega
    have e : j = g.objs.length := by omega
    refine wp_round fun LL hLL => ?_
    simp -implicitDefEqProofs only [↓GP, GB, GL, Nat.reduceAdd, Nat.reduceSub, Nat.reduceEqDiff, Nat.reduceMul, Nat.reduceLeDiff, Int.reduceBNe, Int.reduceBEq, Nat.reduceLT, reduceCtorEq, l95_0, f, fr, rreg hg, hlt]
    subst e
    rw [List.take_length] at H
    exact q s ok ks hk H
  | n + 1, j, ok, ks, s, hj, hk, H, q => by
    have h' := (h.mono fun x hx => List.mem_append_right ((copyO (g.objs.take j) ks).flatMap RObj.ch) hx).cons (ok, rowO 3 j ((copyO (g.objs.take j) ks).flatMap RObj.enc)) |>.cons (t, some (.cells [c0, c1, c2, c3, rowV ok j] none))
    have hj' : j < g.objs.length := by omega
    have hlt : ((j : Int) < (g.objs.length : Int)) := by omega
    have mg := List.mem_of_getElem? hg
    have hol := h.objs g mg
    have hw1 := wrap_add1 (a := j) (by omega)
    have f := H.mem h'.rin.id
    have fr := H.mem h'.rin.row
    simp only [RHeap.hd] at f
    have mo := h'.rin.ob mg
    unfold RReg.obO at mo
    rw [rowO_pos (by omega : 0 < g.objs.length)] at mo
    have fo := H.mem mo
    have hx := List.getElem?_eq_getElem hj'
    have mx := List.getElem_mem hj'
    have htk : g.objs.take (j + 1) = g.objs.take j ++ [g.objs[j]] := by rw [List.take_add_one, hx]; rfl
    have hcl : (copyO (g.objs.take j) ks).length = j := by rw [copyO_len _ _ (by simp; omega)]; simp; omega
    generalize g.objs[j] = x at hx mx htk
    have hws := h.ws g mg x mx
    have fw := H.mem (h'.rin.w mg mx)
    refine wp_round fun LL hLL => ?_
    simp -implicitDefEqProofs only [↓GP, GB, GL, Nat.reduceAdd, Nat.reduceSub, Nat.reduceEqDiff, Nat.reduceMul, Nat.reduceLeDiff, Int.reduceBNe, Int.reduceBEq, Nat.reduceLT, reduceCtorEq, l95_0, f, fr, rreg hg, hlt, fo, robj hx, ix_row hj', RObj.enc]
    have h1 := ((H.alloc (.cells [I 0, I 0, .slice none 0 (some 0)] none)).set0 (.cells [I x.b.at_, I x.b.kind, cV x.gr x.wid x.b.ws.length] none)).alloc (.cells [] none)
    have fw1 := (h1.mem (List.mem_cons_of_mem _ (List.mem_cons_of_mem _ (h'.rin.w mg mx)))).1
    refine wp_append0 (sz := 2) h1 (new_cV fw1 (by rw [tab_len encW_len])) (by omega) (by omega) (by unfold maxRow; omega) (by unfold maxRow; omega) fun kw s1 h2 => ?_
    have f2 := h2.tl.f2
    simp -implicitDefEqProofs only [↓GP, GB, GL, Nat.reduceAdd, Nat.reduceSub, Nat.reduceEqDiff, Nat.reduceMul, Nat.reduceLeDiff, Int.reduceBNe, Int.reduceBEq, Nat.reduceLT, reduceCtorEq, f2]
    have h3 := (h2.set1 (.cells [I x.b.at_, I x.b.kind, rowV kw x.b.ws.length] none)).alloc (.cells [I x.b.at_, I x.b.kind, rowV kw x.b.ws.length] none)
    refine wp_append (k := ok) (n := j) (sz := 3) (bytes := 40) (m := 1) (cs := (copyO (g.objs.take j) ks).flatMap RObj.enc) (F := (t, some (.cells [c0, c1, c2, c3, rowV ok j] none)) :: (s1.next, some (.cells [I x.b.at_, I x.b.kind, rowV kw x.b.ws.length] none)) :: (kw, some (.cells (x.b.ws.flatMap encW) (some 2))) :: ((copyO (g.objs.take j) ks).flatMap RObj.ch ++ C)) (Holds.of (h3) (fun k => by simp +arith only [HA, HB]) (fun k x => by simp only [HA, HC]; grind only))
      (by rw [tab_len RObj.enc_len, hcl]) (new_cells' (alloc_new_same _ _) rfl) rfl (by simp only [List.all_cons, List.all_nil, rowV_one, one_int, Bool.and_true]) (by omega) (by unfold maxRow; omega) (by unfold maxRow; omega) fun ok' s2 h4 => ?_
    have f4 := h4.tl.f1
    simp -implicitDefEqProofs only [↓GP, GB, GL, Nat.reduceAdd, Nat.reduceSub, Nat.reduceEqDiff, Nat.reduceMul, Nat.reduceLeDiff, Int.reduceBNe, Int.reduceBEq, Nat.reduceLT, reduceCtorEq, f4, hw1]
    rw [hLL]
    have h5 := h4.set1 (.cells [c0, c1, c2, c3, rowV ok' (j + 1)] none)
    have hcs := copyO_snoc (g.objs.take j) ks x kw (by simp; omega)
    have hvt : rowV kw x.b.ws.length = cV true kw x.b.ws.length := (cV_tt (by omega)).symm
    refine copyo_loop h hg n (j + 1) ok' (ks ++ [kw]) _ (by omega) (by simp; omega) ?_ q
    rw [htk, hcs]
    exact (Holds.of (h5) (fun k => by simp +arith only [RObj.enc, hvt, cG_tt, HA, HB]) (fun k x => by simp only [RObj.enc, hvt, cG_tt, HA, HC]; grind only))
theorem copyr_loop {hr : RHeap} {hc p2 : Nat} {K : Kt} (h : RLook C p hr) (hpl : ∀ g ∈ hr.regs, g.pages.length ≤ 400) :
    ∀ (n i rk : Nat) (D : List RReg) (s : St), i + n = hr.regs.length → D.map RReg.m = (hr.regs.take i).map RReg.m →
    Holds o s ((hc, some (.cells [ptrN p2, rowV rk i, I hr.lives] none)) :: (rk, rowO 5 i (D.flatMap RReg.enc)) :: (D.flatMap RReg.ch ++ C)) →
    (∀ s' rk' (D' : List RReg), D'.map RReg.m = hr.regs.map RReg.m → Holds o s' ((hc, some (.cells [ptrN p2, rowV rk' hr.regs.length, I hr.lives] none)) :: (rk', rowO 5 hr.regs.length (D'.flatMap RReg.enc)) :: (D'.flatMap RReg.ch ++ C)) → WP (K (.exit 0) (sp 93 [(3, ptrN hc)]) s') Q) →
    WP (loop PF (.loop l95_1) (sp 93 [(0, ptrN hr.id), (3, ptrN hc), (4, I i)]) s K) Q
  | 0, i, rk, D, s, hi, hD, H, q => by
    have h' := ((h.mono fun x hx => List.mem_append_right (D.flatMap RReg.ch) hx).cons (rk, rowO 5 i (D.flatMap RReg.enc))).cons (hc, some (.cells [ptrN p2, rowV rk i, I hr.lives] none))
    have f := H.mem h'.rin.id
    simp only [RHeap.hd] at f
    have hlt : ¬ ((i : Int) < (hr.regs.length : Int)) := by omega
    have e : i = hr.regs.length := by omega
    refine wp_round fun LL hLL => ?_
    simp -implicitDefEqProofs only [↓GP, GB, GL, Nat.reduceAdd, Nat.reduceSub, Nat.reduceEqDiff, Nat.reduceMul, Nat.reduceLeDiff, Int.reduceBNe, Int.reduceBEq, Nat.reduceLT, reduceCtorEq, l95_1, f, hr.rv_len, hlt]
    subst e
    rw [List.take_length] at hD
    exact q s rk D hD H
  | n + 1, i, rk, D, s, hi, hD, H, q => by
    have h' := ((h.mono fun x hx => List.mem_append_right (D.flatMap RReg.ch) hx).cons (rk, rowO 5 i (D.flatMap RReg.enc))).cons (hc, some (.cells [ptrN p2, rowV rk i, I hr.lives] none))
    have hi' : i < hr.regs.length := by omega
    have hlt : ((i : Int) < (hr.regs.length : Int)) := by omega
    have hlen := h.len
    have hw1 := wrap_add1 (a := i) (by omega)
    have f := H.mem h'.rin.id
    have fr := H.mem h'.rin.row
    simp only [RHeap.hd] at f
    have hg := List.getElem?_eq_getElem hi'
    have mg := List.getElem_mem hi'
    have htk : hr.regs.take (i + 1) = hr.regs.take i ++ [hr.regs[i]] := by rw [List.take_add_one, hg]; rfl
    generalize hr.regs[i] = g at hg mg htk
    have hDl : D.length = i := by have := congrArg List.length hD; simp at this; omega
    refine wp_round fun LL hLL => ?_
    simp -implicitDefEqProofs only [↓GP, GB, GL, Nat.reduceAdd, Nat.reduceSub, Nat.reduceEqDiff, Nat.reduceMul, Nat.reduceLeDiff, Int.reduceBNe, Int.reduceBEq, Nat.reduceLT, reduceCtorEq, l95_1, f, fr, hr.rv_len, rreg hg, hlt, RReg.enc]
    have h1 := ((H.alloc (.cells [I 0, I 0, .slice none 0 (some 0), I 0, .slice none 0 (some 0)] none)).set0 (.cells [I g.size, I g.life, pgV g.pgk g.pages.length, I g.fill, rowV g.obk g.objs.length] none)).alloc (.cells [] none)
    have hgl := hpl g mg
    have hy := newCells_pgV (S := (((s.alloc (.cells [I 0, I 0, .slice none 0 (some 0), I 0, .slice none 0 (some 0)] none)).set s.next (.cells [I g.size, I g.life, pgV g.pgk g.pages.length, I g.fill, rowV g.obk g.objs.length] none))).alloc (.cells [] none)) (k := g.pgk) (l := g.pages) (by
      have mp := h'.rin.pg mg
      by_cases h0 : g.pages.length = 0
      · exact .inl h0
      · rw [pagesO, rowO_pos (by omega : 0 < g.pages.length)] at mp
        exact .inr (h1.mem (List.mem_cons_of_mem _ (List.mem_cons_of_mem _ mp))).1)
    refine wp_append_pg h1 hy (by simp) (by unfold maxRow; omega) (by unfold maxRow; omega) fun pk s1 h2 => ?_
    have f2 := h2.tl.f1
    simp -implicitDefEqProofs only [↓GP, GB, GL, Nat.reduceAdd, Nat.reduceSub, Nat.reduceEqDiff, Nat.reduceMul, Nat.reduceLeDiff, Int.reduceBNe, Int.reduceBEq, Nat.reduceLT, reduceCtorEq, f2]
    have h3 := (h2.set1 (.cells [I g.size, I g.life, pgV pk g.pages.length, I g.fill, rowV g.obk g.objs.length] none)).set1 (.cells [I g.size, I g.life, pgV pk g.pages.length, I g.fill, .slice none 0 (some 0)] none)
    rw [← rowV_z 0, I0]
    have hup : ∀ x ∈ C, x ∈ (pk, rowO 1 g.pages.length (g.pages.map fun n : Nat => I n)) :: (hc, some (.cells [ptrN p2, rowV rk i, I hr.lives] none)) :: (rk, rowO 5 i (D.flatMap RReg.enc)) :: (D.flatMap RReg.ch ++ C) := fun x hx => List.mem_cons_of_mem _ (List.mem_cons_of_mem _ (List.mem_cons_of_mem _ (List.mem_append_right _ hx)))
    refine copyo_loop (c0 := I g.size) (c1 := I g.life) (c2 := pgV pk g.pages.length) (c3 := I g.fill) (h.mono hup) hg g.objs.length 0 0 [] _ (by omega) rfl (Holds.of (h3.nilEntry 0) (fun k => by simp +arith only [List.take_zero, copyO, List.zipWith_nil_left, rowO_zero, rowV_zero, HA, HB]) (fun k x => by simp only [List.take_zero, copyO, List.zipWith_nil_left, rowO_zero, rowV_zero, HA, HC]; grind only)) fun s2 ok ks hks h4 => ?_
    have f4 := h4.mem (List.mem_cons_of_mem _ (List.mem_cons_of_mem _ (List.mem_append_right _ (List.mem_cons_of_mem _ (List.mem_cons_self ..)))) : (hc, some (O.cells [ptrN p2, rowV rk i, I hr.lives] none)) ∈ (s.next, some (O.cells [I g.size, I g.life, pgV pk g.pages.length, I g.fill, rowV ok g.objs.length] none)) :: (ok, rowO 3 g.objs.length ((copyO g.objs ks).flatMap RObj.enc)) :: ((copyO g.objs ks).flatMap RObj.ch ++ ((pk, rowO 1 g.pages.length (g.pages.map fun n : Nat => I n)) :: (hc, some (.cells [ptrN p2, rowV rk i, I hr.lives] none)) :: (rk, rowO 5 i (D.flatMap RReg.enc)) :: (D.flatMap RReg.ch ++ C))))
    have f5 := h4.f1
    simp -implicitDefEqProofs only [↓GP, GB, GL, Nat.reduceAdd, Nat.reduceSub, Nat.reduceEqDiff, Nat.reduceMul, Nat.reduceLeDiff, Int.reduceBNe, Int.reduceBEq, Nat.reduceLT, reduceCtorEq, j95_1xabaabbbb, f4, f5]
    have h5 := h4.alloc (.cells [I g.size, I g.life, pgV pk g.pages.length, I g.fill, rowV ok g.objs.length] none)
    refine wp_append (k := rk) (n := i) (sz := 5) (bytes := 72) (m := 1) (cs := D.flatMap RReg.enc) (F := (s2.next, some (.cells [I g.size, I g.life, pgV pk g.pages.length, I g.fill, rowV ok g.objs.length] none)) :: (hc, some (.cells [ptrN p2, rowV rk i, I hr.lives] none)) :: (ok, rowO 3 g.objs.length ((copyO g.objs ks).flatMap RObj.enc)) :: ((copyO g.objs ks).flatMap RObj.ch ++ ((pk, rowO 1 g.pages.length (g.pages.map fun n : Nat => I n)) :: (D.flatMap RReg.ch ++ C)))) (Holds.of (h5) (fun k => by simp +arith only [HA, HB]) (fun k x => by simp only [HA, HC]; grind only))
      (by rw [tab_len RReg.enc_len, hDl]) (new_cells' (alloc_new_same _ _) rfl) rfl (by simp only [List.all_cons, List.all_nil, rowV_one, pgV_one, one_int, Bool.and_true]) (by omega) (by unfold maxRow; omega) (by unfold maxRow; omega) fun rk' s3 h6 => ?_
    have f6 := h6.tl.tl.f1
    simp -implicitDefEqProofs only [↓GP, GB, GL, Nat.reduceAdd, Nat.reduceSub, Nat.reduceEqDiff, Nat.reduceMul, Nat.reduceLeDiff, Int.reduceBNe, Int.reduceBEq, Nat.reduceLT, reduceCtorEq, f6, hw1]
    rw [hLL]
    have h7 := h6.set2 (.cells [ptrN p2, rowV rk' (i + 1), I hr.lives] none)
    have hcb := copyO_b g.objs ks hks
    have hcl := copyO_len g.objs ks hks
    refine copyr_loop h hpl n (i + 1) rk' (D ++ [⟨pk, ok, g.size, g.life, g.fill, g.pages, copyO g.objs ks⟩]) _ (by omega) (by rw [htk, List.map_append, List.map_append, hD]; simp [RReg.m, hcb]) ?_ q
    exact (Holds.of (h7) (fun k => by simp +arith only [RReg.enc, RReg.obO, pagesO, hcl, HA, HB]) (fun k x => by simp only [RReg.enc, RReg.obO, pagesO, hcl, HA, HC]; grind only))
theorem s95 {hr : RHeap} {r : Nat} {u : List Bool} (H : Holds o s (poolC p r u ++ C)) (h : RLook C p hr) (hu : 0 < u.length ∧ u.length ≤ 400) (hpl : ∀ g ∈ hr.regs, g.pages.length ≤ 400)
    (q : ∀ s' (hc : RHeap) p2 r2, hc.regs.map RReg.m = hr.regs.map RReg.m → hc.lives = hr.lives → hc.grown = true → hc.sl = [] → Holds o s' ((p2, some (.cells [rowV r2 u.length] none)) :: (r2, rowO 1 u.length (u.map .bool)) :: (hc.ch p2 ++ (poolC p r u ++ C))) → Q (ptrN hc.id) s') : WP (call PF 95 [ptrN hr.id] s) Q := by
  have f := H.mem (List.mem_append_right _ h.rin.id)
  have fp := H.mem (List.mem_append_left _ (List.mem_cons_self ..) : (p, some (O.cells [V.slice (some ⟨.new r, 0⟩) u.length (some u.length)] none)) ∈ poolC p r u ++ C)
  simp only [RHeap.hd] at f
  rw [call_run F95]; simp -implicitDefEqProofs only [↓GP, GB, GL, Nat.reduceAdd, Nat.reduceSub, Nat.reduceEqDiff, Nat.reduceMul, Nat.reduceLeDiff, Int.reduceBNe, Int.reduceBEq, Nat.reduceLT, reduceCtorEq, c95, f, fp]
  have h1 := H.alloc (.cells [] none)
  have mr : (r, some (O.cells (u.map .bool) none)) ∈ poolC p r u ++ C := List.mem_append_left _ (List.mem_cons_of_mem _ (List.mem_cons_self ..))
  refine wp_append0 (sz := 1) h1 (new_cells' (new := u.map .bool) (h1.mem (List.mem_cons_of_mem _ mr)).1 (by simp)) (by omega) (by omega) (by unfold maxRow; omega) (by unfold maxRow; omega) fun r2 s1 h2 => ?_
  have f2 := h2.mem (List.mem_cons_of_mem _ (List.mem_append_right _ h.rin.id))
  simp only [RHeap.hd] at f2
  simp -implicitDefEqProofs only [↓GP, GB, GL, Nat.reduceAdd, Nat.reduceSub, Nat.reduceEqDiff, Nat.reduceMul, Nat.reduceLeDiff, Int.reduceBNe, Int.reduceBEq, Nat.reduceLT, reduceCtorEq, f2]
  have h3 := (h2.alloc (.cells [rowV r2 u.length] none)).alloc (.cells [ptrN s1.next, .slice none 0 (some 0), I hr.lives] none)
  simp only [alloc_next] at h3
  rw [I0]
  have h4 := h3.nilEntry 0
  refine copyr_loop (p2 := s1.next) (h.mono fun x hx => (List.mem_cons_of_mem _ (List.mem_cons_of_mem _ (List.mem_append_right _ hx)) : x ∈ (s1.next, some (O.cells [rowV r2 u.length] none)) :: (r2, some (O.cells (u.map .bool) (some 1))) :: (poolC p r u ++ C))) hpl hr.regs.length 0 0 [] _ (by omega) rfl (Holds.of (h4) (fun k => by simp +arith only [rowO_zero, rowV_zero, HA, HB]) (fun k x => by simp only [rowO_zero, rowV_zero, HA, HC]; grind only)) fun s2 rk D hD h5 => ?_
  have hl : D.length = hr.regs.length := by have := congrArg List.length hD; simpa using this
  simp -implicitDefEqProofs only [↓GP, GB, GL, Nat.reduceAdd, Nat.reduceSub, Nat.reduceEqDiff, Nat.reduceMul, Nat.reduceLeDiff, Int.reduceBNe, Int.reduceBEq, Nat.reduceLT, reduceCtorEq, j95_bbb]
  refine q s2 ⟨s1.next + 1, rk, true, hr.lives, D, []⟩ s1.next r2 hD rfl rfl rfl ?_
  have h0 : 0 < hr.regs.length := List.length_pos_iff.2 h.ne
  rw [rowO_pos h0] at h5
  rw [rowO_pos hu.1]
  exact (Holds.of (h5) (fun k => by simp +arith only [RHeap.hd, RHeap.rv, RHeap.row, if_true, hl, List.append_nil, HA, HB]) (fun k x => by simp only [RHeap.hd, RHeap.rv, RHeap.row, if_true, hl, List.append_nil, HA, HC]; grind only))
end
end Go.Proofs.Ytoldkemimhebaaa

set_option linter.unusedSimpArgs false
set_option linter.unusedVariables false
namespace Go.Proofs.Ytoldkemimhebaaa
open Go Go.IM
theorem updF_other : ∀ (ps : List ((Int × Int) × (Int × Int))) (f : ToF) (w : Int × Int), (∀ x ∈ ps, x.1 ≠ w) → (ps.foldl updF f) w = f w
  | [], _, _, _ => rfl
  | x :: ps, f, w, h => by
    rw [List.foldl_cons, updF_other ps _ w fun y hy => h y (List.mem_cons_of_mem _ hy)]
    unfold updF
    rw [if_neg (fun e => h x (List.mem_cons_self ..) e.symm)]
theorem updF_mem : ∀ (ks ns : List (Int × Int)) (f : ToF) (w : Int × Int), ns.length = ks.length → w ∈ ks → ∃ n ∈ ns, ((ks.zip ns).foldl updF f) w = some n
  | [], _, _, _, _, h => by cases h
  | _ :: _, [], _, _, h, _ => by simp at h
  | k :: ks, n :: ns, f, w, hl, h => by
    rw [List.zip_cons_cons, List.foldl_cons]
    by_cases hw : w ∈ ks
    · obtain ⟨m, h1, h2⟩ := updF_mem ks ns (updF f (k, n)) w (by simpa using hl) hw
      exact ⟨m, List.mem_cons_of_mem _ h1, h2⟩
    · have e : w = k := by rcases List.mem_cons.1 h with h | h; exact h; exact absurd h hw
      refine ⟨n, List.mem_cons_self .., ?_⟩
      rw [updF_other]
      · unfold updF; rw [if_pos e]
      · intro x hx e2
        exact hw (e2 ▸ (List.of_mem_zip hx).1)
def Points (rs : List Reg) (w : Int × Int) : Prop := 0 < w.2 ∧ ∃ r ∈ rs, (r.life : Int) = w.2 ∧ ∃ x ∈ r.objs, (x.at_ : Int) = w.1
theorem Points.find {rs : List Reg} {w : Int × Int} (h : Points rs w) : 0 < w.2 ∧ (mfind w.1 w.2 rs).isSome = true := by
  obtain ⟨h0, r, hr, h1, x, hx, h2⟩ := h
  refine ⟨h0, ?_⟩
  unfold mfind
  rw [List.findSome?_isSome_iff]
  refine ⟨r, hr, ?_⟩
  rw [if_pos h1, List.find?_isSome]
  exact ⟨x, hx, by simpa using h2⟩
theorem Points.mono {rs rs' : List Reg} {w : Int × Int} (h : Points rs w) (hs : ∀ r ∈ rs, r ∈ rs') : Points rs' w := by
  obtain ⟨h0, r, hr, h1⟩ := h
  exact ⟨h0, r, hs r hr, h1⟩
theorem layObj_at : ∀ (ys : List Obj) (ats : List Nat), ats.length = ys.length → ∀ a ∈ ats, ∃ y ∈ layObj ys ats, y.at_ = a
  | [], [], _, a, h => by cases h
  | [], _ :: _, h, _, _ => by simp at h
  | _ :: _, [], h, _, _ => by simp at h
  | y :: ys, b :: ats, hl, a, h => by
    simp only [layObj, List.zipWith_cons_cons]
    rcases List.mem_cons.1 h with rfl | h
    · exact ⟨_, List.mem_cons_self .., rfl⟩
    · obtain ⟨z, h1, h2⟩ := layObj_at ys ats (by simpa using hl) a h
      exact ⟨z, List.mem_cons_of_mem _ h1, h2⟩
structure ColInv (L : List (Int × Int)) (lv : Nat) (A B : List Reg) (S : ColS) : Prop where
  ok : RsOk lv S.u (S.regs ++ B)
  lives : S.regs.map (·.life) = A.map (·.life)
  objs : ∀ w ∈ S.objs, Points S.regs w
  fx : ∀ g ∈ A, ¬ 0 < g.pages.length → ∀ w ∈ wordsR g, w ∈ S.fx
  mv : ∀ g ∈ A, 0 < g.pages.length → ∀ x ∈ g.objs, ((x.at_ : Int), (g.life : Int)) ∈ L → ∃ n, S.mv ((x.at_ : Int), (g.life : Int)) = some n ∧ Points S.regs n
theorem ColInv.step {L : List (Int × Int)} {lv : Nat} {A B : List Reg} {S : ColS} {g : Reg} (h : ColInv L lv A (g :: B) S) : ColInv L lv (A ++ [g]) B (colStep L S g) := by
  have hI := h.ok.inv
  have hri := hI.reg g (by simp)
  have hlf := hI.life g (by simp)
  unfold colStep
  by_cases hp : 0 < g.pages.length
  · rw [if_pos hp]
    have hs : g.size = 0 := by
      rcases Nat.eq_zero_or_pos g.size with h | h
      · exact h
      · have := (hri.fin h).1; rw [this] at hp; simp at hp
    obtain ⟨ats, u', fill', pages', hlay, hnd, hpl, hal, hul, hR⟩ := h.ok.turn hs (ys := keptM L g) (List.filter_sublist ..)
    rw [hlay]
    simp only
    have hsub : ∀ r ∈ S.regs, r ∈ S.regs ++ [({ g with fill := fill', pages := pages', objs := layObj (keptM L g) ats } : Reg)] := fun r hr => List.mem_append_left _ hr
    have hnew : ∀ x ∈ keptM L g, ∃ n, (((keptM L g).map fun x => ((x.at_ : Int), (g.life : Int))).zip (ats.map fun a : Nat => ((a : Int), (g.life : Int)))).foldl updF S.mv ((x.at_ : Int), (g.life : Int)) = some n ∧ Points (S.regs ++ [({ g with fill := fill', pages := pages', objs := layObj (keptM L g) ats } : Reg)]) n := by
      intro x hx
      obtain ⟨n, h1, h2⟩ := updF_mem ((keptM L g).map fun x => ((x.at_ : Int), (g.life : Int))) (ats.map fun a : Nat => ((a : Int), (g.life : Int))) S.mv ((x.at_ : Int), (g.life : Int)) (by simp [hal]) (List.mem_map.2 ⟨x, hx, rfl⟩)
      obtain ⟨a, ha, rfl⟩ := List.mem_map.1 h1
      obtain ⟨y, hy, hya⟩ := layObj_at (keptM L g) ats hal a ha
      exact ⟨_, h2, by simp only; omega, _, List.mem_append_right _ (List.mem_cons_self ..), rfl, y, hy, by rw [hya]⟩
    refine ⟨by simpa using hR, by rw [List.map_append, List.map_append, h.lives]; rfl, fun w hw => (h.objs w hw).mono hsub, fun g0 m0 h0 w hw => ?_, fun g0 m0 h0 x hx hL => ?_⟩
    · rcases List.mem_append.1 m0 with m0 | m0
      · exact h.fx g0 m0 h0 w hw
      · simp at m0; subst m0; exact absurd hp h0
    · rcases List.mem_append.1 m0 with m0 | m0
      · obtain ⟨n, h1, h2⟩ := h.mv g0 m0 h0 x hx hL
        refine ⟨n, ?_, h2.mono hsub⟩
        show (List.foldl updF S.mv _) _ = some n
        rw [updF_other, h1]
        intro y hy e
        obtain ⟨hy1, _⟩ := List.of_mem_zip hy
        obtain ⟨z, _, hz⟩ := List.mem_map.1 hy1
        rw [← hz] at e
        simp only [Prod.mk.injEq] at e
        have hn := hI.nodup
        rw [List.map_append, List.map_cons, h.lives, List.nodup_append] at hn
        exact hn.2.2 _ (List.mem_map.2 ⟨g0, m0, rfl⟩) _ (List.mem_cons_self ..) (by omega)
      · simp at m0; subst m0
        exact hnew x (by unfold keptM; exact List.mem_filter.2 ⟨hx, by simpa using hL⟩)
  · rw [if_neg hp]
    have hsub : ∀ r ∈ S.regs, r ∈ S.regs ++ [g] := fun r hr => List.mem_append_left _ hr
    refine ⟨by simpa using h.ok, by rw [List.map_append, List.map_append, h.lives], fun w hw => ?_, fun g0 m0 h0 w hw => ?_, fun g0 m0 h0 x hx hL => ?_⟩
    · rcases List.mem_append.1 hw with hw | hw
      · exact (h.objs w hw).mono hsub
      · obtain ⟨x, hx, rfl⟩ := List.mem_map.1 hw
        exact ⟨by simp only; omega, g, by simp, rfl, x, hx, rfl⟩
    · rcases List.mem_append.1 m0 with m0 | m0
      · exact List.mem_append_left _ (h.fx g0 m0 h0 w hw)
      · simp at m0; subst m0; exact List.mem_append_right _ hw
    · rcases List.mem_append.1 m0 with m0 | m0
      · obtain ⟨n, h1, h2⟩ := h.mv g0 m0 h0 x hx hL
        exact ⟨n, h1, h2.mono hsub⟩
      · simp at m0; subst m0; exact absurd h0 hp
theorem ColInv.all {L : List (Int × Int)} {lv : Nat} : ∀ {B A : List Reg} {S : ColS}, ColInv L lv A B S → ColInv L lv (A ++ B) [] (B.foldl (colStep L) S)
  | [], A, S, h => by simpa using h
  | g :: B, A, S, h => by
    have := (h.step).all
    rw [List.append_assoc] at this
    exact this
theorem ColInv.start {L : List (Int × Int)} {lv : Nat} {u : List Bool} {B : List Reg} (h : RsOk lv u B) : ColInv L lv [] B ⟨[], u, fun _ => none, [], []⟩ :=
  ⟨h, rfl, fun w hw => (by cases hw), fun g hg => (by cases hg), fun g hg => (by cases hg)⟩
def colAll (L : List (Int × Int)) (u : List Bool) (rs : List Reg) : ColS := rs.foldl (colStep L) ⟨[], u, fun _ => none, [], []⟩
def colObjs (L : List (Int × Int)) (S : ColS) : List (Int × Int) := S.objs ++ (L.filter fun w => !decide (w ∈ S.fx)).map (toD S.mv)
def colRegs (L : List (Int × Int)) (S : ColS) : List Reg := (colObjs L S).foldl (fixM S.mv S.fx) S.regs
theorem thereB_m {hp : PHeap} {w : Int × Int} (h : thereB hp w = true) : Points (hp.regs.map PReg.m) w := by
  unfold thereB at h
  simp only [Bool.and_eq_true, decide_eq_true_eq] at h
  obtain ⟨x, hx⟩ := Option.isSome_iff_exists.1 h.2
  obtain ⟨A, g, B, X, Y, hr, ex, k1, k2, k3, k4⟩ := pfind_split hx
  exact ⟨h.1, g.m, List.mem_map.2 ⟨g, by rw [hr]; simp, rfl⟩, k2, x.b, List.mem_map.2 ⟨x, by rw [ex]; simp, rfl⟩, k3⟩
theorem colObjs_points {lv : Nat} {u : List Bool} {hp : PHeap} {L : List (Int × Int)} (h : RsOk lv u (hp.regs.map PReg.m)) (hL : ∀ w ∈ L, thereB hp w = true) :
    ∀ w ∈ colObjs L (colAll L u (hp.regs.map PReg.m)), Points (colAll L u (hp.regs.map PReg.m)).regs w := by
  have hI := (ColInv.start (L := L) h).all
  rw [List.nil_append] at hI
  intro w hw
  rcases List.mem_append.1 hw with hw | hw
  · exact hI.objs w hw
  · obtain ⟨v, hv, rfl⟩ := List.mem_map.1 hw
    obtain ⟨hvL, hvf⟩ := List.mem_filter.1 hv
    obtain ⟨h0, g, hg, h1, x, hx, h2⟩ := thereB_m (hL v hvL)
    have ev : v = ((x.at_ : Int), (g.life : Int)) := Prod.ext h2.symm h1.symm
    by_cases hp0 : 0 < g.pages.length
    · obtain ⟨n, q1, q2⟩ := hI.mv g hg hp0 x hx (ev ▸ hvL)
      unfold toD
      rw [ev]
      rw [show (colAll L u (hp.regs.map PReg.m)).mv ((x.at_ : Int), (g.life : Int)) = some n from q1]
      exact q2
    · have := hI.fx g hg hp0 v (by rw [ev]; exact List.mem_map.2 ⟨x, hx, rfl⟩)
      simp only [Bool.not_eq_true', decide_eq_false_iff_not] at hvf
      exact absurd this hvf
end Go.Proofs.Ytoldkemimhebaaa

set_option linter.unusedSimpArgs false
set_option linter.unusedVariables false
namespace Go.Proofs.Ytoldkemimhebaaa
open Go Go.IM
section
variable {o : Nat → Option O} {s : St} {C F : Ch} {Q : V → St → Prop} {p r : Nat} {u : List Bool}
set_option maxRecDepth 10000
set_option maxHeartbeats 4000000
theorem RsOk.look {hp : PHeap} {D : Ch} {lv : Nat} (h : RsOk lv u (hp.regs.map PReg.m)) (hok : ∀ g ∈ hp.regs, g.ok) (hD : ∀ y ∈ hp.ch p, y ∈ D) : Look D p hp := by
  refine ⟨⟨hD⟩, fun e => h.inv.ne (by rw [e]; rfl), by have h1 := h.inv.len; have h2 := h.inv.lives; rw [List.length_map] at h1; omega, hok, fun g0 m0 y my => ?_⟩
  exact ((h.inv.reg g0.m (List.mem_map.2 ⟨g0, m0, rfl⟩)).ws y.b (List.mem_map.2 ⟨y, my, rfl⟩)).2.1
theorem s46 {hp : PHeap} {kr : Nat} {roots : List (Int × Int)} (H : Holds o s (poolC p r u ++ (hp.ch p ++ F))) (hR : RsOk hp.lives u (hp.regs.map PReg.m)) (hok : ∀ g ∈ hp.regs, g.ok) (hr : (kr, rowO 2 roots.length (roots.flatMap encW)) ∈ F) (hrl : roots.length ≤ 1000) (hall : (allW hp).length ≤ 90000)
    (q : ∀ s' (hp' : PHeap) kout, hp'.id = hp.id → hp'.lives = hp.lives → hp'.regs.length = hp.regs.length → hp'.regs.map PReg.m = colRegs (reachW hp roots) (colAll (reachW hp roots) u (hp.regs.map PReg.m)) → RsOk hp.lives (colAll (reachW hp roots) u (hp.regs.map PReg.m)).u (hp'.regs.map PReg.m) → (∀ g ∈ hp'.regs, g.ok) →
      Holds o s' ((kout, rowO 2 roots.length ((roots.map (nowW (colAll (reachW hp roots) u (hp.regs.map PReg.m)).mv (colAll (reachW hp roots) u (hp.regs.map PReg.m)).fx)).flatMap encW)) :: (poolC p r (colAll (reachW hp roots) u (hp.regs.map PReg.m)).u ++ (hp'.ch p ++ F))) →
      Q (.tuple [rowV kout roots.length, I 0]) s') : WP (call PF 46 [ptrN hp.id, rowV kr roots.length] s) Q := by
  have h1 := H.alloc (.cells [ptrN hp.id] none)
  have inH : ∀ y ∈ hp.ch p, y ∈ (s.next, some (O.cells [ptrN hp.id] none)) :: (poolC p r u ++ (hp.ch p ++ F)) := fun y hy => List.mem_cons_of_mem _ (List.mem_append_right _ (List.mem_append_left _ hy))
  have lk1 := hR.look hok inH
  have e89 := s89 h1 lk1.hin lk1.ne lk1.len
  have hfound := Found.reach hp roots
  have hLl := hfound.len
  have hpts := colObjs_points hR hfound.there
  rw [call_run F46]; simp -implicitDefEqProofs only [↓GP, GB, GL, Nat.reduceAdd, Nat.reduceSub, Nat.reduceEqDiff, Nat.reduceMul, Nat.reduceLeDiff, Int.reduceBNe, Int.reduceBEq, Nat.reduceLT, reduceCtorEq, c46, e89]
  refine wp_in (s90 h1 lk1 (List.mem_cons_of_mem _ (List.mem_append_right _ (List.mem_append_right _ hr))) (by omega) hall fun s1 t lk mk m hm h2 => ?_)
  generalize hL : reachW hp roots = L at *
  generalize hhb : s.next = hb at h2 ⊢
  have h3 := ((((h2.alloc (.map [] 0)).alloc (.map [] 0)).alloc (.cells [ptrN t, .map (some (.new s1.next)), .map (some (.new (s1.next + 1)))] none)).alloc (.cells [.ptr none] none)).set0 (.cells [ptrN (s1.next + 2)] none)
  have fhb := h2.mem (List.mem_append_right _ (List.mem_cons_self ..))
  simp -implicitDefEqProofs only [↓GP, GB, GL, Nat.reduceAdd, Nat.reduceSub, Nat.reduceEqDiff, Nat.reduceMul, Nat.reduceLeDiff, Int.reduceBNe, Int.reduceBEq, Nat.reduceLT, reduceCtorEq, fhb]
  simp only [alloc_next, Nat.add_assoc, Nat.reduceAdd] at h3
  generalize ((((s1.alloc (.map [] 0)).alloc (.map [] 0)).alloc (.cells [ptrN t, .map (some (.new s1.next)), .map (some (.new (s1.next + 1)))] none)).alloc (.cells [.ptr none] none)).set (s1.next + 3) (.cells [ptrN (s1.next + 2)] none) = S2 at h3 ⊢
  generalize s1.next + 3 = cb at h3 ⊢
  generalize s1.next + 2 = c at h3 ⊢
  generalize s1.next + 1 = fk at h3 ⊢
  generalize s1.next = tk at h3 ⊢
  have h4 : Holds o S2 ((0, rowO 2 ([] : List (Int × Int)).length (([] : List (Int × Int)).flatMap encW)) :: (poolC p r u ++ (hp.ch p ++ (colC c t tk fk (.map [] 0) (.map [] 0) ++ (huntC t lk mk (ptrN hp.id) L m ++ ((hb, some (.cells [ptrN hp.id] none)) :: (cb, some (.cells [ptrN c] none)) :: F)))))) :=
    (Holds.of (h3.nilEntry 0) (fun k => by simp +arith only [colC, List.length_nil, List.flatMap_nil, rowO_z, HA, HB]) (fun k x => by simp only [colC, List.length_nil, List.flatMap_nil, rowO_z, HA, HC]; grind only))
  have e27 := s27 h4 (hp := hp) (p := p) ⟨fun y hy => List.mem_cons_of_mem _ (List.mem_append_right _ (List.mem_append_left _ hy))⟩
  simp -implicitDefEqProofs only [↓GP, GB, GL, Nat.reduceAdd, Nat.reduceSub, Nat.reduceEqDiff, Nat.reduceMul, Nat.reduceLeDiff, Int.reduceBNe, Int.reduceBEq, Nat.reduceLT, reduceCtorEq, e27]
  have hcl := col_loop (K := blockK 0 (seqK (loop PF) (call PF) j46_bbbbb (finR [(4, none), (5, none)]))) (Q := Q) (v1 := rowV kr roots.length) (v4 := .slice none 0 (some 0)) (v5 := I 0) (List.mem_cons_self ..) (List.mem_cons_of_mem _ (List.mem_cons_self ..)) hm hp.regs [] hp ⟨[], u, fun _ => none, [], []⟩ 0 (.map [] 0) (.map [] 0) S2 rfl rfl rfl rfl hR hok (by simp) mapIs_nil seenF_nil h4
  simp only [List.length_nil, Int.natCast_zero] at hcl
  refine hcl fun s3 hp1 ko mt mf e1 e2 e3 e4 hR1 hok1 hob hmt hmf h5 => ?_
  clear hcl
  rw [show (hp.regs.map PReg.m).foldl (colStep L) ⟨[], u, fun _ => none, [], []⟩ = colAll L u (hp.regs.map PReg.m) from rfl] at e4 hR1 hob hmt hmf h5 ⊢
  generalize hS : colAll L u (hp.regs.map PReg.m) = S at *
  have inC : ∀ y ∈ colC c t tk fk mt mf, y ∈ poolC p r S.u ++ (hp1.ch p ++ (colC c t tk fk mt mf ++ (huntC t lk mk (ptrN hp.id) L m ++ ((hb, some (O.cells [ptrN hp.id] none)) :: (cb, some (O.cells [ptrN c] none)) :: F)))) := fun y hy => List.mem_append_right _ (List.mem_append_right _ (List.mem_append_left _ hy))
  have inT : ∀ y ∈ huntC t lk mk (ptrN hp.id) L m, y ∈ poolC p r S.u ++ (hp1.ch p ++ (colC c t tk fk mt mf ++ (huntC t lk mk (ptrN hp.id) L m ++ ((hb, some (O.cells [ptrN hp.id] none)) :: (cb, some (O.cells [ptrN c] none)) :: F)))) := fun y hy => List.mem_append_right _ (List.mem_append_right _ (List.mem_append_right _ (List.mem_append_left _ hy)))
  have inF : ∀ y ∈ (hb, some (O.cells [ptrN hp.id] none)) :: (cb, some (O.cells [ptrN c] none)) :: F, y ∈ poolC p r S.u ++ (hp1.ch p ++ (colC c t tk fk mt mf ++ (huntC t lk mk (ptrN hp.id) L m ++ ((hb, some (O.cells [ptrN hp.id] none)) :: (cb, some (O.cells [ptrN c] none)) :: F)))) := fun y hy => List.mem_append_right _ (List.mem_append_right _ (List.mem_append_right _ (List.mem_append_right _ hy)))
  have fcb := h5.mem (List.mem_cons_of_mem _ (inF _ (List.mem_cons_of_mem _ (List.mem_cons_self ..))))
  have fc := h5.mem (List.mem_cons_of_mem _ (inC (c, some (.cells [ptrN t, .map (some (.new tk)), .map (some (.new fk))] none)) (List.mem_cons_self ..)))
  have ft := h5.mem (List.mem_cons_of_mem _ (inT (t, some (.cells [ptrN hp.id, rowV lk L.length, .map (some (.new mk))] none)) (List.mem_cons_self ..)))
  simp -implicitDefEqProofs only [↓GP, GB, GL, Nat.reduceAdd, Nat.reduceSub, Nat.reduceEqDiff, Nat.reduceMul, Nat.reduceLeDiff, Int.reduceBNe, Int.reduceBEq, Nat.reduceLT, reduceCtorEq, j46_bbbbb, fcb, fc, ft]
  have hol := obj_loop (K := blockK 4 (seqK (loop PF) (call PF) j46_bbbbbb (finR [(4, none), (5, none)]))) (Q := Q) (v1 := rowV kr roots.length) (v2 := ptrN hb) (v4 := .slice none 0 (some 0)) (v5 := I 0) inC (inF _ (List.mem_cons_of_mem _ (List.mem_cons_self ..))) (inT _ (List.mem_cons_of_mem _ (List.mem_cons_self ..))) hmt hmf (by omega) L.length 0 ko S.objs s3 (by omega) (by have := lk1.len; omega) h5
  simp only [List.drop_zero, Int.natCast_zero] at hol
  refine hol fun s4 ko' h6 => ?_
  clear hol
  rw [show S.objs ++ (L.filter fun w => !decide (w ∈ S.fx)).map (toD S.mv) = colObjs L S from rfl] at h6 ⊢
  have hOl : (colObjs L S).length ≤ 200000 := by
    unfold colObjs
    have := List.length_filter_le (fun w => !decide (w ∈ S.fx)) L
    have := lk1.len
    simp; omega
  simp -implicitDefEqProofs only [↓GP, GB, GL, Nat.reduceAdd, Nat.reduceSub, Nat.reduceEqDiff, Nat.reduceMul, Nat.reduceLeDiff, Int.reduceBNe, Int.reduceBEq, Nat.reduceLT, reduceCtorEq, j46_bbbbbb]
  have h7 : Holds o s4 (hp1.ch p ++ ((ko', rowO 2 (colObjs L S).length ((colObjs L S).flatMap encW)) :: (poolC p r S.u ++ (colC c t tk fk mt mf ++ (huntC t lk mk (ptrN hp.id) L m ++ ((hb, some (.cells [ptrN hp.id] none)) :: (cb, some (.cells [ptrN c] none)) :: F)))))) := (Holds.of (h6) (fun k => by simp +arith only [HA, HB]) (fun k x => by simp only [HA, HC]; grind only))
  have inC2 : ∀ y ∈ colC c t tk fk mt mf, y ∈ (ko', rowO 2 (colObjs L S).length ((colObjs L S).flatMap encW)) :: (poolC p r S.u ++ (colC c t tk fk mt mf ++ (huntC t lk mk (ptrN hp.id) L m ++ ((hb, some (O.cells [ptrN hp.id] none)) :: (cb, some (O.cells [ptrN c] none)) :: F)))) := fun y hy => List.mem_cons_of_mem _ (List.mem_append_right _ (List.mem_append_left _ hy))
  have inF2 : ∀ y ∈ (hb, some (O.cells [ptrN hp.id] none)) :: (cb, some (O.cells [ptrN c] none)) :: F, y ∈ (ko', rowO 2 (colObjs L S).length ((colObjs L S).flatMap encW)) :: (poolC p r S.u ++ (colC c t tk fk mt mf ++ (huntC t lk mk (ptrN hp.id) L m ++ ((hb, some (O.cells [ptrN hp.id] none)) :: (cb, some (O.cells [ptrN c] none)) :: F)))) := fun y hy => List.mem_cons_of_mem _ (List.mem_append_right _ (List.mem_append_right _ (List.mem_append_right _ hy)))
  have hwl := cwords_loop (K := blockK 6 (seqK (loop PF) (call PF) j46_bbbbbbb (finR [(4, none), (5, none)]))) (Q := Q) (u := S.u) (id := hp.id) (lv := hp.lives) (v1 := rowV kr roots.length) (v4 := .slice none 0 (some 0)) (v5 := I 0) inC2 (inF2 _ (List.mem_cons_self ..)) (inF2 _ (List.mem_cons_of_mem _ (List.mem_cons_self ..))) (List.mem_cons_self ..) hmt hmf (by omega) (colObjs L S).length 0 hp1 s4 (by omega) e1 e2 hR1 hok1
    (fun w hw => by rw [e4]; exact (hpts w hw).find) h7
  simp only [List.drop_zero, Int.natCast_zero] at hwl
  refine hwl fun s5 hp2 d1 d2 d3 d4 hR2 hok2 h8 => ?_
  clear hwl
  rw [e4] at d4
  simp -implicitDefEqProofs only [↓GP, GB, GL, Nat.reduceAdd, Nat.reduceSub, Nat.reduceEqDiff, Nat.reduceMul, Nat.reduceLeDiff, Int.reduceBNe, Int.reduceBEq, Nat.reduceLT, reduceCtorEq, j46_bbbbbbb]
  have hot := out_loop (K := blockK 10 (seqK (loop PF) (call PF) j46_bbbbbbbbb (finR [(4, none), (5, none)]))) (Q := Q) (kr := kr) (roots := roots) (c := c) (t := t) (tk := tk) (fk := fk) (cb := cb) (fun y hy => List.mem_append_right (hp2.ch p) (inC2 y hy)) (List.mem_append_right _ (inF2 _ (List.mem_cons_of_mem _ (List.mem_cons_self ..)))) (List.mem_append_right _ (inF2 _ (List.mem_cons_of_mem _ (List.mem_cons_of_mem _ hr)))) hmt hmf (by omega) roots.length 0 0 [] s5 (by omega) (by simp) (h8.nilEntry 0)
  simp only [List.drop_zero, List.nil_append, List.length_nil, Int.natCast_zero, List.length_map] at hot
  refine hot fun s6 kout h9 => ?_
  simp -implicitDefEqProofs only [↓GP, GB, GL, Nat.reduceAdd, Nat.reduceSub, Nat.reduceEqDiff, Nat.reduceMul, Nat.reduceLeDiff, Int.reduceBNe, Int.reduceBEq, Nat.reduceLT, reduceCtorEq, j46_bbbbbbbbb]
  exact q s6 hp2 kout d1 d2 (d3.trans e3) d4 hR2 hok2 (Holds.of (h9) (fun k => by simp +arith only [HA, HB]) (fun k x => by simp only [HA, HC]; grind only))
end
end Go.Proofs.Ytoldkemimhebaaa

set_option linter.unusedSimpArgs false
set_option linter.unusedVariables false
namespace Go.Proofs.Ytoldkemimhebaaa
open Go Go.IM
def l98_0 : IC := (.seq (.seq (.seq (.region [oa 16 (.mov (.t 9)), oa 17 (.mov (.t 1)), oa 18 (.lenSlice (.t 17)), oa 19 (.bin .lss (.t 16) (.t 18))] (kp 55 [0,1,2,7,8,9,19]))
  (.cond (.t 19)
  (sk 55 [0,1,2,7,8,9])
  (sx 55 [0,7,8] 0)))
  (.seq (.block 1
  (.seq (.region [oa 22 (.mov (.t 1)), oa 23 (.mov (.t 9)), oa 24 (.indexAddr 2 (.t 22) (.t 23)), oa 25 (.load (some 2) (.t 24)), oa 26 (.load (some 2) (.t 7)), oa 27 (.eql false (.key (.agg [.i, .i])) (.t 25) (.t 26))] (kp 55 [0,1,2,7,8,9,27]))
  (.cond (.t 27)
  (.seq (.region [oa 28 (.mov (.t 2)), oa 29 (.mov (.t 9)), oa 30 (.indexAddr 2 (.t 28) (.t 29)), oa 31 (.load (some 2) (.t 30)), ob (.store 2 (.t 8) (.t 31))] (kp 55 [8]))
  (sr 55 [8]))
  (sk 55 [0,1,2,7,8,9]))))
  (.region [oa 20 (.mov (.t 9)), oa 21 (.bin .add (.t 20) (ai 1)), oa 9 (.mov (.t 21))] (kp 55 [0,1,2,7,8,9]))))
  (sk 55 [0,1,2,7,8,9]))
def j98_bbb : IC := (.seq (.region [oa 33 (.mov (.t 0)), oa 34 (.load (some 2) (.t 7)), oa 35 (.call 103 [(.t 33), (.t 34)]), oa 32 (.mov (.t 35)), oa 36 (.extract (.t 32) 0), oa 37 (.extract (.t 32) 1), oa 10 (.mov (.t 36)), oa 11 (.mov (.t 37))] (kp 55 [0,7,8,10]))
  (.seq (.seq (.region [oa 38 (.mov (.t 10)), oa 39 (.bin .geq (.t 38) (ai 0)), oa 40 (.mov (.t 39)), oc 41 (.mov (.t 0)) 40 tt, oc 42 (.nilCheck (.t 41)) 40 tt, oc 43 (.fieldAddr 1 (.t 42)) 40 tt, oc 44 (.load none (.t 43)) 40 tt, oc 45 (.mov (.t 10)) 40 tt, oc 46 (.indexAddr 5 (.t 44) (.t 45)) 40 tt, oc 47 (.fieldAddr 0 (.t 46)) 40 tt, oc 48 (.load none (.t 47)) 40 tt, oc 49 (.bin .gtr (.t 48) (ai 0)) 40 tt, oa 50 (.pick (.t 40) (.t 49) (.c (.bool false)))] (kp 55 [7,8,50]))
  (.cond (.t 50)
  (.seq (.region [oa 51 (.load (some 2) (.t 7)), ob (.store 2 (.t 8) (.t 51))] (kp 55 [8]))
  (sr 55 [8]))
  (sk 55 [7,8])))
  (.seq (.region [oa 52 (.fieldAddr 1 (.t 7)), oa 53 (.load none (.t 52)), oa 54 (.build [(.int .i64 (0)), (.int .i64 (0))] [(0, 1, (ai (-1))), (1, 1, (.t 53))]), ob (.store 2 (.t 8) (.t 54))] (kp 55 [8]))
  (sr 55 [8]))))
def c98 : IFn := ⟨55, [(8, (some (some 2)))],
  (.seq (.region [oa 7 (.box (.t 3)), oa 8 (.alloc [(.int .i64 (0)), (.int .i64 (0))])] (kp 55 [0,1,2,7,8]))
  (.seq (.seq (.region [oa 12 (.fieldAddr 1 (.t 7)), oa 13 (.load none (.t 12)), oa 14 (.bin .eql (.t 13) (ai 0))] (kp 55 [0,1,2,7,8,14]))
  (.cond (.t 14)
  (.seq (.region [oa 15 (.load (some 2) (.t 7)), ob (.store 2 (.t 8) (.t 15))] (kp 55 [8]))
  (sr 55 [8]))
  (sk 55 [0,1,2,7,8])))
  (.seq (.seq (.region [oa 9 (.mov (ai 0))] (kp 55 [0,1,2,7,8,9]))
  (.block 0
  (.seq (sk 55 [0,1,2,7,8,9])
  (.loop l98_0))))
  j98_bbb)))⟩
theorem F98 : shutF Try.prog 98 = some c98 := by kernel_rfl
section
variable {o : Nat → Option O} {s : St} {C F : Ch} {Q : V → St → Prop} {p q : Nat}
set_option maxRecDepth 10000
set_option maxHeartbeats 4000000
def lookW : List (Int × Int) → List (Int × Int) → Int × Int → Option (Int × Int)
  | a :: l, b :: m, w => if a = w then some b else lookW l m w
  | _, _, _ => none
def finR (hc : RHeap) (w : Int × Int) : Bool := match rfind w.1 w.2 hc.regs 0 with
  | some (a, _) => match hc.regs[a]? with
    | some g => decide (0 < g.size)
    | none => false
  | none => false
def movedR (hc : RHeap) (fr tt : List (Int × Int)) (w : Int × Int) : Int × Int :=
  if w.2 = 0 then w else match lookW fr tt w with
  | some n => n
  | none => if finR hc w then w else (-1, w.2)
theorem moved_loop {kf kt wb rb : Nat} {v0 : V} {fr tt : List (Int × Int)} {w : Int × Int} {K : Kt} (mf : (kf, rowO 2 fr.length (fr.flatMap encW)) ∈ C) (mt : (kt, rowO 2 fr.length (tt.flatMap encW)) ∈ C) (hl : fr.length ≤ 1000000) (htl : tt.length = fr.length)
    (mw : (wb, some (.cells (encW w) none)) ∈ C) (hC : Holds o s ((rb, some (.cells [I 0, I 0] none)) :: C))
    (q1 : ∀ n s', Holds o s' ((rb, some (.cells (encW n) none)) :: C) → lookW fr tt w = some n → WP (K .ret (sp 55 [(8, ptrN rb)]) s') Q) (q2 : lookW fr tt w = none → WP (K (.exit 0) (sp 55 [(0, v0), (7, ptrN wb), (8, ptrN rb)]) s) Q) :
    ∀ (n i : Nat), i + n = fr.length → lookW (fr.drop i) (tt.drop i) w = lookW fr tt w →
    WP (loop PF (.loop l98_0) (sp 55 [(0, v0), (1, rowV kf fr.length), (2, rowV kt fr.length), (7, ptrN wb), (8, ptrN rb), (9, I i)]) s K) Q
  | 0, i, hi, he => by
    have hlt : ¬ ((i : Int) < (fr.length : Int)) := by omega
    rw [List.drop_eq_nil_of_le (by omega)] at he
    simp only [lookW] at he
    refine wp_round fun LL hLL => ?_
    simp -implicitDefEqProofs only [↓GP, GB, GL, Nat.reduceAdd, Nat.reduceSub, Nat.reduceEqDiff, Nat.reduceMul, Nat.reduceLeDiff, Int.reduceBNe, Int.reduceBEq, Nat.reduceLT, reduceCtorEq, l98_0, hlt]
    exact q2 he.symm
  | n + 1, i, hi, he => by
    have hlt : ((i : Int) < (fr.length : Int)) := by omega
    have hi' : i < fr.length := by omega
    have hi2 : i < tt.length := by omega
    have hw1 := wrap_add1 (a := i) (by omega)
    have hix := ix_row (sz := 2) (k := kf) (n := fr.length) (i := i) (kk := .i64) hi'
    have hix2 := ix_row (sz := 2) (k := kt) (n := fr.length) (i := i) (kk := .i64) hi'
    have er : rowO 2 fr.length (fr.flatMap encW) = some (.cells (fr.flatMap encW) (some 2)) := by unfold rowO; rw [if_neg (by omega)]
    have er2 : rowO 2 fr.length (tt.flatMap encW) = some (.cells (tt.flatMap encW) (some 2)) := by unfold rowO; rw [if_neg (by omega)]
    have ff := hC.mem (List.mem_cons_of_mem _ (er ▸ mf))
    have ft := hC.mem (List.mem_cons_of_mem _ (er2 ▸ mt))
    have fw := hC.mem (List.mem_cons_of_mem _ mw)
    have fb := hC.f1
    have hld := ldN_tab (enc := encW) encW_len fr (some 2) (List.getElem?_eq_getElem hi')
    have hld2 := ldN_tab (enc := encW) encW_len tt (some 2) (List.getElem?_eq_getElem hi2)
    rw [List.drop_eq_getElem_cons hi', List.drop_eq_getElem_cons hi2] at he
    rw [lookW] at he
    generalize fr[i] = a at he hld
    generalize tt[i] = b at he hld2
    have hq := word_eq a w
    by_cases e : a = w
    · rw [decide_eq_true e] at hq
      rw [if_pos e] at he
      refine wp_round fun LL hLL => ?_
      simp -implicitDefEqProofs only [↓GP, GB, GL, Nat.reduceAdd, Nat.reduceSub, Nat.reduceEqDiff, Nat.reduceMul, Nat.reduceLeDiff, Int.reduceBNe, Int.reduceBEq, Nat.reduceLT, reduceCtorEq, l98_0, hlt, hix, ff, fw, hld, encW, hq, hix2, ft, hld2, fb]
      exact q1 b _ (hC.set0 _) he.symm
    · rw [decide_eq_false e] at hq
      rw [if_neg e] at he
      refine wp_round fun LL hLL => ?_
      simp -implicitDefEqProofs only [↓GP, GB, GL, Nat.reduceAdd, Nat.reduceSub, Nat.reduceEqDiff, Nat.reduceMul, Nat.reduceLeDiff, Int.reduceBNe, Int.reduceBEq, Nat.reduceLT, reduceCtorEq, l98_0, hlt, hix, ff, fw, hld, encW, hq, hw1]
      rw [hLL]
      exact moved_loop mf mt hl htl mw hC q1 q2 n (i + 1) (by omega) he
theorem s98 {hc : RHeap} {kf kt : Nat} {fr tt : List (Int × Int)} {w : Int × Int} (H : Holds o s C) (h : RLook C p hc) (mf : (kf, rowO 2 fr.length (fr.flatMap encW)) ∈ C) (mt : (kt, rowO 2 fr.length (tt.flatMap encW)) ∈ C) (hl : fr.length ≤ 1000000) (htl : tt.length = fr.length)
    (q : ∀ s', Holds o s' C → Q (.agg (encW (movedR hc fr tt w))) s') : WP (call PF 98 [ptrN hc.id, rowV kf fr.length, rowV kt fr.length, .agg (encW w)] s) Q := by
  have h1 := (H.alloc (.cells (encW w) none)).alloc (.cells [I 0, I 0] none)
  have f := h1.f2
  simp only [encW, alloc_next] at f
  simp only [alloc_next] at h1
  by_cases h0 : w.2 = 0
  · have hb : (w.2 == 0) = true := by simpa using h0
    rw [call_run F98]; simp -implicitDefEqProofs only [↓GP, GB, GL, Nat.reduceAdd, Nat.reduceSub, Nat.reduceEqDiff, Nat.reduceMul, Nat.reduceLeDiff, Int.reduceBNe, Int.reduceBEq, Nat.reduceLT, reduceCtorEq, c98, encW, f, hb]
    have := q _ ((h1.set0 (.cells (encW w) none)).tl.tl)
    unfold movedR at this
    rw [if_pos h0] at this
    exact this
  · have hb : (w.2 == 0) = false := by simpa using h0
    rw [call_run F98]; simp -implicitDefEqProofs only [↓GP, GB, GL, Nat.reduceAdd, Nat.reduceSub, Nat.reduceEqDiff, Nat.reduceMul, Nat.reduceLeDiff, Int.reduceBNe, Int.reduceBEq, Nat.reduceLT, reduceCtorEq, c98, encW, f, hb]
    rw [I0]
    refine moved_loop (fr := fr) (tt := tt) (w := w) (List.mem_cons_of_mem _ mf) (List.mem_cons_of_mem _ mt) hl htl (List.mem_cons_self ..) h1 (fun n s' h2 e => ?_) (fun e => ?_) fr.length 0 (by omega) rfl
    · have f2 := h2.f1
      simp only [encW] at f2
      simp -implicitDefEqProofs only [↓GP, GB, GL, Nat.reduceAdd, Nat.reduceSub, Nat.reduceEqDiff, Nat.reduceMul, Nat.reduceLeDiff, Int.reduceBNe, Int.reduceBEq, Nat.reduceLT, reduceCtorEq, f2]
      have := q _ h2.tl.tl
      unfold movedR at this
      rw [if_neg h0, e] at this
      exact this
    · have h2 := (h.cons (s.next, some (.cells (encW w) none))).cons (s.next + 1, some (.cells [I 0, I 0] none))
      simp -implicitDefEqProofs only [↓GP, GB, GL, Nat.reduceAdd, Nat.reduceSub, Nat.reduceEqDiff, Nat.reduceMul, Nat.reduceLeDiff, Int.reduceBNe, Int.reduceBEq, Nat.reduceLT, reduceCtorEq, j98_bbb, f, encW]
      refine wp_in (s103 h1 h2.rin h2.len h2.objs fun s1 g1 => ?_)
      have g := g1.f2
      simp only [encW, alloc_next] at g
      have e2 : movedR hc fr tt w = if finR hc w then w else (-1, w.2) := by unfold movedR; rw [if_neg h0, e]
      rw [e2] at q
      unfold finR at q
      cases hf : rfind w.1 w.2 hc.regs 0 with
      | none =>
        rw [hf] at q
        simp only [Bool.false_eq_true, if_false] at q
        simp -implicitDefEqProofs only [↓GP, GB, GL, Nat.reduceAdd, Nat.reduceSub, Nat.reduceEqDiff, Nat.reduceMul, Nat.reduceLeDiff, Int.reduceBNe, Int.reduceBEq, Nat.reduceLT, reduceCtorEq, g, Int.reduceNeg, Int.reduceLE, ge_iff_le]
        exact q _ (g1.set0 _).tl.tl
      | some ab =>
        obtain ⟨a, b⟩ := ab
        rw [hf] at q
        have hal : a < hc.regs.length := by
          obtain ⟨g, x, _, k2, _⟩ := rfind_some hf
          rw [Nat.sub_zero] at k2
          exact (List.getElem?_eq_some_iff.1 k2).1
        have hg := List.getElem?_eq_getElem hal
        simp only [hg] at q
        have ha : ((a : Int) ≥ 0) := by omega
        have fh := g1.mem h2.rin.id
        have fr' := g1.mem h2.rin.row
        simp only [RHeap.hd] at fh
        by_cases hs : 0 < hc.regs[a].size
        · rw [decide_eq_true hs] at q
          simp only [if_true] at q
          have hs' : ((hc.regs[a].size : Int) > 0) := by omega
          simp -implicitDefEqProofs only [↓GP, GB, GL, Nat.reduceAdd, Nat.reduceSub, Nat.reduceEqDiff, Nat.reduceMul, Nat.reduceLeDiff, Int.reduceBNe, Int.reduceBEq, Nat.reduceLT, reduceCtorEq, g, ha, fh, fr', rreg hg, hs']
          exact q _ (g1.set0 _).tl.tl
        · rw [decide_eq_false hs] at q
          simp only [Bool.false_eq_true, if_false] at q
          have hs' : ¬ ((hc.regs[a].size : Int) > 0) := by omega
          simp -implicitDefEqProofs only [↓GP, GB, GL, Nat.reduceAdd, Nat.reduceSub, Nat.reduceEqDiff, Nat.reduceMul, Nat.reduceLeDiff, Int.reduceBNe, Int.reduceBEq, Nat.reduceLT, reduceCtorEq, g, ha, fh, fr', rreg hg, hs']
          exact q _ (g1.set0 _).tl.tl
end
end Go.Proofs.Ytoldkemimhebaaa

set_option linter.unusedSimpArgs false
set_option linter.unusedVariables false
namespace Go.Proofs.Ytoldkemimhebaaa
open Go Go.IM
theorem lookW_mem : ∀ {fr tt : List (Int × Int)} {w n : Int × Int}, lookW fr tt w = some n → w ∈ fr ∧ n ∈ tt
  | [], _, _, _, h => by simp [lookW] at h
  | _ :: _, [], _, _, h => by simp [lookW] at h
  | a :: fr, b :: tt, w, n, h => by
    rw [lookW] at h
    split at h
    · rename_i e; cases h; subst e; exact ⟨List.mem_cons_self .., List.mem_cons_self ..⟩
    · obtain ⟨h1, h2⟩ := lookW_mem h
      exact ⟨List.mem_cons_of_mem _ h1, List.mem_cons_of_mem _ h2⟩
theorem lookW_none {w : Int × Int} : ∀ {fr tt : List (Int × Int)}, w ∉ fr → lookW fr tt w = none
  | [], _, _ => by simp [lookW]
  | _ :: _, [], _ => by simp [lookW]
  | a :: fr, b :: tt, h => by
    have e : ¬ a = w := fun e => h (by rw [e]; exact List.mem_cons_self ..)
    rw [lookW, if_neg e]
    exact lookW_none fun m => h (List.mem_cons_of_mem _ m)
theorem lookW_append (w : Int × Int) (b d : List (Int × Int)) : ∀ {a c : List (Int × Int)}, c.length = a.length → lookW (a ++ b) (c ++ d) w = (lookW a c w).or (lookW b d w)
  | [], [], _ => by simp [lookW]
  | [], _ :: _, h => by simp at h
  | _ :: _, [], h => by simp at h
  | x :: a, y :: c, h => by
    rw [List.cons_append, List.cons_append, lookW, lookW]
    split
    · rfl
    · exact lookW_append w b d (by simpa using h)
theorem look_upd (w : Int × Int) : ∀ {ks ns : List (Int × Int)} (f : ToF), ks.Nodup → ns.length = ks.length → ((ks.zip ns).foldl updF f) w = (lookW ks ns w).or (f w)
  | [], _, f, _, _ => by simp [lookW]
  | _ :: _, [], _, _, h => by simp at h
  | k :: ks, n :: ns, f, hn, hl => by
    rw [List.nodup_cons] at hn
    rw [List.zip_cons_cons, List.foldl_cons, look_upd w _ hn.2 (by simpa using hl), lookW]
    by_cases e : k = w
    · subst e
      rw [lookW_none hn.1, if_pos rfl, Option.none_or]
      unfold updF; rw [if_pos rfl]; rfl
    · rw [if_neg e]
      unfold updF; rw [if_neg (fun h => e h.symm)]
theorem look_map : ∀ {ks ns : List (Int × Int)}, ks.Nodup → ns.length = ks.length → ks.map (fun w => (lookW ks ns w).getD (0, 0)) = ns
  | [], [], _, _ => rfl
  | [], _ :: _, _, h => by simp at h
  | _ :: _, [], _, h => by simp at h
  | k :: ks, n :: ns, hn, hl => by
    rw [List.nodup_cons] at hn
    rw [List.map_cons, lookW, if_pos rfl]
    congr 1
    rw [← look_map hn.2 (by simpa using hl : ns.length = ks.length)]
    have := look_map hn.2 (by simpa using hl : ns.length = ks.length)
    refine List.map_congr_left fun w hw => ?_
    have e : ¬ k = w := fun e => hn.1 (by rw [e]; exact hw)
    rw [this, lookW, if_neg e]
def mapReg (f : List (Int × Int) → List (Int × Int)) (g : Reg) : Reg := { g with objs := g.objs.map fun x => { x with ws := f x.ws } }
def setIf (Os : List (Int × Int)) (f : List (Int × Int) → List (Int × Int)) (g : Reg) : Reg := { g with objs := g.objs.map fun x => if ((x.at_ : Int), (g.life : Int)) ∈ Os then { x with ws := f x.ws } else x }
theorem setM_if (w : Int × Int) (f) (rs : List Reg) : setM w f rs = rs.map (setIf [w] f) := by
  unfold setM
  refine List.map_congr_left fun g _ => ?_
  unfold setReg1 setIf
  split
  · rename_i h
    congr 1
    refine List.map_congr_left fun x _ => ?_
    unfold setObj1
    have : (((x.at_ : Int), (g.life : Int)) ∈ [w]) ↔ (x.at_ : Int) = w.1 := by
      rw [List.mem_singleton]; exact ⟨fun e => by rw [← e], fun e => Prod.ext e h⟩
    simp only [this]
    split <;> rfl
  · rename_i h
    have : g.objs.map (fun x => if ((x.at_ : Int), (g.life : Int)) ∈ [w] then { x with ws := f x.ws } else x) = g.objs.map id := by
      refine List.map_congr_left fun x _ => ?_
      rw [if_neg (fun m => h (by rw [List.mem_singleton] at m; rw [← m]))]; rfl
    rw [this, List.map_id]
theorem setIf_setIf {w : Int × Int} {Os : List (Int × Int)} (h : w ∉ Os) (f) (g : Reg) : setIf Os f (setIf [w] f g) = setIf (w :: Os) f g := by
  unfold setIf
  simp only [List.map_map]
  congr 1
  refine List.map_congr_left fun x _ => ?_
  simp only [Function.comp]
  by_cases e : ((x.at_ : Int), (g.life : Int)) = w
  · have h1 : ((x.at_ : Int), (g.life : Int)) ∉ Os := e ▸ h
    rw [if_pos (List.mem_singleton.2 e), if_neg h1, if_pos (e ▸ List.mem_cons_self ..)]
  · rw [if_neg (fun m => e (List.mem_singleton.1 m))]
    simp only [List.mem_cons, e, false_or]
theorem fold_set (f) : ∀ {Os : List (Int × Int)} {rs : List Reg}, Os.Nodup → Os.foldl (fun rs w => setM w f rs) rs = rs.map (setIf Os f)
  | [], rs, _ => by
    have : rs.map (setIf [] f) = rs.map id := List.map_congr_left fun g _ => by
      unfold setIf
      have : g.objs.map (fun x => if ((x.at_ : Int), (g.life : Int)) ∈ ([] : List (Int × Int)) then { x with ws := f x.ws } else x) = g.objs.map id := List.map_congr_left fun x _ => by simp
      rw [this, List.map_id]; rfl
    rw [List.foldl_nil, this, List.map_id]
  | w :: Os, rs, h => by
    rw [List.nodup_cons] at h
    rw [List.foldl_cons, setM_if, fold_set f h.2, List.map_map]
    exact List.map_congr_left fun g _ => setIf_setIf h.1 f g
def wordsAll (rs : List Reg) : List (Int × Int) := rs.flatMap wordsR
theorem wordsR_life {g : Reg} {w : Int × Int} (h : w ∈ wordsR g) : w.2 = g.life := by
  obtain ⟨x, _, rfl⟩ := List.mem_map.1 h; rfl
theorem wordsR_nodup {g : Reg} (h : RInv g) : (wordsR g).Nodup := by
  have := h.nodup
  unfold wordsR
  rw [show (fun x : Obj => ((x.at_ : Int), (g.life : Int))) = (fun n : Nat => ((n : Int), (g.life : Int))) ∘ (fun x : Obj => x.at_) from rfl, ← List.map_map]
  exact List.Pairwise.map _ (fun a b (h : a ≠ b) e => h (by have := congrArg Prod.fst e; simp only at this; omega)) this
theorem wordsAll_nodup : ∀ {rs : List Reg}, (rs.map (·.life)).Nodup → (∀ r ∈ rs, RInv r) → (wordsAll rs).Nodup
  | [], _, _ => List.nodup_nil
  | g :: rs, h, hi => by
    rw [List.map_cons, List.nodup_cons] at h
    unfold wordsAll
    rw [List.flatMap_cons, List.nodup_append]
    refine ⟨wordsR_nodup (hi g (List.mem_cons_self ..)), wordsAll_nodup h.2 fun r hr => hi r (List.mem_cons_of_mem _ hr), fun a ha b hb e => ?_⟩
    subst e
    obtain ⟨r, hr, hb⟩ := List.mem_flatMap.1 hb
    exact h.1 (List.mem_map.2 ⟨r, hr, by have := wordsR_life ha; have := wordsR_life hb; omega⟩)
def keptAll (L : List (Int × Int)) (rs : List Reg) : List (Int × Int) := rs.flatMap fun g => if 0 < g.pages.length then (wordsR g).filter (decide <| · ∈ L) else []
theorem kept_words (L : List (Int × Int)) (g : Reg) : (keptM L g).map (fun x => ((x.at_ : Int), (g.life : Int))) = (wordsR g).filter (decide <| · ∈ L) := by
  unfold keptM wordsR
  rw [List.filter_map]; rfl
structure ColInv2 (L : List (Int × Int)) (A B : List Reg) (S : ColS) : Prop where
  fx : ∀ w, w ∈ S.fx ↔ ∃ g ∈ A, ¬ 0 < g.pages.length ∧ w ∈ wordsR g
  mv : ∀ w n, S.mv w = some n → w ∈ keptAll L A ∧ n.2 = w.2
  perm : (wordsAll S.regs).Perm (S.objs ++ (keptAll L A).map (toD S.mv))
theorem ColInv2.ext {L : List (Int × Int)} {A B : List Reg} {S : ColS} {g g' : Reg} {u' : List Bool} {ks ns : List (Int × Int)} (h : ColInv2 L A (g :: B) S) (hp : 0 < g.pages.length) (hlife : ∀ w ∈ keptAll L A, w ∉ wordsR g) (hka : keptAll L (A ++ [g]) = keptAll L A ++ ks) (hkn : ks.Nodup) (hkl : ns.length = ks.length)
    (hkg : ∀ w ∈ ks, w ∈ wordsR g) (hns : ∀ n ∈ ns, n.2 = g.life) (hw : wordsR g' = ns) : ColInv2 L (A ++ [g]) B ⟨S.regs ++ [g'], u', (ks.zip ns).foldl updF S.mv, S.fx, S.objs⟩ := by
  have hup := fun w => look_upd w S.mv hkn hkl
  refine ⟨fun w => ?_, fun w n e => ?_, ?_⟩
  · simp only [h.fx w, List.mem_append, List.mem_singleton]
    constructor
    · rintro ⟨g0, m0, q⟩; exact ⟨g0, .inl m0, q⟩
    · rintro ⟨g0, m0 | rfl, q1, q2⟩
      · exact ⟨g0, m0, q1, q2⟩
      · exact absurd hp q1
  · simp only at e
    rw [hup] at e
    cases hl : lookW ks ns w with
    | some m =>
      rw [hl, Option.some_or] at e
      cases e
      obtain ⟨h1, h2⟩ := lookW_mem hl
      rw [hka]
      exact ⟨List.mem_append_right _ h1, by rw [hns _ h2, wordsR_life (hkg _ h1)]⟩
    | none =>
      rw [hl, Option.none_or] at e
      obtain ⟨h1, h2⟩ := h.mv w n e
      rw [hka]
      exact ⟨List.mem_append_left _ h1, h2⟩
  · have hpm := h.perm
    unfold wordsAll at *
    simp only
    rw [List.flatMap_append, List.flatMap_cons, List.flatMap_nil, List.append_nil, hw, hka, List.map_append, ← List.append_assoc]
    have e1 : (keptAll L A).map (toD ((ks.zip ns).foldl updF S.mv)) = (keptAll L A).map (toD S.mv) := List.map_congr_left fun w hw => by
      unfold toD
      rw [hup, lookW_none (fun m => hlife w hw (hkg w m)), Option.none_or]
    have e2 : ks.map (toD ((ks.zip ns).foldl updF S.mv)) = ns := by
      refine Eq.trans (List.map_congr_left fun w hw => ?_) (look_map hkn hkl)
      unfold toD
      rw [hup]
      obtain ⟨n, h1, h2⟩ := updF_mem ks ns (fun _ => none) w hkl hw
      rw [look_upd w _ hkn hkl] at h2
      simp only [Option.or_none] at h2
      rw [h2]; rfl
    rw [e1, e2]
    exact hpm.append_right _
theorem ColInv2.step {L : List (Int × Int)} {lv : Nat} {A B : List Reg} {S : ColS} {g : Reg} (hc : ColInv L lv A (g :: B) S) (h : ColInv2 L A (g :: B) S) : ColInv2 L (A ++ [g]) B (colStep L S g) := by
  have hI := hc.ok.inv
  have hri := hI.reg g (by simp)
  have hn := hI.nodup
  rw [List.map_append, List.map_cons, hc.lives, List.nodup_append] at hn
  have hlife : ∀ w ∈ keptAll L A, w ∉ wordsR g := by
    intro w hw hg
    obtain ⟨g0, m0, hw⟩ := List.mem_flatMap.1 hw
    split at hw
    · have h1 := wordsR_life (List.mem_filter.1 hw).1
      have h2 := wordsR_life hg
      exact hn.2.2 _ (List.mem_map.2 ⟨g0, m0, rfl⟩) _ (List.mem_cons_self ..) (by omega)
    · cases hw
  have hka : keptAll L (A ++ [g]) = keptAll L A ++ (if 0 < g.pages.length then (wordsR g).filter (decide <| · ∈ L) else []) := by
    unfold keptAll; rw [List.flatMap_append, List.flatMap_cons, List.flatMap_nil, List.append_nil]
  unfold colStep
  by_cases hp : 0 < g.pages.length
  · rw [if_pos hp] at hka ⊢
    have hs : g.size = 0 := by
      rcases Nat.eq_zero_or_pos g.size with h | h
      · exact h
      · have := (hri.fin h).1; rw [this] at hp; simp at hp
    obtain ⟨ats, u', fill', pages', hlay, hnd, hpl, hal, hul, hR⟩ := hc.ok.turn hs (ys := keptM L g) (List.filter_sublist ..)
    rw [hlay]
    have hkn : ((wordsR g).filter (decide <| · ∈ L)).Nodup := (wordsR_nodup hri).sublist (List.filter_sublist ..)
    have hkl : (ats.map fun a : Nat => ((a : Int), (g.life : Int))).length = ((wordsR g).filter (decide <| · ∈ L)).length := by rw [← kept_words]; simp [hal]
    rw [kept_words]
    refine h.ext hp hlife hka hkn hkl (fun w hw => (List.mem_filter.1 hw).1) (fun n hn => by obtain ⟨a, _, rfl⟩ := List.mem_map.1 hn; rfl) ?_
    have := congrArg (List.map fun z : Nat × Nat => ((z.1 : Int), (g.life : Int))) (layObj_os (keptM L g) ats hal)
    rw [List.map_map] at this
    refine (show _ = _ from this).trans ?_
    have e3 : ∀ Z : List (Nat × Nat), Z.map (fun z : Nat × Nat => ((z.1 : Int), (g.life : Int))) = (Z.map Prod.fst).map (fun a : Nat => ((a : Int), (g.life : Int))) := fun Z => by rw [List.map_map]; rfl
    rw [e3, List.map_fst_zip (by simp [hal])]
  · rw [if_neg hp] at hka ⊢
    rw [List.append_nil] at hka
    refine ⟨fun w => ?_, fun w n e => by rw [hka]; exact h.mv w n e, ?_⟩
    · simp only [List.mem_append, h.fx w, List.mem_singleton]
      constructor
      · rintro (⟨g0, m0, q⟩ | q)
        · exact ⟨g0, .inl m0, q⟩
        · exact ⟨g, .inr rfl, hp, q⟩
      · rintro ⟨g0, m0 | rfl, q1, q2⟩
        · exact .inl ⟨g0, m0, q1, q2⟩
        · exact .inr q2
    · unfold wordsAll at *
      simp only
      rw [List.flatMap_append, List.flatMap_cons, List.flatMap_nil, List.append_nil, hka, List.append_assoc]
      refine (h.perm.append_right _).trans ?_
      rw [List.append_assoc]
      exact List.Perm.append_left _ List.perm_append_comm
theorem ColInv2.all {L : List (Int × Int)} {lv : Nat} : ∀ {B A : List Reg} {S : ColS}, ColInv L lv A B S → ColInv2 L A B S → ColInv2 L (A ++ B) [] (B.foldl (colStep L) S)
  | [], A, S, _, h => by simpa using h
  | g :: B, A, S, h1, h => by
    have := (h.step h1).all (h1.step)
    rw [List.append_assoc] at this
    exact this
theorem ColInv2.start {L : List (Int × Int)} {u : List Bool} {B : List Reg} : ColInv2 L [] B ⟨[], u, fun _ => none, [], []⟩ :=
  ⟨fun w => ⟨fun h => (by cases h), fun ⟨_, h, _⟩ => (by cases h)⟩, (fun w n h => by cases h), List.Perm.refl _⟩
theorem life_inj : ∀ {rs : List Reg}, (rs.map (·.life)).Nodup → ∀ {g g0 : Reg}, g ∈ rs → g0 ∈ rs → g.life = g0.life → g = g0
  | [], _, _, _, h, _, _ => by cases h
  | r :: rs, hn, g, g0, h, h0, e => by
    rw [List.map_cons, List.nodup_cons] at hn
    rcases List.mem_cons.1 h with h1 | h1
    · rcases List.mem_cons.1 h0 with h2 | h2
      · rw [h1, h2]
      · exact (hn.1 (List.mem_map.2 ⟨g0, h2, by rw [← e, h1]⟩)).elim
    · rcases List.mem_cons.1 h0 with h2 | h2
      · exact (hn.1 (List.mem_map.2 ⟨g, h1, by rw [e, h2]⟩)).elim
      · exact life_inj hn.2 h1 h2 e
theorem kept_perm {L : List (Int × Int)} {rs : List Reg} (hn : (rs.map (·.life)).Nodup) (hi : ∀ r ∈ rs, RInv r) (hL : ∀ w ∈ L, Points rs w) (hLn : L.Nodup) {fx : List (Int × Int)} (hfx : ∀ w, w ∈ fx ↔ ∃ g ∈ rs, ¬ 0 < g.pages.length ∧ w ∈ wordsR g) :
    (keptAll L rs).Perm (L.filter fun w => !decide (w ∈ fx)) := by
  have h1 : (keptAll L rs).Nodup := by
    have := wordsAll_nodup hn hi
    refine this.sublist ?_
    unfold keptAll wordsAll
    clear this hfx hL hi hn
    induction rs with
    | nil => exact List.Sublist.refl _
    | cons g rs ih =>
      rw [List.flatMap_cons, List.flatMap_cons]
      refine List.Sublist.append ?_ ih
      split
      · exact List.filter_sublist ..
      · exact List.nil_sublist _
  have same : ∀ {g g0 : Reg} {w : Int × Int}, g ∈ rs → g0 ∈ rs → w ∈ wordsR g → w ∈ wordsR g0 → g.life = g0.life := fun _ _ h1 h2 => by have := wordsR_life h1; have := wordsR_life h2; omega
  have inj : ∀ {g g0 : Reg}, g ∈ rs → g0 ∈ rs → g.life = g0.life → g = g0 := fun hg hg0 e => life_inj hn hg hg0 e
  refine (List.perm_ext_iff_of_nodup h1 (hLn.sublist (List.filter_sublist ..))).2 fun w => ?_
  rw [List.mem_filter]
  constructor
  · intro h
    obtain ⟨g, hg, h⟩ := List.mem_flatMap.1 h
    split at h
    · rename_i hp
      obtain ⟨h2, h3⟩ := List.mem_filter.1 h
      refine ⟨by simpa using h3, ?_⟩
      have : ¬ w ∈ fx := fun m => by
        obtain ⟨g0, hg0, h4, h5⟩ := (hfx w).1 m
        exact h4 (inj hg hg0 (same hg hg0 h2 h5) ▸ hp)
      simpa using this
    · cases h
  · rintro ⟨h2, h3⟩
    have h3' : w ∉ fx := by simpa using h3
    obtain ⟨h0, g, hg, e1, x, hx, e2⟩ := hL w h2
    have hw : w ∈ wordsR g := List.mem_map.2 ⟨x, hx, Prod.ext e2 e1⟩
    refine List.mem_flatMap.2 ⟨g, hg, ?_⟩
    by_cases hp : 0 < g.pages.length
    · rw [if_pos hp]; exact List.mem_filter.2 ⟨hw, by simpa using h2⟩
    · exact absurd ((hfx w).2 ⟨g, hg, hp, hw⟩) h3'
theorem colRegs_map {lv : Nat} {u : List Bool} {rs : List Reg} {L : List (Int × Int)} (h : RsOk lv u rs) (hL : ∀ w ∈ L, Points rs w) (hLn : L.Nodup) :
    colRegs L (colAll L u rs) = (colAll L u rs).regs.map (mapReg (List.map (nowW (colAll L u rs).mv (colAll L u rs).fx))) := by
  have hI := (ColInv.start (L := L) h).all
  have hI2 := (ColInv2.start (L := L) (u := u) (B := rs)).all (ColInv.start (L := L) h)
  rw [List.nil_append] at hI hI2
  change ColInv L lv rs [] (colAll L u rs) at hI
  change ColInv2 L rs [] (colAll L u rs) at hI2
  generalize colAll L u rs = S at hI hI2 ⊢
  have hok := hI.ok
  rw [List.append_nil] at hok
  have hkp := kept_perm h.inv.nodup h.inv.reg hL hLn hI2.fx
  have hperm : (wordsAll S.regs).Perm (colObjs L S) := hI2.perm.trans (List.Perm.append_left _ (hkp.map _))
  have hnd : (colObjs L S).Nodup := hperm.nodup_iff.1 (wordsAll_nodup hok.inv.nodup hok.inv.reg)
  unfold colRegs fixM
  rw [fold_set _ hnd]
  refine List.map_congr_left fun g hg => ?_
  unfold setIf mapReg
  congr 1
  refine List.map_congr_left fun x hx => ?_
  have hm : ((x.at_ : Int), (g.life : Int)) ∈ colObjs L S := hperm.mem_iff.1 (List.mem_flatMap.2 ⟨g, hg, List.mem_map.2 ⟨x, hx, rfl⟩⟩)
  rw [if_pos hm]
  congr 1
  refine List.map_congr_left fun w hw => ?_
  have hwl := (hok.inv.reg g hg).wl x hx w hw
  unfold fixF
  rw [if_pos]
  unfold nowW
  split
  · exact hwl
  · split
    · rename_i n e
      rw [(hI2.mv w n e).2]; exact hwl
    · split <;> exact hwl
end Go.Proofs.Ytoldkemimhebaaa