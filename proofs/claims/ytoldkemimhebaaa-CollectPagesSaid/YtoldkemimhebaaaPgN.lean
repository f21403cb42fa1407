/- Layer 15: what an act does to a pair: opening, closing, resetting. -/
import Derived.Test.YtoldkemimhebaaaPgK
set_option linter.unusedSimpArgs false
set_option linter.unusedVariables false
namespace Go.Proofs.Ytoldkemimhebaaa
open Go Go.IM

-- (*virgate/virgatelaw15.Pair).Do

def c26 : IFn := ⟨224, [(4, none)],
  (.seq (.region [oa 3 (.box (.t 1)), oa 4 (.mov (.c (.bool false)))] (kp 224 [0,3]))
  (.seq (.seq (.region [oa 29 (.fieldAddr 0 (.t 3)), oa 30 (.load none (.t 29)), oa 31 (.bin .rem (.t 30) (.c (.int .u8 (8))))] (kp 224 [0,3,31]))
  (.block 0
  (.seq (.region [oa 33 (.bin .eql (.t 31) (.c (.int .u8 (0)))), oa 32 (.mov (.t 33))] (kp 224 [0,3,31,32]))
  (.cond (.t 32)
  (.seq (.region [oa 35 (.mov (.t 0)), oa 36 (.nilCheck (.t 35)), oa 37 (.fieldAddr 0 (.t 36)), oa 38 (.load none (.t 37)), oa 39 (.fieldAddr 2 (.t 3)), oa 40 (.load none (.t 39)), oa 41 (.call 59 [(.t 38), (.t 40)]), oa 34 (.mov (.t 41)), oa 42 (.extract (.t 34) 0), oa 43 (.extract (.t 34) 1), oa 5 (.mov (.t 42)), oa 6 (.mov (.t 43))] (kp 224 [0,3,5,6]))
  (.seq (.region [oa 45 (.mov (.t 0)), oa 46 (.nilCheck (.t 45)), oa 47 (.fieldAddr 1 (.t 46)), oa 48 (.load none (.t 47)), oa 49 (.fieldAddr 2 (.t 3)), oa 50 (.load none (.t 49)), oa 51 (.call 60 [(.t 48), (.t 50)]), oa 44 (.mov (.t 51)), oa 52 (.extract (.t 44) 0), oa 53 (.extract (.t 44) 1), oa 7 (.mov (.t 52)), oa 8 (.mov (.t 53))] (kp 224 [5,6,7,8]))
  (.seq (.region [oa 54 (.mov (.t 5)), oa 55 (.mov (.t 7)), oa 56 (.bin .eql (.t 54) (.t 55)), oa 57 (.mov (.t 56)), oc 58 (.mov (.t 6)) 57 tt, oc 59 (.mov (.t 8)) 57 tt, oc 60 (.bin .eql (.t 58) (.t 59)) 57 tt, oa 61 (.pick (.t 57) (.t 60) (.c (.bool false))), oa 4 (.mov (.t 61))] (kp 224 [4]))
  (sr 224 [4]))))
  (.seq (.region [oa 63 (.bin .eql (.t 31) (.c (.int .u8 (1)))), oa 62 (.mov (.t 63))] (kp 224 [0,3,31,62]))
  (.cond (.t 62)
  (.seq (.region [oa 65 (.mov (.t 0)), oa 66 (.nilCheck (.t 65)), oa 67 (.fieldAddr 0 (.t 66)), oa 68 (.load none (.t 67)), oa 69 (.call 32 [(.t 68)]), oa 64 (.mov (.t 69)), oa 70 (.extract (.t 64) 0), oa 71 (.extract (.t 64) 1), oa 9 (.mov (.t 70)), oa 10 (.mov (.t 71))] (kp 224 [0,9,10]))
  (.seq (.region [oa 73 (.mov (.t 0)), oa 74 (.nilCheck (.t 73)), oa 75 (.fieldAddr 1 (.t 74)), oa 76 (.load none (.t 75)), oa 77 (.call 61 [(.t 76)]), oa 72 (.mov (.t 77)), oa 78 (.extract (.t 72) 0), oa 79 (.extract (.t 72) 1), oa 11 (.mov (.t 78)), oa 12 (.mov (.t 79))] (kp 224 [9,10,11,12]))
  (.seq (.region [oa 80 (.mov (.t 9)), oa 81 (.mov (.t 11)), oa 82 (.bin .eql (.t 80) (.t 81)), oa 83 (.mov (.t 82)), oc 84 (.mov (.t 10)) 83 tt, oc 85 (.mov (.t 12)) 83 tt, oc 86 (.bin .eql (.t 84) (.t 85)) 83 tt, oa 87 (.pick (.t 83) (.t 86) (.c (.bool false))), oa 4 (.mov (.t 87))] (kp 224 [4]))
  (sr 224 [4]))))
  (.seq (.region [oa 89 (.bin .eql (.t 31) (.c (.int .u8 (2)))), oa 88 (.mov (.t 89))] (kp 224 [0,3,31,88]))
  (.cond (.t 88)
  (.seq (.region [oa 91 (.mov (.t 0)), oa 92 (.nilCheck (.t 91)), oa 93 (.fieldAddr 0 (.t 92)), oa 94 (.load none (.t 93)), oa 95 (.fieldAddr 2 (.t 3)), oa 96 (.load none (.t 95)), oa 97 (.call 31 [(.t 94), (.t 96)]), oa 90 (.mov (.t 97)), oa 98 (.extract (.t 90) 0), oa 99 (.extract (.t 90) 1), oa 13 (.mov (.t 98)), oa 14 (.mov (.t 99))] (kp 224 [0,3,13,14]))
  (.seq (.region [oa 101 (.mov (.t 0)), oa 102 (.nilCheck (.t 101)), oa 103 (.fieldAddr 1 (.t 102)), oa 104 (.load none (.t 103)), oa 105 (.fieldAddr 2 (.t 3)), oa 106 (.load none (.t 105)), oa 107 (.call 62 [(.t 104), (.t 106)]), oa 100 (.mov (.t 107)), oa 108 (.extract (.t 100) 0), oa 109 (.extract (.t 100) 1), oa 15 (.mov (.t 108)), oa 16 (.mov (.t 109))] (kp 224 [13,14,15,16]))
  (.seq (.region [oa 110 (.mov (.t 13)), oa 111 (.mov (.t 15)), oa 112 (.bin .eql (.t 110) (.t 111)), oa 113 (.mov (.t 112)), oc 114 (.mov (.t 14)) 113 tt, oc 115 (.mov (.t 16)) 113 tt, oc 116 (.bin .eql (.t 114) (.t 115)) 113 tt, oa 117 (.pick (.t 113) (.t 116) (.c (.bool false))), oa 4 (.mov (.t 117))] (kp 224 [4]))
  (sr 224 [4]))))
  (.seq (.region [oa 119 (.bin .eql (.t 31) (.c (.int .u8 (3)))), oa 118 (.mov (.t 119))] (kp 224 [0,3,31,118]))
  (.cond (.t 118)
  (.seq (.region [oa 120 (.mov (.t 0)), oa 121 (.load (some 11) (.t 3)), oa 122 (.call 63 [(.t 120), (.t 121)]), oa 4 (.mov (.t 122))] (kp 224 [4]))
  (sr 224 [4]))
  (.seq (.region [oa 124 (.bin .eql (.t 31) (.c (.int .u8 (4)))), oa 123 (.mov (.t 124))] (kp 224 [0,3,31,123]))
  (.cond (.t 123)
  (.seq (.region [oa 125 (.mov (.t 0)), oa 126 (.load (some 11) (.t 3)), oa 127 (.call 64 [(.t 125), (.t 126)]), oa 17 (.alloc [(.int .i64 (0)), (.int .i64 (0))]), ob (.store 2 (.t 17) (.t 127))] (kp 224 [0,3,17]))
  (.seq (.region [oa 128 (.mov (.t 0)), oa 129 (.nilCheck (.t 128)), oa 130 (.fieldAddr 0 (.t 129)), oa 131 (.load none (.t 130)), oa 132 (.load (some 2) (.t 17)), oa 133 (.fieldAddr 2 (.t 3)), oa 134 (.load none (.t 133)), oa 135 (.fieldAddr 8 (.t 3)), oa 136 (.load (some 2) (.t 135)), oa 138 (.mov (.t 0)), oa 139 (.nilCheck (.t 138)), oa 140 (.fieldAddr 1 (.t 139)), oa 141 (.load none (.t 140)), oa 142 (.load (some 2) (.t 17)), oa 143 (.fieldAddr 2 (.t 3)), oa 144 (.load none (.t 143)), oa 145 (.fieldAddr 8 (.t 3)), oa 146 (.load (some 2) (.t 145)), oa 137 (.call 65 [(.t 131), (.t 132), (.t 134), (.t 136)]), ob (.again 141 (.load none (.t 140))), ob (.again 142 (.load (some 2) (.t 17))), ob (.again 144 (.load none (.t 143))), ob (.again 146 (.load (some 2) (.t 145))), oa 147 (.call 66 [(.t 141), (.t 142), (.t 144), (.t 146)]), oa 148 (.bin .eql (.t 137) (.t 147)), oa 4 (.mov (.t 148))] (kp 224 [4]))
  (sr 224 [4])))
  (.seq (.region [oa 150 (.bin .eql (.t 31) (.c (.int .u8 (5)))), oa 149 (.mov (.t 150))] (kp 224 [0,3,31,149]))
  (.cond (.t 149)
  (.seq (.region [oa 151 (.mov (.t 0)), oa 152 (.load (some 11) (.t 3)), oa 153 (.call 64 [(.t 151), (.t 152)]), oa 18 (.alloc [(.int .i64 (0)), (.int .i64 (0))]), ob (.store 2 (.t 18) (.t 153))] (kp 224 [0,3,18]))
  (.seq (.region [oa 155 (.mov (.t 0)), oa 156 (.nilCheck (.t 155)), oa 157 (.fieldAddr 0 (.t 156)), oa 158 (.load none (.t 157)), oa 159 (.load (some 2) (.t 18)), oa 160 (.fieldAddr 2 (.t 3)), oa 161 (.load none (.t 160)), oa 19 (.alloc [(.int .i64 (0)), (.int .i64 (0))]), oa 162 (.call 67 [(.t 158), (.t 159), (.t 161)]), oa 154 (.mov (.t 162)), oa 163 (.extract (.t 154) 0), oa 164 (.extract (.t 154) 1), ob (.store 2 (.t 19) (.t 163)), oa 20 (.mov (.t 164))] (kp 224 [0,3,18,19,20]))
  (.seq (.region [oa 166 (.mov (.t 0)), oa 167 (.nilCheck (.t 166)), oa 168 (.fieldAddr 1 (.t 167)), oa 169 (.load none (.t 168)), oa 170 (.load (some 2) (.t 18)), oa 171 (.fieldAddr 2 (.t 3)), oa 172 (.load none (.t 171)), oa 21 (.alloc [(.int .i64 (0)), (.int .i64 (0))]), oa 173 (.call 68 [(.t 169), (.t 170), (.t 172)]), oa 165 (.mov (.t 173)), oa 174 (.extract (.t 165) 0), oa 175 (.extract (.t 165) 1), ob (.store 2 (.t 21) (.t 174)), oa 22 (.mov (.t 175))] (kp 224 [0,18,19,20,21,22]))
  (.seq (.region [oa 177 (.mov (.t 0)), oa 178 (.nilCheck (.t 177)), oa 179 (.fieldAddr 0 (.t 178)), oa 180 (.load none (.t 179)), oa 181 (.load (some 2) (.t 18)), oa 182 (.call 30 [(.t 180), (.t 181)]), oa 176 (.mov (.t 182)), oa 183 (.extract (.t 176) 0), oa 184 (.extract (.t 176) 1), oa 185 (.extract (.t 176) 2), oa 23 (.mov (.t 183)), oa 24 (.mov (.t 184)), oa 25 (.mov (.t 185))] (kp 224 [0,18,19,20,21,22,23,24,25]))
  (.seq (.region [oa 187 (.mov (.t 0)), oa 188 (.nilCheck (.t 187)), oa 189 (.fieldAddr 1 (.t 188)), oa 190 (.load none (.t 189)), oa 191 (.load (some 2) (.t 18)), oa 192 (.call 69 [(.t 190), (.t 191)]), oa 186 (.mov (.t 192)), oa 193 (.extract (.t 186) 0), oa 194 (.extract (.t 186) 1), oa 195 (.extract (.t 186) 2), oa 26 (.mov (.t 193)), oa 27 (.mov (.t 194)), oa 28 (.mov (.t 195))] (kp 224 [19,20,21,22,23,24,25,26,27,28]))
  (.seq (.region [oa 196 (.load (some 2) (.t 19)), oa 197 (.load (some 2) (.t 21)), oa 198 (.eql false (.key (.agg [.i, .i])) (.t 196) (.t 197)), oa 199 (.mov (.t 198)), oc 200 (.mov (.t 20)) 199 tt, oc 201 (.mov (.t 22)) 199 tt, oc 202 (.bin .eql (.t 200) (.t 201)) 199 tt, oa 203 (.pick (.t 199) (.t 202) (.c (.bool false))), oa 204 (.mov (.t 203)), oc 205 (.mov (.t 23)) 204 tt, oc 206 (.mov (.t 26)) 204 tt, oc 207 (.bin .eql (.t 205) (.t 206)) 204 tt, oa 208 (.pick (.t 204) (.t 207) (.c (.bool false))), oa 209 (.mov (.t 208)), oc 210 (.mov (.t 24)) 209 tt, oc 211 (.mov (.t 27)) 209 tt, oc 212 (.bin .eql (.t 210) (.t 211)) 209 tt, oa 213 (.pick (.t 209) (.t 212) (.c (.bool false))), oa 214 (.mov (.t 213)), oc 215 (.mov (.t 25)) 214 tt, oc 216 (.mov (.t 28)) 214 tt, oc 217 (.bin .eql (.t 215) (.t 216)) 214 tt, oa 218 (.pick (.t 214) (.t 217) (.c (.bool false))), oa 4 (.mov (.t 218))] (kp 224 [4]))
  (sr 224 [4])))))))
  (.seq (.region [oa 220 (.bin .eql (.t 31) (.c (.int .u8 (6)))), oa 219 (.mov (.t 220))] (kp 224 [0,3,219]))
  (.cond (.t 219)
  (.seq (.region [oa 221 (.mov (.t 0)), oa 222 (.load (some 11) (.t 3)), oa 223 (.call 70 [(.t 221), (.t 222)]), oa 4 (.mov (.t 223))] (kp 224 [4]))
  (sr 224 [4]))
  (sk 224 [])))))))))))))))))
  (.seq (.region [oa 4 (.mov (.c (.bool true)))] (kp 224 [4]))
  (sr 224 [4]))))⟩
theorem F26 : shutF Try.prog 26 = some c26 := by kernel_rfl


section
variable {o : Nat → Option O} {s : St} {C F : Ch} {Q : V → St → Prop} {p r q t : Nat} {u : List Bool} {others : List Nat} {G : PairG}
set_option maxRecDepth 10000
set_option maxHeartbeats 4000000

theorem World.in_ : In (World p r q t u G F) p G.hp := ⟨fun x hx => by simp only [World, PairG.ch, List.mem_append]; exact .inr (.inr (.inl (.inr (.inl hx))))⟩
theorem World.rin : RIn (World p r q t u G F) q G.hr := ⟨fun x hx => by simp only [World, PairG.ch, List.mem_append]; exact .inr (.inr (.inl (.inr (.inr hx))))⟩
theorem World.id : (G.id, some G.hd) ∈ World p r q t u G F := by simp [World, PairG.ch, PairG.pc]
theorem World.wk : (G.wk, rowO 2 G.ws.length (G.ws.flatMap encW)) ∈ World p r q t u G F := by simp [World, PairG.ch, PairG.pc]
theorem World.fr {x : Nat × Option O} (h : x ∈ F) : x ∈ World p r q t u G F := by simp only [World, List.mem_append]; exact .inr (.inr (.inr h))

/-- From one act to the next. -/
structure Next (others : List Nat) (u : List Bool) (G : PairG) (u' : List Bool) (G' : PairG) : Prop where
  id : G'.id = G.id
  pid : G'.hp.id = G.hp.id
  rid : G'.hr.id = G.hr.id
  ok : PairOk u' others G'
  ul : u'.length = u.length
  ws : G'.ws.length ≤ G.ws.length + 1000
  lv : G'.hp.lives ≤ G.hp.lives + 1
theorem PairOk.nx (h : PairOk u others G) : Next others u G u G := ⟨rfl, rfl, rfl, h, rfl, by omega, by omega⟩

theorem PairOk.pop (h : PairOk u others G) {A : List PReg} {A' : List RReg} {g : PReg} {g' : RReg} {sl1 sl2 : List V} (e : G.hp.regs = A ++ [g]) (e' : G.hr.regs = A' ++ [g']) (hA : A.map PReg.m = A'.map RReg.m) (h0 : A ≠ []) (hg : G.hr.grown = true) (hs : ∃ j, sl2.length = j * 5) :
    PairOk (freeP u g.pages) others { G with hp := { G.hp with regs := A, sl := sl1 }, hr := { G.hr with regs := A', sl := sl2 } } where
  ulen := by rw [freeP_len]; exact h.ulen
  lives := h.lives
  same := hA
  inv := by
    have hi := h.inv
    rw [e] at hi
    simp only [List.map_append, List.map_cons, List.map_nil] at hi
    refine ⟨hi.lives, by simpa using h0, by have := hi.len; simp at this ⊢; omega, ?_, fun r hr => hi.life r (List.mem_append_left _ hr), fun r hr => hi.reg r (List.mem_append_left _ hr)⟩
    have := hi.nodup
    rw [List.map_append, List.nodup_append] at this
    exact this.1
  pool := by
    have := (h.pool1 e).free
    simpa using this
  pok := fun x hx => h.pok x (by rw [e]; exact List.mem_append_left _ hx)
  grown := ⟨(fun hf => by rw [hg] at hf; cases hf), hs⟩
  one := fun hf => by rw [hg] at hf; cases hf

theorem PairOk.push (h : PairOk u others G) {words rk rk' k m : Nat} {sl1 sl2 : List V} (hw : words ≤ 31) (hl : G.hp.lives < 100000) (hgr : RGrown { G.hr with rowk := rk', grown := true, lives := G.hr.lives + 1, regs := G.hr.regs ++ [⟨0, 0, words, G.hr.lives + 1, 0, [], []⟩], sl := sl2 }) :
    PairOk u others { G with hp := { G.hp with rowk := rk, lives := G.hp.lives + 1, regs := G.hp.regs ++ [⟨k, 0, 0, m, .map [] 0, words, G.hp.lives + 1, 0, [], []⟩], sl := sl1 }, hr := { G.hr with rowk := rk', grown := true, lives := G.hr.lives + 1, regs := G.hr.regs ++ [⟨0, 0, words, G.hr.lives + 1, 0, [], []⟩], sl := sl2 } } where
  ulen := h.ulen
  lives := by rw [show G.hp.lives = G.hr.lives from h.lives]
  same := by simp only [List.map_append, h.same, List.map_cons, List.map_nil, PReg.m, RReg.m, h.lives]
  inv := by
    have hi := h.inv
    refine ⟨by simp only; omega, by simp, ?_, ?_, ?_, ?_⟩
    · have := hi.len; simp at this ⊢; omega
    · simp only [List.map_append, List.map_cons, List.map_nil]
      rw [List.nodup_append]
      refine ⟨hi.nodup, by simp, fun x hx y hy => ?_⟩
      obtain ⟨r, hr, rfl⟩ := List.mem_map.1 hx
      have := (hi.life r hr).2
      simp [PReg.m] at hy
      omega
    · intro r hr
      simp only [List.map_append, List.mem_append, List.map_cons, List.map_nil, List.mem_cons, List.not_mem_nil, or_false] at hr
      rcases hr with hr | rfl
      · have := hi.life r hr; simp only; omega
      · simp only [PReg.m]; omega
    · intro r hr
      simp only [List.map_append, List.mem_append, List.map_cons, List.map_nil, List.mem_cons, List.not_mem_nil, or_false] at hr
      rcases hr with hr | rfl
      · exact hi.reg r hr
      · exact ⟨hw, by simp [PReg.m], fun _ => by simp [PReg.m], fun _ => Packed.nil⟩
  pool := by
    have := h.pool
    simpa [PReg.m] using this
  pok := by
    intro x hx
    rcases List.mem_append.1 hx with hx | hx
    · exact h.pok x hx
    · simp at hx; subst hx; exact mapIs_nil
  grown := hgr
  one := fun hf => by cases hf

theorem PairOk.reset (h : PairOk u others G) {A B : List PReg} {A' B' : List RReg} {g : PReg} {g' : RReg} {k : Nat} (e : G.hp.regs = A ++ g :: B) (e' : G.hr.regs = A' ++ g' :: B') (hA : A.map PReg.m = A'.map RReg.m) (hB : B.map PReg.m = B'.map RReg.m) (hm : g.m = g'.m) (hl : G.hp.lives < 100000) :
    PairOk (freeP u g.pages) others { G with hp := { G.hp with lives := G.hp.lives + 1, regs := A ++ { g with life := G.hp.lives + 1, fill := 0, pages := [], objs := [], plk := k, pl := .map [] 0 } :: B }, hr := { G.hr with lives := G.hr.lives + 1, regs := A' ++ { g' with life := G.hr.lives + 1, fill := 0, pages := [], objs := [] } :: B' } } where
  ulen := by rw [freeP_len]; exact h.ulen
  lives := by rw [show G.hp.lives = G.hr.lives from h.lives]
  same := by
    have hsz : g.size = g'.size := congrArg Reg.size hm
    simp only [List.map_append, List.map_cons, hA, hB, PReg.m, RReg.m, hsz, h.lives, List.map_nil]
  inv := by
    have hi := h.inv
    rw [e] at hi
    simp only [List.map_append, List.map_cons] at hi
    refine ⟨by simp only; omega, by simp, ?_, ?_, ?_, ?_⟩
    · have := hi.len; simp at this ⊢; omega
    · have hn := hi.nodup
      simp only [List.map_append, List.map_cons, List.nodup_append, List.nodup_cons] at hn ⊢
      obtain ⟨n1, ⟨n2, n3⟩, n4⟩ := hn
      have lt1 : ∀ x ∈ (A.map PReg.m).map (·.life), x ≤ G.hp.lives := fun x hx => by
        obtain ⟨r, hr, rfl⟩ := List.mem_map.1 hx
        exact (hi.life r (List.mem_append_left _ hr)).2
      have lt2 : ∀ x ∈ (B.map PReg.m).map (·.life), x ≤ G.hp.lives := fun x hx => by
        obtain ⟨r, hr, rfl⟩ := List.mem_map.1 hx
        exact (hi.life r (List.mem_append_right _ (List.mem_cons_of_mem _ hr))).2
      refine ⟨n1, ⟨fun hx => by have := lt2 _ hx; simp [PReg.m] at this; omega, n3⟩, fun x hx y hy => ?_⟩
      rcases List.mem_cons.1 hy with rfl | hy
      · have := lt1 x hx; simp [PReg.m]; omega
      · exact n4 x hx y (List.mem_cons_of_mem _ hy)
    · intro r hr
      simp only [List.map_append, List.map_cons, List.mem_append, List.mem_cons] at hr
      rcases hr with hr | rfl | hr
      · have := hi.life r (List.mem_append_left _ hr); simp only; omega
      · simp only [PReg.m]; omega
      · have := hi.life r (List.mem_append_right _ (List.mem_cons_of_mem _ hr)); simp only; omega
    · intro r hr
      simp only [List.map_append, List.map_cons, List.mem_append, List.mem_cons] at hr
      rcases hr with hr | rfl | hr
      · exact hi.reg r (List.mem_append_left _ hr)
      · have := (hi.reg g.m (by simp)).size
        exact ⟨this, by simp [PReg.m], fun _ => by simp [PReg.m], fun _ => Packed.nil⟩
      · exact hi.reg r (List.mem_append_right _ (List.mem_cons_of_mem _ hr))
  pool := by
    have := (h.pool1 e).free
    simpa [PReg.m] using this
  pok := by
    intro x hx
    simp only [List.mem_append, List.mem_cons] at hx
    rcases hx with hx | rfl | hx
    · exact h.pok x (by rw [e]; simp [hx])
    · exact mapIs_nil
    · exact h.pok x (by rw [e]; simp [hx])
  grown := h.grown
  one := fun hg => by have := h.one hg; rw [e'] at this; simpa using this

theorem do_open (x : ActG) (hd : intI .rem .u8 x.d 8 = some (.int .u8 0)) (h : PairOk u others G) (H : Holds o s (World p r q t u G F))
    (k : ∀ s' G', Next others u G u G' → Holds o s' (World p r q t u G' F) → Q (.bool true) s') : WP (call PF 26 [ptrN G.id, .agg x.cells] s) Q := by
  have f0 := H.mem World.id
  simp only [PairG.hd] at f0
  have h1 := H.alloc (.cells x.cells none)
  have hin := World.in_ (p := p) (r := r) (q := q) (t := t) (u := u) (G := G) (F := F)
  have rin := World.rin (p := p) (r := r) (q := q) (t := t) (u := u) (G := G) (F := F)
  rw [call_run F26]; simp -implicitDefEqProofs only [↓GP, GB, GL, Nat.reduceAdd, Nat.reduceSub, Nat.reduceEqDiff, Nat.reduceMul, Nat.reduceLeDiff, Int.reduceBNe, Int.reduceBEq, Nat.reduceLT, reduceCtorEq, c26, hd, f0, Int.reduceBEq]
  by_cases hb : 0 ≤ x.a ∧ x.a ≤ 31
  · by_cases hl : 100000 ≤ G.hp.lives
    · refine wp_in (s59_full h1 (hin.cons _).id hb hl fun s1 h2 => ?_)
      have f1 := h2.tl.mem World.id
      simp only [PairG.hd] at f1
      have e := s60_full h2 (rin.cons _) h.rne hb (by rw [← h.lives]; exact hl)
      simp -implicitDefEqProofs only [↓GP, GB, GL, Nat.reduceAdd, Nat.reduceSub, Nat.reduceEqDiff, Nat.reduceMul, Nat.reduceLeDiff, Int.reduceBNe, Int.reduceBEq, Nat.reduceLT, reduceCtorEq, f1, h2.f1, e]
      exact k _ G h.nx h2.tl
    · obtain ⟨n, hn⟩ : ∃ n : Nat, x.a = n := ⟨x.a.toNat, by omega⟩
      rw [hn]
      have hw : n ≤ 31 := by omega
      have hpl := h.plives
      refine wp_in (s59 (hp := G.hp) (p := p) (F := (s.next, some (.cells x.cells none)) :: (poolC p r u ++ (poolC q t u ++ (G.pc ++ (G.hr.ch q ++ F))))) (Holds.of (h1) (fun k => by simp +arith only [HA, HB]) (fun k x => by simp only [HA, HC]; grind only)) h.pne (by omega) hw (by omega) fun s1 rk kk m sl h2 => ?_)
      have h3 : Holds o s1 ((s.next, some (.cells x.cells none)) :: (G.id, some (.cells [ptrN G.hp.id, ptrN G.hr.id, rowV G.wk G.ws.length] none)) :: (G.hr.ch q ++ ((G.wk, rowO 2 G.ws.length (G.ws.flatMap encW)) :: (poolC p r u ++ (poolC q t u ++ (PHeap.ch p { G.hp with rowk := rk, lives := G.hp.lives + 1, regs := G.hp.regs ++ [⟨kk, 0, 0, m, .map [] 0, n, G.hp.lives + 1, 0, [], []⟩], sl := sl } ++ F)))))) := (Holds.of (h2) (fun k => by simp +arith only [HA, HB]) (fun k x => by simp only [HA, HC]; grind only))
      have f := h3.f2
      simp only [ActG.cells, hn] at f
      simp -implicitDefEqProofs only [↓GP, GB, GL, Nat.reduceAdd, Nat.reduceSub, Nat.reduceEqDiff, Nat.reduceMul, Nat.reduceLeDiff, Int.reduceBNe, Int.reduceBEq, Nat.reduceLT, reduceCtorEq, f]
      have hrl := h.len
      refine wp_in (s60 (hr := G.hr) (p := q) (F := (s.next, some (.cells x.cells none)) :: (G.id, some (.cells [ptrN G.hp.id, ptrN G.hr.id, rowV G.wk G.ws.length] none)) :: ((G.wk, rowO 2 G.ws.length (G.ws.flatMap encW)) :: (poolC p r u ++ (poolC q t u ++ (PHeap.ch p { G.hp with rowk := rk, lives := G.hp.lives + 1, regs := G.hp.regs ++ [⟨kk, 0, 0, m, .map [] 0, n, G.hp.lives + 1, 0, [], []⟩], sl := sl } ++ F))))) (Holds.of (h3) (fun k => by simp +arith only [HA, HB]) (fun k x => by simp only [HA, HC]; grind only)) h.rne h.grown (by omega) hw (by rw [← h.lives]; omega) fun s2 rk' sl' hgr h4 => ?_)
      have hbe : ((G.hp.regs.length : Int) == (G.hr.regs.length : Int)) = true := by rw [h.len]; simp
      simp -implicitDefEqProofs only [↓GP, GB, GL, Nat.reduceAdd, Nat.reduceSub, Nat.reduceEqDiff, Nat.reduceMul, Nat.reduceLeDiff, Int.reduceBNe, Int.reduceBEq, Nat.reduceLT, reduceCtorEq, hbe]
      refine k _ { G with hp := { G.hp with rowk := rk, lives := G.hp.lives + 1, regs := G.hp.regs ++ [⟨kk, 0, 0, m, .map [] 0, n, G.hp.lives + 1, 0, [], []⟩], sl := sl }, hr := { G.hr with rowk := rk', grown := true, lives := G.hr.lives + 1, regs := G.hr.regs ++ [⟨0, 0, n, G.hr.lives + 1, 0, [], []⟩], sl := sl' } }
        ⟨rfl, rfl, rfl, h.push hw (by omega) hgr, rfl, by simp, by simp⟩ (Holds.of (h4) (fun k => by simp +arith only [HA, HB]) (fun k x => by simp only [HA, HC]; grind only))
  · refine wp_in (s59_bad h1 (hin.cons _).id hb fun s1 h2 => ?_)
    have f1 := h2.tl.mem World.id
    simp only [PairG.hd] at f1
    have e := s60_bad h2 (rin.cons _) h.rne hb
    simp -implicitDefEqProofs only [↓GP, GB, GL, Nat.reduceAdd, Nat.reduceSub, Nat.reduceEqDiff, Nat.reduceMul, Nat.reduceLeDiff, Int.reduceBNe, Int.reduceBEq, Nat.reduceLT, reduceCtorEq, f1, h2.f1, e]
    exact k _ G h.nx h2.tl

theorem do_close (x : ActG) (hd : intI .rem .u8 x.d 8 = some (.int .u8 1)) (h : PairOk u others G) (H : Holds o s (World p r q t u G F))
    (k : ∀ s' u' G', Next others u G u' G' → Holds o s' (World p r q t u' G' F) → Q (.bool true) s') : WP (call PF 26 [ptrN G.id, .agg x.cells] s) Q := by
  have f0 := H.mem World.id
  simp only [PairG.hd] at f0
  have h1 := H.alloc (.cells x.cells none)
  have hin := World.in_ (p := p) (r := r) (q := q) (t := t) (u := u) (G := G) (F := F)
  have rin := World.rin (p := p) (r := r) (q := q) (t := t) (u := u) (G := G) (F := F)
  have hrl := h.len
  have hpos := List.length_pos_iff.2 h.pne
  by_cases h1l : G.hp.regs.length = 1
  · have e := s32_one h1 (hin.cons _).id h1l
    have e2 := s61_one h1 (rin.cons _) (by omega)
    rw [call_run F26]; simp -implicitDefEqProofs only [↓GP, GB, GL, Nat.reduceAdd, Nat.reduceSub, Nat.reduceEqDiff, Nat.reduceMul, Nat.reduceLeDiff, Int.reduceBNe, Int.reduceBEq, Nat.reduceLT, reduceCtorEq, c26, hd, f0, e, e2, Int.reduceBEq]
    exact k _ u G h.nx h1.tl
  · obtain ⟨A, g, B, A', g', B', e1, e2, l1, l2, hm, hA, hB⟩ := h.at_ (i := G.hp.regs.length - 1) (by omega)
    have hBn : B = [] := by have := congrArg List.length e1; simp at this; exact List.length_eq_zero_iff.1 (by omega)
    subst hBn
    have hBn' : B' = [] := by simpa using hB.symm
    subst hBn'
    have hA0 : A ≠ [] := by intro e; rw [e] at l1; simp at l1; omega
    have hA0' : A' ≠ [] := by intro e; rw [e] at l2; simp at l2; omega
    have mg : g ∈ G.hp.regs := by rw [e1]; simp
    have mg' : g' ∈ G.hr.regs := by rw [e2]; simp
    have ok := h.okp mg
    have ok' := h.okr mg'
    have hu := h.ulen
    have hpl := h.plen
    have hgr : G.hr.grown = true := by
      cases hg : G.hr.grown with
      | true => rfl
      | false => have := h.one hg; omega
    have hpg : g.pages = g'.pages := congrArg Reg.pages hm
    rw [call_run F26]; simp -implicitDefEqProofs only [↓GP, GB, GL, Nat.reduceAdd, Nat.reduceSub, Nat.reduceEqDiff, Nat.reduceMul, Nat.reduceLeDiff, Int.reduceBNe, Int.reduceBEq, Nat.reduceLT, reduceCtorEq, c26, hd, f0, Int.reduceBEq]
    refine wp_in (s32 (hp := G.hp) (p := p) (r := r) (u := u) (A := A) (g := g) (F := (s.next, some (.cells x.cells none)) :: (poolC q t u ++ (G.pc ++ (G.hr.ch q ++ F)))) (Holds.of (h1) (fun k => by simp +arith only [HA, HB]) (fun k x => by simp only [HA, HC]; grind only)) e1 hA0 hpl (by omega) ok.1.pages ok.1.npages fun s1 h2 => ?_)
    have h3 : Holds o s1 ((G.id, some (.cells [ptrN G.hp.id, ptrN G.hr.id, rowV G.wk G.ws.length] none)) :: (poolC q t u ++ (G.hr.ch q ++ ((G.wk, rowO 2 G.ws.length (G.ws.flatMap encW)) :: (poolC p r (freeP u g.pages) ++ (PHeap.ch p { G.hp with regs := A, sl := ptrN g.id :: G.hp.sl } ++ F)))))) := (Holds.of (h2) (fun k => by simp +arith only [HA, HB]) (fun k x => by simp only [HA, HC]; grind only))
    simp -implicitDefEqProofs only [↓GP, GB, GL, Nat.reduceAdd, Nat.reduceSub, Nat.reduceEqDiff, Nat.reduceMul, Nat.reduceLeDiff, Int.reduceBNe, Int.reduceBEq, Nat.reduceLT, reduceCtorEq, h3.f1]
    refine wp_in (s61 (hr := G.hr) (p := q) (r := t) (u := u) (A := A') (g := g') (F := (G.id, some (.cells [ptrN G.hp.id, ptrN G.hr.id, rowV G.wk G.ws.length] none)) :: ((G.wk, rowO 2 G.ws.length (G.ws.flatMap encW)) :: (poolC p r (freeP u g.pages) ++ (PHeap.ch p { G.hp with regs := A, sl := ptrN g.id :: G.hp.sl } ++ F)))) (Holds.of (h3) (fun k => by simp +arith only [HA, HB]) (fun k x => by simp only [HA, HC]; grind only)) e2 hA0' hgr (by omega) (by omega) ok'.1.pages ok'.1.npages fun s2 sl' hsl h4 => ?_)
    have hbe : ((g.pages.length : Int) == (g'.pages.length : Int)) = true := by rw [hpg]; simp
    simp -implicitDefEqProofs only [↓GP, GB, GL, Nat.reduceAdd, Nat.reduceSub, Nat.reduceEqDiff, Nat.reduceMul, Nat.reduceLeDiff, Int.reduceBNe, Int.reduceBEq, Nat.reduceLT, reduceCtorEq, hbe]
    obtain ⟨j1, hj1⟩ := h.grown.2
    obtain ⟨j2, hj2⟩ := hsl
    refine k _ (freeP u g.pages) { G with hp := { G.hp with regs := A, sl := ptrN g.id :: G.hp.sl }, hr := { G.hr with regs := A', sl := sl' } } ⟨rfl, rfl, rfl, h.pop e1 e2 hA hA0 hgr ⟨j1 + j2, by rw [hj2, hj1]; omega⟩, freeP_len _ _, by simp, by simp⟩ ?_
    rw [← hpg] at h4
    exact (Holds.of (h4) (fun k => by simp +arith only [HA, HB]) (fun k x => by simp only [HA, HC]; grind only))

theorem AtErr.of {hp : PHeap} {n : Int} (hin : In C p hp) (h0 : hp.regs ≠ []) (hl : hp.regs.length ≤ 100000) (hb : ¬ (0 ≤ n ∧ n < hp.regs.length)) : AtErr C (ptrN hp.id) n 2 := .inr ⟨rfl, hp, p, rfl, hin.id, h0, by omega, hb⟩
theorem RAtErr.of {hr : RHeap} {n : Int} (hin : RIn C q hr) (h0 : hr.regs ≠ []) (hb : ¬ (0 ≤ n ∧ n < hr.regs.length)) : RAtErr C (ptrN hr.id) n 2 := .inr ⟨rfl, hr, q, rfl, hin, h0, hb⟩

theorem do_reset (x : ActG) (hd : intI .rem .u8 x.d 8 = some (.int .u8 2)) (h : PairOk u others G) (H : Holds o s (World p r q t u G F))
    (k : ∀ s' u' G', Next others u G u' G' → Holds o s' (World p r q t u' G' F) → Q (.bool true) s') : WP (call PF 26 [ptrN G.id, .agg x.cells] s) Q := by
  have f0 := H.mem World.id
  simp only [PairG.hd] at f0
  have h1 := H.alloc (.cells x.cells none)
  have hin := World.in_ (p := p) (r := r) (q := q) (t := t) (u := u) (G := G) (F := F)
  have rin := World.rin (p := p) (r := r) (q := q) (t := t) (u := u) (G := G) (F := F)
  have hrl := h.len
  have hpl := h.plen
  rw [call_run F26]; simp -implicitDefEqProofs only [↓GP, GB, GL, Nat.reduceAdd, Nat.reduceSub, Nat.reduceEqDiff, Nat.reduceMul, Nat.reduceLeDiff, Int.reduceBNe, Int.reduceBEq, Nat.reduceLT, reduceCtorEq, c26, hd, f0, Int.reduceBEq]
  by_cases hb : 0 ≤ x.a ∧ x.a < G.hp.regs.length
  · obtain ⟨n, hn⟩ : ∃ n : Nat, x.a = n := ⟨x.a.toNat, by omega⟩
    rw [hn]
    obtain ⟨A, g, B, A', g', B', e1, e2, l1, l2, hm, hA, hB⟩ := h.at_ (i := n) (by omega)
    have hg : G.hp.regs[n]? = some g := by rw [e1, ← l1]; simp
    by_cases hl : 100000 ≤ G.hp.lives
    · refine wp_in (s31_full h1 (hin.cons _).id (hin.cons _).row (by omega) hg hl fun s1 h2 => ?_)
      have f1 := h2.tl.mem World.id
      have f2 := h2.f1
      simp only [PairG.hd] at f1
      simp only [ActG.cells, hn] at f2
      have e := s62_full (i := n) h2 (rin.cons _) (by omega) (by rw [← h.lives]; exact hl)
      simp -implicitDefEqProofs only [↓GP, GB, GL, Nat.reduceAdd, Nat.reduceSub, Nat.reduceEqDiff, Nat.reduceMul, Nat.reduceLeDiff, Int.reduceBNe, Int.reduceBEq, Nat.reduceLT, reduceCtorEq, f1, f2, e]
      exact k _ u G h.nx h2.tl
    · have mg : g ∈ G.hp.regs := by rw [e1]; simp
      have mg' : g' ∈ G.hr.regs := by rw [e2]; simp
      have ok := h.okp mg
      have ok' := h.okr mg'
      have hu := h.ulen
      have hpg : g.pages = g'.pages := congrArg Reg.pages hm
      have h31 := fun Q' => s31 (o := o) (s := s.alloc (.cells x.cells none)) (Q := Q') (hp := G.hp) (p := p) (r := r) (u := u) (A := A) (B := B) (g := g) (F := (s.next, some (.cells x.cells none)) :: (poolC q t u ++ (G.pc ++ (G.hr.ch q ++ F)))) (Holds.of (h1) (fun k => by simp +arith only [HA, HB]) (fun k x => by simp only [HA, HC]; grind only)) e1 hpl (by omega) ok.1.pages ok.1.npages (by omega)
      rw [l1] at h31
      refine wp_in (h31 _ fun s1 kk h2 => ?_)
      have h3 : Holds o s1 ((s.next, some (.cells x.cells none)) :: (G.id, some (.cells [ptrN G.hp.id, ptrN G.hr.id, rowV G.wk G.ws.length] none)) :: (poolC q t u ++ (G.hr.ch q ++ ((G.wk, rowO 2 G.ws.length (G.ws.flatMap encW)) :: (poolC p r (freeP u g.pages) ++ (PHeap.ch p { G.hp with lives := G.hp.lives + 1, regs := A ++ { g with life := G.hp.lives + 1, fill := 0, pages := [], objs := [], plk := kk, pl := .map [] 0 } :: B } ++ F)))))) := (Holds.of (h2) (fun k => by simp +arith only [HA, HB]) (fun k x => by simp only [HA, HC]; grind only))
      have f := h3.f2
      simp only [ActG.cells, hn] at f
      simp -implicitDefEqProofs only [↓GP, GB, GL, Nat.reduceAdd, Nat.reduceSub, Nat.reduceEqDiff, Nat.reduceMul, Nat.reduceLeDiff, Int.reduceBNe, Int.reduceBEq, Nat.reduceLT, reduceCtorEq, f]
      have h62 := fun Q' => s62 (o := o) (s := s1) (Q := Q') (hr := G.hr) (p := q) (r := t) (u := u) (A := A') (B := B') (g := g') (F := (G.id, some (.cells [ptrN G.hp.id, ptrN G.hr.id, rowV G.wk G.ws.length] none)) :: ((G.wk, rowO 2 G.ws.length (G.ws.flatMap encW)) :: (poolC p r (freeP u g.pages) ++ (PHeap.ch p { G.hp with lives := G.hp.lives + 1, regs := A ++ { g with life := G.hp.lives + 1, fill := 0, pages := [], objs := [], plk := kk, pl := .map [] 0 } :: B } ++ F)))) (Holds.of (h3) (fun k => by simp +arith only [HA, HB]) (fun k x => by simp only [HA, HC]; grind only)) e2 (by omega) (by rw [← h.lives]; omega) (by omega) ok'.1.pages ok'.1.npages
      rw [l2] at h62
      refine wp_in (h62 _ fun s2 h4 => ?_)
      have hbe : (((G.hp.lives + 1 : Nat) : Int) == ((G.hr.lives + 1 : Nat) : Int)) = true := by rw [h.lives]; simp
      simp -implicitDefEqProofs only [↓GP, GB, GL, Nat.reduceAdd, Nat.reduceSub, Nat.reduceEqDiff, Nat.reduceMul, Nat.reduceLeDiff, Int.reduceBNe, Int.reduceBEq, Nat.reduceLT, reduceCtorEq, hbe]
      refine k _ (freeP u g.pages) { G with hp := { G.hp with lives := G.hp.lives + 1, regs := A ++ { g with life := G.hp.lives + 1, fill := 0, pages := [], objs := [], plk := kk, pl := .map [] 0 } :: B }, hr := { G.hr with lives := G.hr.lives + 1, regs := A' ++ { g' with life := G.hr.lives + 1, fill := 0, pages := [], objs := [] } :: B' } } ⟨rfl, rfl, rfl, h.reset e1 e2 hA hB hm (by omega), freeP_len _ _, by simp, by simp⟩ ?_
      rw [← hpg] at h4
      exact (Holds.of (h4) (fun k => by simp +arith only [HA, HB]) (fun k x => by simp only [HA, HC]; grind only))
  · refine wp_in (s31_err h1 (AtErr.of (hin.cons _) h.pne hpl hb) rfl rfl fun s1 h2 => ?_)
    have f1 := h2.tl.mem World.id
    simp only [PairG.hd] at f1
    have e := s62_err h2 (RAtErr.of (rin.cons _) h.rne (by rw [← hrl]; exact hb))
    simp -implicitDefEqProofs only [↓GP, GB, GL, Nat.reduceAdd, Nat.reduceSub, Nat.reduceEqDiff, Nat.reduceMul, Nat.reduceLeDiff, Int.reduceBNe, Int.reduceBEq, Nat.reduceLT, reduceCtorEq, f1, h2.f1, e]
    exact k _ u G h.nx h2.tl
end
end Go.Proofs.Ytoldkemimhebaaa
