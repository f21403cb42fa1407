/- Layer 15: the model (pools, regions, heaps), and where the program's and the reference's heaps stand in the store. -/
import Derived.Test.YtoldkemimhebaaaPgA
import Derived.Test.YtoldkemimhebaaaIm19
set_option linter.unusedSimpArgs false
set_option linter.unusedVariables false
namespace Go.Proofs.Ytoldkemimhebaaa
open Go Go.IM

/-- An object. -/
structure Obj where
  at_ : Nat
  kind : Nat
  ws : List (Int × Int)
/-- A region: words (0: infinite), life, how far the last page is full, pages, objects. -/
structure Reg where
  size : Nat
  life : Nat
  fill : Nat
  pages : List Nat
  objs : List Obj

/-- The first page that is free. -/
def takeP (u : List Bool) : Option Nat := u.findIdx? (! ·)
def freeP (u : List Bool) (l : List Nat) : List Bool := l.foldl (fun u n => u.set n false) u
theorem freeP_len (u : List Bool) : ∀ l, (freeP u l).length = u.length := by
  intro l
  induction l generalizing u with
  | nil => rfl
  | cons n l ih => exact (ih (u.set n false)).trans (by simp)
/-- Room for so many words in an infinite region. -/
def place (u : List Bool) (r : Reg) (need : Nat) : Option (Nat × List Bool × Reg) :=
  match r.pages.getLast? with
  | some p => if r.fill + need ≤ 32 then some (p * 32 + r.fill, u, { r with fill := r.fill + need }) else (takeP u).map fun n => (n * 32, u.set n true, { r with pages := r.pages ++ [n], fill := need })
  | none => (takeP u).map fun n => (n * 32, u.set n true, { r with pages := r.pages ++ [n], fill := need })
def Reg.empty (r : Reg) : Reg := { r with fill := 0, pages := [], objs := [] }
def Reg.add (r : Reg) (x : Obj) : Reg := { r with objs := r.objs ++ [x] }

def encW (w : Int × Int) : List V := [I w.1, I w.2]
theorem encW_len (w : Int × Int) : (encW w).length = 2 := rfl

/-- A pool: its object, its row. -/
def poolC (p r : Nat) (u : List Bool) : Ch := [(p, some (.cells [.slice (some ⟨.new r, 0⟩) u.length (some u.length)] none)), (r, some (.cells (u.map .bool) none))]

/-- The program's objects, regions, heaps. -/
structure PObj where
  id : Nat
  wid : Nat
  b : Obj
structure PReg where
  id : Nat
  pgk : Nat
  obk : Nat
  plk : Nat
  pl : O
  size : Nat
  life : Nat
  fill : Nat
  pages : List Nat
  objs : List PObj
abbrev ptrN (k : Nat) : V := .ptr (some ⟨.new k, 0⟩)
abbrev slN (k n : Nat) : V := .slice (some ⟨.new k, 0⟩) n (some n)
def PObj.O (x : PObj) : O := .cells [I x.b.at_, I x.b.kind, slN x.wid x.b.ws.length] none
def PObj.W (x : PObj) : IM.O := .cells (x.b.ws.flatMap encW) none
def PObj.ch (x : PObj) : Ch := [(x.id, some x.O), (x.wid, some x.W)]
def PReg.m (r : PReg) : Reg := ⟨r.size, r.life, r.fill, r.pages, r.objs.map (·.b)⟩
def pagesO (l : List Nat) : Option O := rowO 1 l.length (l.map fun n : Nat => I n)
def PReg.obO (l : List PObj) : Option O := rowO 1 l.length (l.map fun x => ptrN x.id)
theorem pagesO_nil : pagesO [] = none := rfl
theorem pObO_nil : PReg.obO [] = none := rfl
def PReg.hd (r : PReg) : O := .cells [I r.life, I r.size, rowV r.pgk r.pages.length, I r.fill, rowV r.obk r.objs.length, .map (some (.new r.plk))] none
def PReg.ch (r : PReg) : Ch := (r.id, some r.hd) :: (r.pgk, pagesO r.pages) :: (r.obk, PReg.obO r.objs) :: (r.plk, some r.pl) :: r.objs.flatMap PObj.ch
def PReg.ok (r : PReg) : Prop := MapIs (fun n : Int => I n) (fun a => (r.objs.find? fun x => decide ((x.b.at_ : Int) = a)).map fun x => ptrN x.id) r.pl
structure PHeap where
  id : Nat
  rowk : Nat
  lives : Nat
  regs : List PReg
  sl : List V
def PHeap.hd (pool : Nat) (h : PHeap) : O := .cells [ptrN pool, rowV h.rowk h.regs.length, I h.lives] none
def PHeap.row (h : PHeap) : Option O := rowO 1 h.regs.length (h.regs.map (fun r => ptrN r.id) ++ h.sl)
def PHeap.ch (pool : Nat) (h : PHeap) : Ch := (h.id, some (h.hd pool)) :: (h.rowk, h.row) :: h.regs.flatMap PReg.ch
/-- What is no matter of room: numbers are small. -/
structure RegOk (n : Nat) (r : Reg) : Prop where
  size : r.size ≤ 31
  life : r.life ≤ 100000
  fill : r.fill ≤ 32
  pages : ∀ p ∈ r.pages, p < n
  npages : r.pages.length ≤ 400
  nobjs : r.objs.length ≤ 100000
  ws : ∀ x ∈ r.objs, x.ws.length ≤ 31
  at_ : ∀ x ∈ r.objs, x.at_ < 2000000
  kind : ∀ x ∈ r.objs, x.kind < 256
/-- What a region's room must be. -/
structure RegB (n sz lf fl : Nat) (pgs : List Nat) : Prop where
  size : sz ≤ 31
  life : lf ≤ 100000
  fill : fl ≤ 32
  pages : ∀ p ∈ pgs, p < n
  npages : pgs.length ≤ 400
theorem RegOk.b {n : Nat} {r : Reg} (h : RegOk n r) : RegB n r.size r.life r.fill r.pages := ⟨h.size, h.life, h.fill, h.pages, h.npages⟩
structure PHeapOk (n : Nat) (h : PHeap) : Prop where
  lives : h.lives ≤ 100000
  nregs : h.regs.length ≤ 100000
  one : h.regs ≠ []
  regs : ∀ r ∈ h.regs, RegOk n r.m
  ok : ∀ r ∈ h.regs, r.ok

/-- The reference's. -/
structure RObj where
  wid : Nat
  b : Obj
structure RReg where
  pgk : Nat
  obk : Nat
  size : Nat
  life : Nat
  fill : Nat
  pages : List Nat
  objs : List RObj
def RObj.enc (x : RObj) : List V := [I x.b.at_, I x.b.kind, slN x.wid x.b.ws.length]
def RObj.ch (x : RObj) : Ch := [(x.wid, some (.cells (x.b.ws.flatMap encW) none))]
def RReg.m (r : RReg) : Reg := ⟨r.size, r.life, r.fill, r.pages, r.objs.map (·.b)⟩
def RReg.obO (l : List RObj) : Option O := rowO 3 l.length (l.flatMap RObj.enc)
theorem rObO_nil : RReg.obO [] = none := rfl
def RReg.enc (r : RReg) : List V := [I r.size, I r.life, rowV r.pgk r.pages.length, I r.fill, rowV r.obk r.objs.length]
def RReg.ch (r : RReg) : Ch := (r.pgk, pagesO r.pages) :: (r.obk, RReg.obO r.objs) :: r.objs.flatMap RObj.ch
structure RHeap where
  id : Nat
  rowk : Nat
  grown : Bool
  lives : Nat
  regs : List RReg
  sl : List V
def RHeap.rv (h : RHeap) : V := if h.grown then rowV h.rowk h.regs.length else slN h.rowk h.regs.length
def RHeap.hd (pool : Nat) (h : RHeap) : O := .cells [ptrN pool, h.rv, I h.lives] none
def RHeap.row (h : RHeap) : O := .cells (h.regs.flatMap RReg.enc ++ h.sl) (if h.grown then some 5 else none)
def RHeap.ch (pool : Nat) (h : RHeap) : Ch := (h.id, some (h.hd pool)) :: (h.rowk, some h.row) :: h.regs.flatMap RReg.ch
structure RHeapOk (n : Nat) (h : RHeap) : Prop where
  lives : h.lives ≤ 100000
  nregs : h.regs.length ≤ 100000
  one : h.regs ≠ []
  regs : ∀ r ∈ h.regs, RegOk n r.m
  sl : ∃ j, h.sl.length = j * 5

/-- A pair of heaps, with words. -/
structure PairG where
  id : Nat
  wk : Nat
  hp : PHeap
  hr : RHeap
  ws : List (Int × Int)
def PairG.hd (G : PairG) : O := .cells [ptrN G.hp.id, ptrN G.hr.id, rowV G.wk G.ws.length] none
def PairG.pc (G : PairG) : Ch := [(G.id, some G.hd), (G.wk, rowO 2 G.ws.length (G.ws.flatMap encW))]
def PairG.ch (p q : Nat) (G : PairG) : Ch := G.pc ++ (G.hp.ch p ++ G.hr.ch q)

/-- Two pools that are the same, a pair of heaps on them, and what else there is. -/
def World (p r q t : Nat) (u : List Bool) (G : PairG) (F : Ch) : Ch := poolC p r u ++ (poolC q t u ++ (G.ch p q ++ F))
set_option linter.defProp false
def HA := And.intro @I.eq_1 (And.intro @ptrN.eq_1 (And.intro @slN.eq_1 (And.intro @alloc_next (And.intro @set_next (And.intro @World.eq_1 (And.intro @PairG.ch.eq_1 (And.intro @PairG.pc.eq_1 (And.intro @PairG.hd.eq_1 (And.intro @poolC.eq_1 (And.intro @PReg.ch.eq_1 (And.intro @PHeap.ch.eq_1 (And.intro @PObj.ch.eq_1 (And.intro @RReg.ch.eq_1 (And.intro @RHeap.ch.eq_1 (And.intro @RObj.ch.eq_1 (And.intro @pagesO_nil (And.intro @pObO_nil (And.intro @rObO_nil (And.intro @List.flatMap_append.{0,0} (And.intro @List.flatMap_cons.{0,0} (And.intro @List.flatMap_nil.{0,0} (And.intro @List.append_eq.{0} (And.intro @List.append_assoc.{0} (And.intro @List.cons_append.{0} (@List.nil_append.{0})))))))))))))))))))))))))
def HB := And.intro @cnt_append (And.intro @cnt_cons (And.intro @cnt_nil (And.intro @cnt1_ff (And.intro @Option.isSome_some.{0} (@Option.isSome_none.{0})))))
def HC := And.intro @List.mem_append.{0} (And.intro @List.mem_cons.{0} (And.intro @List.not_mem_nil.{0} (And.intro @mem_some_none (And.intro @or_false (@false_or)))))
end Go.Proofs.Ytoldkemimhebaaa
