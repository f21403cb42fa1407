/- The ideal machine IM: values, stores, operations, and its run; nothing is proved here of Go. -/
import Derived.Below
import Derived.Orders
set_option linter.unusedSimpArgs false
set_option linter.unusedVariables false
namespace Go.IM

/-- A block: one that was there when the law began, or the k-th one that the machine has made. -/
inductive Id where
  | old (b : Nat)
  | new (k : Nat)
  deriving DecidableEq, Repr, Inhabited

/-- An address. -/
structure Ad where
  id : Id
  off : Nat
  deriving DecidableEq, Repr, Inhabited

/-- Values. 'any': nothing is known. A slice's capacity 'none': it goes on to the end of a row that has grown. -/
inductive V where
  | any
  | bool (b : Bool)
  | int (k : IntKind) (n : Int)
  | str (s : ByteArray)
  | ptr (a : Option Ad)
  | slice (a : Option Ad) (len : Nat) (cap : Option Nat)
  | map (r : Option Id)
  | func (f : Nat) (pre caps : List V)
  | nilFunc
  | iface (t : Nat) (v : V)
  | nilIface
  | agg (cs : List V)
  | tuple (vs : List V)
  | junk (v : Value)
  deriving Inhabited

def V.cells : V → List V
  | .agg cs => cs
  | v => [v]

/-- May the value stand in one cell? -/
def V.one : V → Bool
  | .agg _ | .tuple _ | .junk _ | .any => false
  | _ => true

inductive Xt where
  | normal
  | exit (id : Nat)
  | ret
  deriving Inhabited

/-- A loop over a function: between two rounds; in a round; left by a jump. -/
inductive LoopSt where
  | ready
  | busy
  | done (x : Xt)
  deriving Inhabited

/-- From here on numbers of functions stand for the yields of loops. -/
def yBase : Nat := 2 ^ 60

/-- Objects: a row of cells ('grown': its elements' size, if it has come of an append); a map; a loop over a function; an iterator over a map. -/
inductive O where
  | cells (cs : List V) (grown : Option Nat)
  | map (es : List (V × V × Nat)) (clock : Nat)
  | loop (st : LoopSt)
  | iter (m : Option Id)
  deriving Inhabited

/-- The store. -/
structure St where
  old : Nat → Option O
  next : Nat
  new : Nat → Option O

def St.get (s : St) : Id → Option O
  | .old b => s.old b
  | .new k => s.new k

/-- A new object. -/
def St.alloc (s : St) (o : O) : St := { s with next := s.next + 1, new := fun j => if j = s.next then some o else s.new j }

/-- An object written anew. -/
def St.set (s : St) (k : Nat) (o : O) : St := { s with new := fun j => if j = k then some o else s.new j }

/-- An object that is read no more. -/
def St.kill (s : St) (k : Nat) : St := { s with new := fun j => if j = k then none else s.new j }

def St.row (s : St) (i : Id) : Option (List V × Option Nat) :=
  match s.get i with
  | some (.cells cs g) => some (cs, g)
  | _ => none

/-- So many cells from a place on. -/
def cut (cs : List V) (off n : Nat) : Option (List V) := if off + n ≤ cs.length then some ((cs.drop off).take n) else none

/-- Cells written over others. -/
def over (cs : List V) (off : Nat) (vs : List V) : List V := cs.take off ++ vs ++ cs.drop (off + vs.length)

def readCells (s : St) (a : Ad) (n : Nat) : Option (List V) :=
  match s.row a.id with
  | some (cs, _) => cut cs a.off n
  | none => none

def writeCells (s : St) (a : Ad) (vs : List V) : Option St :=
  match a.id with
  | .old _ => none
  | .new k =>
    match s.new k with
    | some (.cells cs g) => if a.off + vs.length ≤ cs.length ∧ vs.all V.one then some (s.set k (.cells (over cs a.off vs) g)) else none
    | _ => none

/-- A store. -/
def storeI (n : Nat) (x y : V) (s : St) : Option St :=
  match x with
  | .ptr (some a) => if y.cells.length = n then writeCells s a y.cells else none
  | _ => none

/-- Cells out of an aggregate's: one value; or an aggregate of so many. -/
def partI : Option Nat → List V → Nat → Option V
  | none, cs, off => cs[off]?
  | some n, cs, off => (cut cs off n).map .agg

def packI : Option Nat → List V → Option V
  | none, cs => cs.head?
  | some _, cs => some (.agg cs)

/-- An operand. -/
inductive Arg where
  | t (i : Nat)
  | c (v : V)
  deriving Inhabited

abbrev Env := List V

def ev (e : Env) : Arg → V
  | .t i => e.getD i .any
  | .c v => v

/-- Kinds of plain cells; types of keys; types of what may be compared. -/
inductive CK where
  | i | b | s
  deriving DecidableEq, Inhabited
inductive KT where
  | one (k : CK)
  | agg (ks : List CK)
  deriving DecidableEq, Inhabited
inductive EK where
  | key (k : KT)
  | ptr | slice | map | func
  deriving DecidableEq, Inhabited

inductive IOp where
  | mov (x : Arg)
  | pick (c a b : Arg)
  | alloc (zero : List V)
  | box (x : Arg)
  | build (zero : List V) (parts : List (Nat × Nat × Arg))
  | buildSlice (len : Nat) (zero : List V) (parts : List (Nat × Nat × Arg))
  | load (n : Option Nat) (a : Arg)
  | store (n : Nat) (a v : Arg)
  | nilCheck (x : Arg)
  | bin (op : BinOp) (x y : Arg)
  | eql (neg : Bool) (k : EK) (x y : Arg)
  | un (op : UnOp) (x : Arg)
  | conv (k : IntKind) (x : Arg)
  | mkFunc (f : Nat) (pre caps : List Arg)
  | mkMap
  | mkSlice (bytes : Nat) (zero : List V) (len cap : Arg)
  | slice (sz : Nat) (x : Arg) (lo hi mx : Option Arg)
  | sliceStr (x : Arg) (lo hi : Option Arg)
  | fieldAddr (off : Nat) (x : Arg)
  | field (off : Nat) (n : Option Nat) (x : Arg)
  | indexAddr (sz : Nat) (x i : Arg)
  | indexStr (x i : Arg)
  | lookup (kt : KT) (zero : V) (ok : Bool) (m k : Arg)
  | mapSet (kt : KT) (m k v : Arg)
  | mapEnt (kt : KT) (zero : V) (m k : Arg)
  | entSet (m st v : Arg)
  | lenStr (x : Arg)
  | lenSlice (x : Arg)
  | lenMap (x : Arg)
  | append (sz bytes : Nat) (s x : Arg)
  | extract (x : Arg) (i : Nat)
  | call (f : Nat) (args : List Arg)
  | callv (f : Arg) (args : List Arg)
  | again (t : Nat) (op : IOp)
  | capSlice (x : Arg)
  | minmax (mx : Bool) (x y : Arg)
  | appendZ (sz bytes : Nat) (zero : List V) (s n : Arg)
  | clearSlice (zero : List V) (x : Arg)
  | rangeMap (m : Arg)
  | nextMap (it : Arg)
  | dead
  deriving Inhabited

structure II where
  dst : Option Nat
  op : IOp
  guard : Option (Nat × Bool)
  deriving Inhabited

/-- All operands. -/
def IOp.args : IOp → List Arg
  | .mov x | .box x | .nilCheck x | .un _ x | .conv _ x | .fieldAddr _ x | .field _ _ x | .lenStr x | .lenSlice x | .lenMap x | .extract x _ | .load _ x => [x]
  | .pick a b c => [a, b, c]
  | .alloc _ | .mkMap => []
  | .build _ ps | .buildSlice _ _ ps => ps.map fun p => p.2.2
  | .store _ a b | .bin _ a b | .eql _ _ a b | .mkSlice _ _ a b | .indexAddr _ a b | .indexStr a b | .lookup _ _ _ a b | .append _ _ a b => [a, b]
  | .mapSet _ a b c => [a, b, c]
  | .mapEnt _ _ a b => [a, b]
  | .entSet a b c => [a, b, c]
  | .mkFunc _ a b => a ++ b
  | .slice _ x a b c => x :: (a.toList ++ b.toList ++ c.toList)
  | .sliceStr x a b => x :: (a.toList ++ b.toList)
  | .call _ l => l
  | .callv f l => f :: l
  | .again t op => .t t :: op.args
  | .capSlice x | .clearSlice _ x | .rangeMap x | .nextMap x => [x]
  | .minmax _ x y | .appendZ _ _ _ x y => [x, y]
  | .dead => []

/-- The slots that are read. -/
def II.reads (i : II) : List Nat := (i.op.args.filterMap fun | .t t => some t | .c _ => none) ++ (match i.guard with | some (t, _) => [t] | none => [])

def wrapI (k : IntKind) (n : Int) : V := .int k (k.wrap n)

/-- Two numbers of one kind. -/
def intI (op : BinOp) (k : IntKind) (a b : Int) : Option V :=
  match op with
  | .add => some (wrapI k (a + b))
  | .sub => some (wrapI k (a - b))
  | .mul => some (wrapI k (a * b))
  | .quo => if b = 0 then none else some (wrapI k (a.tdiv b))
  | .rem => if b = 0 then none else some (.int k (a.tmod b))
  | .and => some (wrapI k (BitVec.ofInt k.bits a &&& BitVec.ofInt k.bits b).toNat)
  | .or => some (wrapI k (BitVec.ofInt k.bits a ||| BitVec.ofInt k.bits b).toNat)
  | .xor => some (wrapI k (BitVec.ofInt k.bits a ^^^ BitVec.ofInt k.bits b).toNat)
  | .eql => some (.bool (a == b))
  | .neq => some (.bool (a != b))
  | .lss => some (.bool (a < b))
  | .leq => some (.bool (a ≤ b))
  | .gtr => some (.bool (a > b))
  | .geq => some (.bool (a ≥ b))
  | _ => none

def binI (op : BinOp) (x y : V) : Option V :=
  match x, y with
  | .int k a, .int k' b =>
    match op with
    | .shl => if b < 0 then none else some (wrapI k (a * 2 ^ (min b.toNat k.bits)))
    | .shr => if b < 0 then none else some (.int k (a.fdiv (2 ^ (min b.toNat k.bits))))
    | _ => if k = k' then intI op k a b else none
  | .str a, .str b =>
    match op with
    | .add => if ((a.size + b.size : Nat) : Int) > IntKind.i64.max then none else some (.str (a ++ b))
    | .eql => some (.bool (a.toList == b.toList))
    | .neq => some (.bool !(a.toList == b.toList))
    | .lss => some (.bool (Op.bytesLess a.toList b.toList))
    | .leq => some (.bool (Op.bytesLess a.toList b.toList || a.toList == b.toList))
    | .gtr => some (.bool !(Op.bytesLess a.toList b.toList || a.toList == b.toList))
    | .geq => some (.bool !(Op.bytesLess a.toList b.toList))
    | _ => none
  | _, _ => none

/-- Two cells of plain data: are they the same? -/
def cellEq : CK → V → V → Option Bool
  | .b, .bool a, .bool b => some (a == b)
  | .i, .int k a, .int k' b => if k = k' then some (a == b) else none
  | .s, .str a, .str b => some (a == b)
  | _, _, _ => none

def cellsEq : List CK → List V → List V → Option Bool
  | [], [], [] => some true
  | k :: ks, x :: xs, y :: ys => (cellEq k x y).bind fun b => if b then cellsEq ks xs ys else some false
  | _, _, _ => none

def keyEq : KT → V → V → Option Bool
  | .one k, x, y => cellEq k x y
  | .agg ks, .agg xs, .agg ys => cellsEq ks xs ys
  | _, _, _ => none

/-- '=='. -/
def eqI (k : EK) (x y : V) : Option Bool :=
  match k with
  | .key k => keyEq k x y
  | .ptr => match x, y with
    | .ptr none, .ptr b => some b.isNone
    | .ptr (some _), .ptr none => some false
    | _, _ => none
  | .func => match x, y with
    | .nilFunc, .nilFunc => some true
    | .nilFunc, .func _ _ _ => some false
    | .func _ _ _, .nilFunc => some false
    | _, _ => none
  | .slice => match x, y with
    | .slice none _ _, .slice b _ _ => some b.isNone
    | .slice (some _) _ _, .slice none _ _ => some false
    | _, _ => none
  | .map => match x, y with
    | .map none, .map b => some b.isNone
    | .map (some _), .map none => some false
    | _, _ => none

def unI (op : UnOp) (x : V) : Option V :=
  match op, x with
  | .neg, .int k n => some (wrapI k (0 - n))
  | .not, .bool b => some (.bool !b)
  | _, _ => none

/-- Parts laid over cells. -/
def fillI (e : Env) (cells : List V) : List (Nat × Nat × Arg) → Option (List V)
  | [] => some cells
  | (off, size, x) :: rest =>
    if (ev e x).cells.length = size ∧ off + size ≤ cells.length ∧ (ev e x).cells.all V.one then fillI e (over cells off (ev e x).cells) rest else none

def asNat : V → Option Nat
  | .int _ n => if 0 ≤ n then some n.toNat else none
  | _ => none

/-- An entry of a map. -/
def findI (kt : KT) (k : V) : List (V × V × Nat) → Nat → Option (Option (Nat × V))
  | [], _ => some none
  | (x, v, _) :: es, i => (keyEq kt k x).bind fun b => if b then some (some (i, v)) else findI kt k es (i + 1)

def maxRow : Nat := 2 ^ 47

/-- Repeated zero cells. -/
def zeros (zero : List V) : Nat → List V
  | 0 => []
  | n + 1 => zero ++ zeros zero n

/-- The cells that are appended. -/
def newCells (s : St) (sz : Nat) : V → Option (List V × Nat)
  | .slice none 0 (some 0) => some ([], 0)
  | .slice (some a) n _ => if n = 0 then some ([], 0) else (readCells s a (n * sz)).map (·, n)
  | .str b => if sz = 1 then some (b.data.toList.map (fun x => V.int .u8 x.toNat), b.size) else none
  | _ => none

def appendI (sz bytes : Nat) (x y : V) (s : St) : Option (V × St) :=
  (newCells s sz y).bind fun p =>
  match x with
  | .slice none 0 (some 0) =>
    if p.2 = 0 then some (x, s)
    else if p.2 * bytes ≤ maxRow ∧ p.2 ≤ maxRow ∧ 0 < sz then some (.slice (some ⟨.new s.next, 0⟩) p.2 none, s.alloc (.cells p.1 (some sz)))
    else none
  | .slice (some a) len (some cap) =>
    if p.2 = 0 then some (x, s)
    else if len + p.2 ≤ cap then (writeCells s ⟨a.id, a.off + len * sz⟩ p.1).map fun s' => (.slice (some a) (len + p.2) (some cap), s')
    else if (len + p.2) * bytes ≤ maxRow ∧ len + p.2 ≤ maxRow ∧ 0 < sz then
      (readCells s a (len * sz)).map fun was => (.slice (some ⟨.new s.next, 0⟩) (len + p.2) none, s.alloc (.cells (was ++ p.1) (some sz)))
    else none
  | .slice (some a) len none =>
    if p.2 = 0 then some (x, s) else
    match a.id with
    | .old _ => none
    | .new k =>
      match s.new k with
      | some (.cells cs (some g)) =>
        if g = sz ∧ a.off = 0 ∧ (len + p.2) * sz ≤ cs.length then (writeCells s ⟨.new k, len * sz⟩ p.1).map fun s' => (.slice (some a) (len + p.2) none, s')
        else if g = sz ∧ a.off = 0 ∧ len * sz = cs.length ∧ (len + p.2) * bytes ≤ maxRow ∧ len + p.2 ≤ maxRow ∧ p.1.all V.one then
          some (.slice (some ⟨.new s.next, 0⟩) (len + p.2) none, (s.kill k).alloc (.cells (cs ++ p.1) (some sz)))
        else none
      | _ => none
  | _ => none

/-- An append of known cells. -/
def appendC (sz bytes : Nat) (x : V) (p : List V × Nat) (s : St) : Option (V × St) :=
  match x with
  | .slice none 0 (some 0) =>
    if p.2 = 0 then some (x, s)
    else if p.2 * bytes ≤ maxRow ∧ p.2 ≤ maxRow ∧ 0 < sz then some (.slice (some ⟨.new s.next, 0⟩) p.2 none, s.alloc (.cells p.1 (some sz)))
    else none
  | .slice (some a) len (some cap) =>
    if p.2 = 0 then some (x, s)
    else if len + p.2 ≤ cap then (writeCells s ⟨a.id, a.off + len * sz⟩ p.1).map fun s' => (.slice (some a) (len + p.2) (some cap), s')
    else if (len + p.2) * bytes ≤ maxRow ∧ len + p.2 ≤ maxRow ∧ 0 < sz then
      (readCells s a (len * sz)).map fun was => (.slice (some ⟨.new s.next, 0⟩) (len + p.2) none, s.alloc (.cells (was ++ p.1) (some sz)))
    else none
  | .slice (some a) len none =>
    if p.2 = 0 then some (x, s) else
    match a.id with
    | .old _ => none
    | .new k =>
      match s.new k with
      | some (.cells cs (some g)) =>
        if g = sz ∧ a.off = 0 ∧ (len + p.2) * sz ≤ cs.length then (writeCells s ⟨.new k, len * sz⟩ p.1).map fun s' => (.slice (some a) (len + p.2) none, s')
        else if g = sz ∧ a.off = 0 ∧ len * sz = cs.length ∧ (len + p.2) * bytes ≤ maxRow ∧ len + p.2 ≤ maxRow ∧ p.1.all V.one then
          some (.slice (some ⟨.new s.next, 0⟩) (len + p.2) none, (s.kill k).alloc (.cells (cs ++ p.1) (some sz)))
        else none
      | _ => none
  | _ => none

def sliceStrI (x : V) (lo hi : Option V) : Option V :=
  match x with
  | .str s =>
    (match hi with | some v => (asNat v).bind fun h => if h ≤ s.size then some h else none | none => some s.size).bind fun h =>
    (match lo with | some v => (asNat v).bind fun l => if l ≤ h then some l else none | none => some 0).bind fun l =>
    some (.str (s.extract l h))
  | _ => none

def sliceI (sz : Nat) (x : V) (lo hi mx : Option V) : Option V :=
  match x with
  | .slice a len (some cap) =>
    (match mx with | some v => (asNat v).bind fun m => if m ≤ cap then some m else none | none => some cap).bind fun m =>
    (match hi with | some v => (asNat v).bind fun h => if h ≤ m then some h else none | none => if mx.isSome then none else some len).bind fun h =>
    (match lo with | some v => (asNat v).bind fun l => if l ≤ h then some l else none | none => some 0).bind fun l =>
    if h ≤ m then some (.slice (if m = l then a else a.map fun (a : Ad) => ⟨a.id, a.off + l * sz⟩) (h - l) (some (m - l))) else none
  | .slice (some a) len none =>
    (match mx with | some v => (asNat v).bind fun m => if m ≤ len then some m else none | none => some len).bind fun m =>
    (match hi with | some v => (asNat v).bind fun h => if h ≤ m then some h else none | none => if mx.isSome then none else some len).bind fun h =>
    (match lo with | some v => (asNat v).bind fun l => if l ≤ h then some l else none | none => some 0).bind fun l =>
    if h ≤ m ∧ (l = 0 ∨ 0 < sz) then some (.slice (some ⟨a.id, a.off + l * sz⟩) (h - l) (if mx.isSome then some (m - l) else none)) else none
  | _ => none

def lookupI (kt : KT) (zero : V) (ok : Bool) (m k : V) (s : St) : Option V :=
  (match m with
   | .map none => some []
   | .map (some i) => match s.get i with | some (.map es _) => some es | _ => none
   | _ => none).bind fun es =>
  if (keyEq kt k k).isNone then none else
  (findI kt k es 0).bind fun r =>
  let p : V × Bool := match r with | some (_, v) => (v, true) | none => (zero, false)
  some (if ok then .tuple [p.1, .bool p.2] else p.1)

def mapSetI (kt : KT) (m k v : V) (s : St) : Option St :=
  match m with
  | .map (some (.new b)) =>
    match s.new b with
    | some (.map es clock) =>
      if (keyEq kt k k).isNone then none else
      (findI kt k es 0).map fun
        | some (i, _) => s.set b (.map (es.modify i fun e => (k, v, e.2.2)) clock)
        | none => s.set b (.map (es ++ [(k, v, clock)]) (clock + 1))
    | _ => none
  | _ => none

/-- An entry of a map, made if there is none: what it has, and its stamp. -/
def mapEntI (kt : KT) (zero m k : V) (s : St) : Option (V × St) :=
  match m with
  | .map (some (.new b)) =>
    match s.new b with
    | some (.map es clock) =>
      if (keyEq kt k k).isNone then none else
      (findI kt k es 0).map fun
        | some (i, v) => (.tuple [v, .int .i64 (((es[i]?).map (·.2.2)).getD 0 : Nat)], s.set b (.map (es.modify i fun e => (k, e.2.1, e.2.2)) clock))
        | none => (.tuple [zero, .int .i64 (clock : Nat)], s.set b (.map (es ++ [(k, zero, clock)]) (clock + 1)))
    | _ => none
  | _ => none

/-- An entry is set, by its stamp. -/
def entSetI (m st v : V) (s : St) : Option St :=
  match m, st with
  | .map (some (.new b)), .int _ born =>
    match s.new b with
    | some (.map es clock) => (es.findIdx? fun e => (e.2.2 : Int) == born).map fun i => s.set b (.map (es.modify i fun e => (e.1, v, e.2.2)) clock)
    | _ => none
  | _, _ => none

def lenMapI (x : V) (s : St) : Option V :=
  match x with
  | .map none => some (.int .i64 0)
  | .map (some i) => match s.get i with | some (.map es _) => some (.int .i64 es.length) | _ => none
  | _ => none

/-- An append of so many zeros. -/
def appendZI (sz bytes : Nat) (zero : List V) (x n : V) (s : St) : Option (V × St) := (asNat n).bind fun n => if n ≤ maxRow ∧ n * bytes ≤ maxRow then appendC sz bytes x (zeros zero n, n) s else none

/-- A slice's cells set to zero. -/
def clearI (zero : List V) (x : V) (s : St) : Option St :=
  match x with
  | .slice _ 0 _ => some s
  | .slice (some a) n _ => writeCells s a (zeros zero n)
  | _ => none

/-- An iterator over a map. -/
def iterI (m : V) (s : St) : Option (V × St) :=
  match m with
  | .map none => some (.ptr (some ⟨.new s.next, 0⟩), s.alloc (.iter none))
  | .map (some i) => match s.get i with
    | some (.map _ _) => some (.ptr (some ⟨.new s.next, 0⟩), s.alloc (.iter (some i)))
    | _ => none
  | _ => none

/-- Its first step, where the map is empty. -/
def nextI (x : V) (s : St) : Option V :=
  match x with
  | .ptr (some ⟨.new k, 0⟩) => match s.new k with
    | some (.iter none) => some (.tuple [.bool false])
    | some (.iter (some i)) => match s.get i with
      | some (.map [] _) => some (.tuple [.bool false])
      | _ => none
    | _ => none
  | _ => none

mutual
/-- Are two values surely the same? -/
def beqV : V → V → Bool
  | .bool a, .bool b => a == b
  | .int k a, .int k' b => k == k' && a == b
  | .str a, .str b => a == b
  | .ptr a, .ptr b => a == b
  | .slice a n c, .slice a' n' c' => a == a' && n == n' && c == c'
  | .map a, .map b => a == b
  | .func f p c, .func f' p' c' => f == f' && beqVs p p' && beqVs c c'
  | .nilFunc, .nilFunc => true
  | .iface t x, .iface t' y => t == t' && beqV x y
  | .nilIface, .nilIface => true
  | .agg a, .agg b => beqVs a b
  | .tuple a, .tuple b => beqVs a b
  | _, _ => false
def beqVs : List V → List V → Bool
  | [], [] => true
  | x :: xs, y :: ys => beqV x y && beqVs xs ys
  | _, _ => false
end

/-- What an operation does with the store: nothing; it looks; it makes; it acts. -/
inductive Kind where
  | p | l | a | s
  deriving DecidableEq

def IOp.kind : IOp → Kind
  | .store _ _ _ | .mapSet _ _ _ _ | .mapEnt _ _ _ _ | .entSet _ _ _ | .append _ _ _ _ | .call _ _ | .callv _ _ | .appendZ _ _ _ _ _ | .clearSlice _ _ | .rangeMap _ | .nextMap _ | .dead => .s
  | .load _ _ | .lookup _ _ _ _ _ | .lenMap _ | .again _ _ => .l
  | .alloc _ | .box _ | .buildSlice _ _ _ | .mkMap | .mkSlice _ _ _ _ => .a
  | _ => .p

/-- An operation that has nothing to do with the store. -/
def evalP (op : IOp) (e : Env) : Option V :=
  match op with
  | .mov x => some (ev e x)
  | .pick c a b => match ev e c with | .bool t => some (if t then ev e a else ev e b) | _ => none
  | .build zero parts => (fillI e zero parts).map .agg
  | .nilCheck x => match ev e x with
    | .ptr (some a) => some (.ptr (some a))
    | .func f p c => some (.func f p c)
    | _ => none
  | .bin op x y => binI op (ev e x) (ev e y)
  | .eql neg k x y => (eqI k (ev e x) (ev e y)).map fun b => .bool (if neg then !b else b)
  | .un op x => unI op (ev e x)
  | .conv k x => match ev e x with | .int _ n => some (wrapI k n) | _ => none
  | .mkFunc f pre caps => some (.func f (pre.map (ev e)) (caps.map (ev e)))
  | .sliceStr x lo hi => sliceStrI (ev e x) (lo.map (ev e)) (hi.map (ev e))
  | .lenStr x => match ev e x with | .str b => some (.int .i64 b.size) | _ => none
  | .lenSlice x => match ev e x with | .slice _ n _ => some (.int .i64 n) | _ => none
  | .slice sz x lo hi mx => sliceI sz (ev e x) (lo.map (ev e)) (hi.map (ev e)) (mx.map (ev e))
  | .fieldAddr off x => match ev e x with | .ptr (some a) => some (.ptr (some ⟨a.id, a.off + off⟩)) | _ => none
  | .field off n x => match ev e x with | .agg cs => partI n cs off | _ => none
  | .indexAddr sz x i => match ev e x with
    | .slice (some a) len _ => (asNat (ev e i)).bind fun n => if n < len then some (.ptr (some ⟨a.id, a.off + n * sz⟩)) else none
    | _ => none
  | .indexStr x i => match ev e x with
    | .str b => (asNat (ev e i)).bind fun n => (b[n]?).map fun c => .int .u8 c.toNat
    | _ => none
  | .extract x i => match ev e x with | .tuple vs => vs[i]? | _ => none
  | .capSlice x => match ev e x with | .slice _ _ (some c) => some (.int .i64 c) | _ => none
  | .minmax mx x y => match ev e x, ev e y with | .int k a, .int k' b => if k = k' then some (.int k (if mx then (if b > a then b else a) else (if b < a then b else a))) else none | _, _ => none
  | _ => none

/-- An operation that looks into the store. -/
def evalLook (op : IOp) (e : Env) (s : St) : Option V :=
  match op with
  | .load n a => match ev e a with | .ptr (some a) => (readCells s a (n.getD 1)).bind (packI n) | _ => none
  | .lookup kt zero ok m k => lookupI kt zero ok (ev e m) (ev e k) s
  | .lenMap x => lenMapI (ev e x) s
  | _ => none

def evalL (op : IOp) (e : Env) (s : St) : Option V :=
  match op with
  | .again t op => (evalLook op e s).bind fun v => if beqV v (ev e (.t t)) then some .any else none
  | op => evalLook op e s

/-- An operation that makes an object: the object, and the value for its number. -/
def evalA (op : IOp) (e : Env) : Option (O × (Nat → V)) :=
  match op with
  | .alloc zero => some (.cells zero none, fun k => .ptr (some ⟨.new k, 0⟩))
  | .box x => if (ev e x).cells.all V.one then some (.cells (ev e x).cells none, fun k => .ptr (some ⟨.new k, 0⟩)) else none
  | .buildSlice len zero parts => (fillI e zero parts).map fun cs => (.cells cs none, fun k => .slice (some ⟨.new k, 0⟩) len (some len))
  | .mkMap => some (.map [] 0, fun k => .map (some (.new k)))
  | .mkSlice bytes zero len cap =>
    (asNat (ev e len)).bind fun l => (asNat (ev e cap)).bind fun c =>
    if l ≤ c ∧ c * bytes ≤ maxRow ∧ c ≤ maxRow then some (.cells (zeros zero c) none, fun k => .slice (some ⟨.new k, 0⟩) l (some c)) else none
  | _ => none

/-- An operation that acts, and is no call. -/
def evalS (op : IOp) (e : Env) (s : St) : Option (V × St) :=
  match op with
  | .store n a v => (storeI n (ev e a) (ev e v) s).map fun s1 => (V.any, s1)
  | .mapSet kt m k v => (mapSetI kt (ev e m) (ev e k) (ev e v) s).map fun s1 => (V.any, s1)
  | .mapEnt kt z m k => mapEntI kt z (ev e m) (ev e k) s
  | .entSet m st v => (entSetI (ev e m) (ev e st) (ev e v) s).map fun s1 => (V.any, s1)
  | .append sz bytes x y => appendI sz bytes (ev e x) (ev e y) s
  | .appendZ sz bytes z x n => appendZI sz bytes z (ev e x) (ev e n) s
  | .clearSlice z x => (clearI z (ev e x) s).map fun s1 => (V.any, s1)
  | .rangeMap m => iterI (ev e m) s
  | .nextMap x => (nextI (ev e x) s).map fun v => (v, s)
  | _ => none

/-- An operation that is no call. -/
def evalOp (op : IOp) (e : Env) (s : St) : Option (V × St) :=
  match op.kind with
  | .p => (evalP op e).map fun v => (v, s)
  | .l => (evalL op e s).map fun v => (v, s)
  | .a => (evalA op e).map fun x => (x.2 s.next, s.alloc x.1)
  | .s => evalS op e s

def put (e : Env) (dst : Option Nat) (v : V) : Env :=
  match dst with
  | some d => e.set d v
  | none => e

abbrev Res := Option (V × St)
/-- The calls that a machine can make. -/
abbrev CallT := Nat → List V → St → Res

/-- What stands for the result of an operation that was passed over. -/
abbrev skipV : V := .tuple []

/-- Is an operation wanted? -/
def wantedI (e : Env) : Option (Nat × Bool) → Option Bool
  | none => some true
  | some (t, want) => match e.getD t .any with | .bool b => some (b == want) | .tuple _ => some false | _ => none

/-- One operation, calls too. -/
def execI (C : CallT) (op : IOp) (e : Env) (s : St) : Res :=
  match op with
  | .call f args => C f (args.map (ev e)) s
  | .callv f args => match ev e f with
    | .func g pre caps => C g (pre ++ args.map (ev e) ++ caps) s
    | _ => none
  | op => evalOp op e s

def stepI (C : CallT) (i : II) (e : Env) (s : St) : Option (Env × St) :=
  match wantedI e i.guard with
  | some true => (execI C i.op e s).map fun p => (put e i.dst p.1, p.2)
  | some false => some (put e i.dst skipV, s)
  | none => none

def goOps (C : CallT) : List II → Env → St → (Env → St → Res) → Res
  | [], e, s, K => K e s
  | i :: r, e, s, K => (stepI C i e s).bind fun p => goOps C r p.1 p.2 K

/-- Code. A region's 'keep': which slots are still looked at behind it. -/
inductive IC where
  | skip
  | region (ops : List II) (keep : List Bool)
  | seq (a b : IC)
  | cond (c : Arg) (a b : IC)
  | block (id : Nat) (a : IC)
  | loop (a : IC)
  | range (f : Arg) (ps : List Nat) (a b : IC)
  | exit (id : Nat)
  | ret
  | dead
  | dfr (f : Arg) (args : List Arg) (a : IC)
  deriving Inhabited

/-- What is not kept is forgotten. -/
def maskEnv : List Bool → Env → Env
  | b :: bs, v :: e => (if b then v else .any) :: maskEnv bs e
  | [], e => e
  | _, [] => []

abbrev Kt := Xt → Env → St → Res

/-- Behind code at whose end a call is made that was put off. -/
def dfrK (C : CallT) (g : Nat) (as : List V) (K : Kt) : Kt
  | .exit _, _, _ => none
  | x, e, s => (C g as s).bind fun p => K x e p.2

def go (L : IC → Env → St → Kt → Res) (C : CallT) : IC → Env → St → Kt → Res
  | .skip, e, s, K => K .normal e s
  | .region ops keep, e, s, K => goOps C ops e s fun e s => K .normal (maskEnv keep e) s
  | .seq a b, e, s, K => go L C a e s fun
    | .normal, e, s => go L C b e s K
    | .exit i, e, s => K (.exit i) e s
    | .ret, e, s => K .ret e s
  | .cond c a b, e, s, K => match ev e c with
    | .bool true => go L C a e s K
    | .bool false => go L C b e s K
    | _ => none
  | .block id a, e, s, K => go L C a e s fun
    | .normal, e, s => K .normal e s
    | .exit i, e, s => if i = id then K .normal e s else K (.exit i) e s
    | .ret, e, s => K .ret e s
  | .loop a, e, s, K => go L C a e s fun
    | .normal, e, s => L (.loop a) e s K
    | .exit i, e, s => K (.exit i) e s
    | .ret, e, s => K .ret e s
  | .range f ps a b, e, s, K => L (.range f ps a b) e s K
  | .exit i, e, s, K => K (.exit i) e s
  | .ret, e, s, K => K .ret e s
  | .dead, _, _, _ => none
  | .dfr f args a, e, s, K => match ev e f with
    | .func g pre caps => if g < yBase then go L C a e s (dfrK C g (pre ++ args.map (ev e) ++ caps) K) else none
    | _ => none

/-- A function: how many slots; where its results are (in a slot; or in memory, so many cells of an aggregate, to which the slot points); its code. -/
structure IFn where
  ntmps : Nat
  results : List (Nat × Option (Option Nat))
  body : IC
  deriving Inhabited

def resultsI (e : Env) (s : St) : List (Nat × Option (Option Nat)) → Option (List V)
  | [] => some []
  | (t, none) :: l => (resultsI e s l).map fun vs => e.getD t .any :: vs
  | (t, some n) :: l => (evalLook (.load n (.t t)) e s).bind fun v => (resultsI e s l).map fun vs => v :: vs

def packRes : List V → V
  | [v] => v
  | vs => .tuple vs

def fin (fn : IFn) : Kt
  | .exit _, _, _ => none
  | _, e, s => (resultsI e s fn.results).map fun vs => (packRes vs, s)

def initEnv (fn : IFn) (args : List V) : Env := args ++ List.replicate (fn.ntmps - args.length) .any

/-- What calls of yield do, by the loop's number. -/
abbrev Yt := Nat → List V → St → Res
abbrev LT := IC → Env → St → Kt → Res
def noY : Yt := fun _ _ _ => none

def putAll (e : Env) : List Nat → List V → Env
  | p :: ps, v :: vs => putAll (e.set p v) ps vs
  | _, _ => e

/-- At a round's end. -/
def endSt : Xt → LoopSt
  | .normal => .ready
  | x => .done x
def Xt.off : Xt → Bool
  | .normal => true
  | _ => false
def roundEnd (k : Nat) : Kt := fun x _ t => match t.new k with
  | some (.loop .busy) => some (.bool x.off, t.set k (.loop (endSt x)))
  | _ => none
/-- Behind a round's assignments. -/
def roundMid (M : LT × CallT) (b : IC) (k : Nat) : Kt
  | .normal, e, t => match t.new k with
    | some (.loop .ready) => go M.1 M.2 b e (t.set k (.loop .busy)) (roundEnd k)
    | _ => none
  | _, _, _ => none
/-- A round of a loop over a function. -/
def roundI (M : LT × CallT) (ps : List Nat) (a b : IC) (e : Env) (k : Nat) (args : List V) (t : St) : Res :=
  if args.length = ps.length then
    match t.new k with
    | some (.loop .ready) => go M.1 M.2 a (putAll e ps args) t (roundMid M b k)
    | _ => none
  else none

def withY (Y : Yt) (k : Nat) (f : List V → St → Res) : Yt := fun j args t => if j = k then f args t else Y j args t

/-- Behind a loop over a function. -/
def rangeEnd (k : Nat) (e : Env) (K : Kt) (p : V × St) : Res :=
  match p.2.new k with
  | some (.loop .ready) => K .normal e (p.2.kill k)
  | some (.loop (.done (.exit i))) => K (.exit i) e (p.2.kill k)
  | some (.loop (.done .ret)) => K .ret e (p.2.kill k)
  | _ => none

/-- A loop over a function. -/
def rangeI (M : Yt → LT × CallT) (Y : Yt) (f : Arg) (ps : List Nat) (a b : IC) (e : Env) (s : St) (K : Kt) : Res :=
  match ev e f with
  | .func g pre caps =>
    if g < yBase then
      ((M (withY Y s.next (roundI (M Y) ps a b e s.next))).2 g (pre ++ [.func (yBase + s.next) [] []] ++ caps) (s.alloc (.loop .ready))).bind (rangeEnd s.next e K)
    else none
  | _ => none

/-- The machine, with so many rounds and calls deep. -/
def LC (F : Nat → Option IFn) : Nat → Yt → LT × CallT
  | 0, _ => (fun _ _ _ _ => none, fun _ _ _ => none)
  | n + 1, Y => (fun c e s K => match c with
      | .range f ps a b => rangeI (LC F n) Y f ps a b e s K
      | c => go (LC F n Y).1 (LC F n Y).2 c e s K,
    fun f args s => if f < yBase then (match F f with
      | some fn => go (LC F n Y).1 (LC F n Y).2 fn.body (initEnv fn args) s (fin fn)
      | none => none) else Y (f - yBase) args s)

end Go.IM
