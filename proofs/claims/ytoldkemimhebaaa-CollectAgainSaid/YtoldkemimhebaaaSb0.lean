/- Texts Im0, Im1, Im2, Im3, Im4, Im5, Im6, Im7, Im8, Im9. -/
import Derived.Below
import Derived.Orders
import Derived.WalkKit
import Derived.Laws.CopyRow
import Derived.Laws.Append
import Derived.Laws.CopyOwn
import Derived.ChangeKeysEq
import Derived.OrdersIn
import Derived.RangeFuncLeaves

set_option linter.unusedSimpArgs false
set_option linter.unusedVariables false
namespace Go.IM
inductive Id where
  | old (b : Nat)
  | new (k : Nat)
  deriving DecidableEq, Repr, Inhabited
structure Ad where
  id : Id
  off : Nat
  deriving DecidableEq, Repr, Inhabited
inductive V where
  | any
  | bool (b : Bool)
  | int (k : IntKind) (n : Int)
  | str (s : ByteArray)
  | ptr (a : Option Ad)
  | slice (a : Option Ad) (len : Nat) (cap : Option Nat)
  | map (r : Option Id)
  | func (f : Nat) (pre caps : List V)
  | nilFunc
  | iface (t : Nat) (v : V)
  | nilIface
  | agg (cs : List V)
  | tuple (vs : List V)
  | junk (v : Value)
  deriving Inhabited
def V.cells : V → List V
  | .agg cs => cs
  | v => [v]
def V.one : V → Bool
  | .agg _ | .tuple _ | .junk _ | .any => false
  | _ => true
inductive Xt where
  | normal
  | exit (id : Nat)
  | ret
  deriving Inhabited
inductive LoopSt where
  | ready
  | busy
  | done (x : Xt)
  deriving Inhabited
def yBase : Nat := 2 ^ 60
inductive O where
  | cells (cs : List V) (grown : Option Nat)
  | map (es : List (V × V × Nat)) (clock : Nat)
  | loop (st : LoopSt)
  deriving Inhabited
structure St where
  old : Nat → Option O
  next : Nat
  new : Nat → Option O
def St.get (s : St) : Id → Option O
  | .old b => s.old b
  | .new k => s.new k
def St.alloc (s : St) (o : O) : St := { s with next := s.next + 1, new := fun j => if j = s.next then some o else s.new j }
def St.set (s : St) (k : Nat) (o : O) : St := { s with new := fun j => if j = k then some o else s.new j }
def St.kill (s : St) (k : Nat) : St := { s with new := fun j => if j = k then none else s.new j }
def St.row (s : St) (i : Id) : Option (List V × Option Nat) :=
  match s.get i with
  | some (.cells cs g) => some (cs, g)
  | _ => none
def cut (cs : List V) (off n : Nat) : Option (List V) := if off + n ≤ cs.length then some ((cs.drop off).take n) else none
def over (cs : List V) (off : Nat) (vs : List V) : List V := cs.take off ++ vs ++ cs.drop (off + vs.length)
def readCells (s : St) (a : Ad) (n : Nat) : Option (List V) :=
  match s.row a.id with
  | some (cs, _) => cut cs a.off n
  | none => none
def writeCells (s : St) (a : Ad) (vs : List V) : Option St :=
  match a.id with
  | .old _ => none
  | .new k =>
    match s.new k with
    | some (.cells cs g) => if a.off + vs.length ≤ cs.length ∧ vs.all V.one then some (s.set k (.cells (over cs a.off vs) g)) else none
    | _ => none
def storeI (n : Nat) (x y : V) (s : St) : Option St :=
  match x with
  | .ptr (some a) => if y.cells.length = n then writeCells s a y.cells else none
  | _ => none
def partI : Option Nat → List V → Nat → Option V
  | none, cs, off => cs[off]?
  | some n, cs, off => (cut cs off n).map .agg
def packI : Option Nat → List V → Option V
  | none, cs => cs.head?
  | some _, cs => some (.agg cs)
inductive Arg where
  | t (i : Nat)
  | c (v : V)
  deriving Inhabited
abbrev Env := List V
def ev (e : Env) : Arg → V
  | .t i => e.getD i .any
  | .c v => v
inductive CK where
  | i | b | s
  deriving DecidableEq, Inhabited
inductive KT where
  | one (k : CK)
  | agg (ks : List CK)
  deriving DecidableEq, Inhabited
inductive EK where
  | key (k : KT)
  | ptr | slice | map | func
  deriving DecidableEq, Inhabited
inductive IOp where
  | mov (x : Arg)
  | pick (c a b : Arg)
  | alloc (zero : List V)
  | box (x : Arg)
  | build (zero : List V) (parts : List (Nat × Nat × Arg))
  | buildSlice (len : Nat) (zero : List V) (parts : List (Nat × Nat × Arg))
  | load (n : Option Nat) (a : Arg)
  | store (n : Nat) (a v : Arg)
  | nilCheck (x : Arg)
  | bin (op : BinOp) (x y : Arg)
  | eql (neg : Bool) (k : EK) (x y : Arg)
  | un (op : UnOp) (x : Arg)
  | conv (k : IntKind) (x : Arg)
  | mkFunc (f : Nat) (pre caps : List Arg)
  | mkMap
  | mkSlice (bytes : Nat) (zero : List V) (len cap : Arg)
  | slice (sz : Nat) (x : Arg) (lo hi mx : Option Arg)
  | sliceStr (x : Arg) (lo hi : Option Arg)
  | fieldAddr (off : Nat) (x : Arg)
  | field (off : Nat) (n : Option Nat) (x : Arg)
  | indexAddr (sz : Nat) (x i : Arg)
  | indexStr (x i : Arg)
  | lookup (kt : KT) (zero : V) (ok : Bool) (m k : Arg)
  | mapSet (kt : KT) (m k v : Arg)
  | mapEnt (kt : KT) (zero : V) (m k : Arg)
  | entSet (m st v : Arg)
  | lenStr (x : Arg)
  | lenSlice (x : Arg)
  | lenMap (x : Arg)
  | append (sz bytes : Nat) (s x : Arg)
  | extract (x : Arg) (i : Nat)
  | call (f : Nat) (args : List Arg)
  | callv (f : Arg) (args : List Arg)
  | again (t : Nat) (op : IOp)
  deriving Inhabited
structure II where
  dst : Option Nat
  op : IOp
  guard : Option (Nat × Bool)
  deriving Inhabited
def IOp.args : IOp → List Arg
  | .mov x | .box x | .nilCheck x | .un _ x | .conv _ x | .fieldAddr _ x | .field _ _ x | .lenStr x | .lenSlice x | .lenMap x | .extract x _ | .load _ x => [x]
  | .pick a b c => [a, b, c]
  | .alloc _ | .mkMap => []
  | .build _ ps | .buildSlice _ _ ps => ps.map fun p => p.2.2
  | .store _ a b | .bin _ a b | .eql _ _ a b | .mkSlice _ _ a b | .indexAddr _ a b | .indexStr a b | .lookup _ _ _ a b | .append _ _ a b => [a, b]
  | .mapSet _ a b c => [a, b, c]
  | .mapEnt _ _ a b => [a, b]
  | .entSet a b c => [a, b, c]
  | .mkFunc _ a b => a ++ b
  | .slice _ x a b c => x :: (a.toList ++ b.toList ++ c.toList)
  | .sliceStr x a b => x :: (a.toList ++ b.toList)
  | .call _ l => l
  | .callv f l => f :: l
  | .again t op => .t t :: op.args
def II.reads (i : II) : List Nat := (i.op.args.filterMap fun | .t t => some t | .c _ => none) ++ (match i.guard with | some (t, _) => [t] | none => [])
def wrapI (k : IntKind) (n : Int) : V := .int k (k.wrap n)
def intI (op : BinOp) (k : IntKind) (a b : Int) : Option V :=
  match op with
  | .add => some (wrapI k (a + b))
  | .sub => some (wrapI k (a - b))
  | .mul => some (wrapI k (a * b))
  | .quo => if b = 0 then none else some (wrapI k (a.tdiv b))
  | .rem => if b = 0 then none else some (.int k (a.tmod b))
  | .and => some (wrapI k (BitVec.ofInt k.bits a &&& BitVec.ofInt k.bits b).toNat)
  | .or => some (wrapI k (BitVec.ofInt k.bits a ||| BitVec.ofInt k.bits b).toNat)
  | .xor => some (wrapI k (BitVec.ofInt k.bits a ^^^ BitVec.ofInt k.bits b).toNat)
  | .eql => some (.bool (a == b))
  | .neq => some (.bool (a != b))
  | .lss => some (.bool (a < b))
  | .leq => some (.bool (a ≤ b))
  | .gtr => some (.bool (a > b))
  | .geq => some (.bool (a ≥ b))
  | _ => none
def binI (op : BinOp) (x y : V) : Option V :=
  match x, y with
  | .int k a, .int k' b =>
    match op with
    | .shl => if b < 0 then none else some (wrapI k (a * 2 ^ (min b.toNat k.bits)))
    | .shr => if b < 0 then none else some (.int k (a.fdiv (2 ^ (min b.toNat k.bits))))
    | _ => if k = k' then intI op k a b else none
  | .str a, .str b =>
    match op with
    | .add => if ((a.size + b.size : Nat) : Int) > IntKind.i64.max then none else some (.str (a ++ b))
    | .eql => some (.bool (a.toList == b.toList))
    | .neq => some (.bool !(a.toList == b.toList))
    | .lss => some (.bool (Op.bytesLess a.toList b.toList))
    | .leq => some (.bool (Op.bytesLess a.toList b.toList || a.toList == b.toList))
    | .gtr => some (.bool !(Op.bytesLess a.toList b.toList || a.toList == b.toList))
    | .geq => some (.bool !(Op.bytesLess a.toList b.toList))
    | _ => none
  | _, _ => none
def cellEq : CK → V → V → Option Bool
  | .b, .bool a, .bool b => some (a == b)
  | .i, .int k a, .int k' b => if k = k' then some (a == b) else none
  | .s, .str a, .str b => some (a == b)
  | _, _, _ => none
def cellsEq : List CK → List V → List V → Option Bool
  | [], [], [] => some true
  | k :: ks, x :: xs, y :: ys => (cellEq k x y).bind fun b => if b then cellsEq ks xs ys else some false
  | _, _, _ => none
def keyEq : KT → V → V → Option Bool
  | .one k, x, y => cellEq k x y
  | .agg ks, .agg xs, .agg ys => cellsEq ks xs ys
  | _, _, _ => none
def eqI (k : EK) (x y : V) : Option Bool :=
  match k with
  | .key k => keyEq k x y
  | .ptr => match x, y with
    | .ptr none, .ptr b => some b.isNone
    | .ptr (some _), .ptr none => some false
    | _, _ => none
  | .func => match x, y with
    | .nilFunc, .nilFunc => some true
    | .nilFunc, .func _ _ _ => some false
    | .func _ _ _, .nilFunc => some false
    | _, _ => none
  | .slice => match x, y with
    | .slice none _ _, .slice b _ _ => some b.isNone
    | .slice (some _) _ _, .slice none _ _ => some false
    | _, _ => none
  | .map => match x, y with
    | .map none, .map b => some b.isNone
    | .map (some _), .map none => some false
    | _, _ => none
def unI (op : UnOp) (x : V) : Option V :=
  match op, x with
  | .neg, .int k n => some (wrapI k (0 - n))
  | .not, .bool b => some (.bool !b)
  | _, _ => none
def fillI (e : Env) (cells : List V) : List (Nat × Nat × Arg) → Option (List V)
  | [] => some cells
  | (off, size, x) :: rest =>
    if (ev e x).cells.length = size ∧ off + size ≤ cells.length ∧ (ev e x).cells.all V.one then fillI e (over cells off (ev e x).cells) rest else none
def asNat : V → Option Nat
  | .int _ n => if 0 ≤ n then some n.toNat else none
  | _ => none
def findI (kt : KT) (k : V) : List (V × V × Nat) → Nat → Option (Option (Nat × V))
  | [], _ => some none
  | (x, v, _) :: es, i => (keyEq kt k x).bind fun b => if b then some (some (i, v)) else findI kt k es (i + 1)
def maxRow : Nat := 2 ^ 47
def zeros (zero : List V) : Nat → List V
  | 0 => []
  | n + 1 => zero ++ zeros zero n
def newCells (s : St) (sz : Nat) : V → Option (List V × Nat)
  | .slice none 0 (some 0) => some ([], 0)
  | .slice (some a) n _ => if n = 0 then some ([], 0) else (readCells s a (n * sz)).map (·, n)
  | .str b => if sz = 1 then some (b.data.toList.map (fun x => V.int .u8 x.toNat), b.size) else none
  | _ => none
def appendI (sz bytes : Nat) (x y : V) (s : St) : Option (V × St) :=
  (newCells s sz y).bind fun p =>
  match x with
  | .slice none 0 (some 0) =>
    if p.2 = 0 then some (x, s)
    else if p.2 * bytes ≤ maxRow ∧ p.2 ≤ maxRow ∧ 0 < sz then some (.slice (some ⟨.new s.next, 0⟩) p.2 none, s.alloc (.cells p.1 (some sz)))
    else none
  | .slice (some a) len (some cap) =>
    if p.2 = 0 then some (x, s)
    else if len + p.2 ≤ cap then (writeCells s ⟨a.id, a.off + len * sz⟩ p.1).map fun s' => (.slice (some a) (len + p.2) (some cap), s')
    else if (len + p.2) * bytes ≤ maxRow ∧ len + p.2 ≤ maxRow ∧ 0 < sz then
      (readCells s a (len * sz)).map fun was => (.slice (some ⟨.new s.next, 0⟩) (len + p.2) none, s.alloc (.cells (was ++ p.1) (some sz)))
    else none
  | .slice (some a) len none =>
    if p.2 = 0 then some (x, s) else
    match a.id with
    | .old _ => none
    | .new k =>
      match s.new k with
      | some (.cells cs (some g)) =>
        if g = sz ∧ a.off = 0 ∧ 0 < len ∧ (len + p.2) * sz ≤ cs.length then (writeCells s ⟨.new k, len * sz⟩ p.1).map fun s' => (.slice (some a) (len + p.2) none, s')
        else if g = sz ∧ a.off = 0 ∧ len * sz = cs.length ∧ (len + p.2) * bytes ≤ maxRow ∧ len + p.2 ≤ maxRow ∧ p.1.all V.one then
          some (.slice (some ⟨.new s.next, 0⟩) (len + p.2) none, (s.kill k).alloc (.cells (cs ++ p.1) (some sz)))
        else none
      | _ => none
  | _ => none
def sliceStrI (x : V) (lo hi : Option V) : Option V :=
  match x with
  | .str s =>
    (match hi with | some v => (asNat v).bind fun h => if h ≤ s.size then some h else none | none => some s.size).bind fun h =>
    (match lo with | some v => (asNat v).bind fun l => if l ≤ h then some l else none | none => some 0).bind fun l =>
    some (.str (s.extract l h))
  | _ => none
def sliceI (sz : Nat) (x : V) (lo hi mx : Option V) : Option V :=
  match x with
  | .slice a len (some cap) =>
    (match mx with | some v => (asNat v).bind fun m => if m ≤ cap then some m else none | none => some cap).bind fun m =>
    (match hi with | some v => (asNat v).bind fun h => if h ≤ m then some h else none | none => if mx.isSome then none else some len).bind fun h =>
    (match lo with | some v => (asNat v).bind fun l => if l ≤ h then some l else none | none => some 0).bind fun l =>
    if h ≤ m then some (.slice (if m = l then a else a.map fun (a : Ad) => ⟨a.id, a.off + l * sz⟩) (h - l) (some (m - l))) else none
  | .slice (some a) len none =>
    (match mx with | some v => (asNat v).bind fun m => if m ≤ len then some m else none | none => some len).bind fun m =>
    (match hi with | some v => (asNat v).bind fun h => if h ≤ m then some h else none | none => if mx.isSome then none else some len).bind fun h =>
    (match lo with | some v => (asNat v).bind fun l => if l ≤ h then some l else none | none => some 0).bind fun l =>
    if h ≤ m ∧ (l = 0 ∨ 0 < sz) then some (.slice (some ⟨a.id, a.off + l * sz⟩) (h - l) (if mx.isSome then some (m - l) else none)) else none
  | _ => none
def lookupI (kt : KT) (zero : V) (ok : Bool) (m k : V) (s : St) : Option V :=
  (match m with
   | .map none => some []
   | .map (some i) => match s.get i with | some (.map es _) => some es | _ => none
   | _ => none).bind fun es =>
  if (keyEq kt k k).isNone then none else
  (findI kt k es 0).bind fun r =>
  let p : V × Bool := match r with | some (_, v) => (v, true) | none => (zero, false)
  some (if ok then .tuple [p.1, .bool p.2] else p.1)
def mapSetI (kt : KT) (m k v : V) (s : St) : Option St :=
  match m with
  | .map (some (.new b)) =>
    match s.new b with
    | some (.map es clock) =>
      if (keyEq kt k k).isNone then none else
      (findI kt k es 0).map fun
        | some (i, _) => s.set b (.map (es.modify i fun e => (k, v, e.2.2)) clock)
        | none => s.set b (.map (es ++ [(k, v, clock)]) (clock + 1))
    | _ => none
  | _ => none
def mapEntI (kt : KT) (zero m k : V) (s : St) : Option (V × St) :=
  match m with
  | .map (some (.new b)) =>
    match s.new b with
    | some (.map es clock) =>
      if (keyEq kt k k).isNone then none else
      (findI kt k es 0).map fun
        | some (i, v) => (.tuple [v, .int .i64 (((es[i]?).map (·.2.2)).getD 0 : Nat)], s.set b (.map (es.modify i fun e => (k, e.2.1, e.2.2)) clock))
        | none => (.tuple [zero, .int .i64 (clock : Nat)], s.set b (.map (es ++ [(k, zero, clock)]) (clock + 1)))
    | _ => none
  | _ => none
def entSetI (m st v : V) (s : St) : Option St :=
  match m, st with
  | .map (some (.new b)), .int _ born =>
    match s.new b with
    | some (.map es clock) => (es.findIdx? fun e => (e.2.2 : Int) == born).map fun i => s.set b (.map (es.modify i fun e => (e.1, v, e.2.2)) clock)
    | _ => none
  | _, _ => none
def lenMapI (x : V) (s : St) : Option V :=
  match x with
  | .map none => some (.int .i64 0)
  | .map (some i) => match s.get i with | some (.map es _) => some (.int .i64 es.length) | _ => none
  | _ => none
mutual
def beqV : V → V → Bool
  | .bool a, .bool b => a == b
  | .int k a, .int k' b => k == k' && a == b
  | .str a, .str b => a == b
  | .ptr a, .ptr b => a == b
  | .slice a n c, .slice a' n' c' => a == a' && n == n' && c == c'
  | .map a, .map b => a == b
  | .func f p c, .func f' p' c' => f == f' && beqVs p p' && beqVs c c'
  | .nilFunc, .nilFunc => true
  | .iface t x, .iface t' y => t == t' && beqV x y
  | .nilIface, .nilIface => true
  | .agg a, .agg b => beqVs a b
  | .tuple a, .tuple b => beqVs a b
  | _, _ => false
def beqVs : List V → List V → Bool
  | [], [] => true
  | x :: xs, y :: ys => beqV x y && beqVs xs ys
  | _, _ => false
end

inductive Kind where
  | p | l | a | s
  deriving DecidableEq
def IOp.kind : IOp → Kind
  | .store _ _ _ | .mapSet _ _ _ _ | .mapEnt _ _ _ _ | .entSet _ _ _ | .append _ _ _ _ | .call _ _ | .callv _ _ => .s
  | .load _ _ | .lookup _ _ _ _ _ | .lenMap _ | .again _ _ => .l
  | .alloc _ | .box _ | .buildSlice _ _ _ | .mkMap | .mkSlice _ _ _ _ => .a
  | _ => .p
def evalP (op : IOp) (e : Env) : Option V :=
  match op with
  | .mov x => some (ev e x)
  | .pick c a b => match ev e c with | .bool t => some (if t then ev e a else ev e b) | _ => none
  | .build zero parts => (fillI e zero parts).map .agg
  | .nilCheck x => match ev e x with
    | .ptr (some a) => some (.ptr (some a))
    | .func f p c => some (.func f p c)
    | _ => none
  | .bin op x y => binI op (ev e x) (ev e y)
  | .eql neg k x y => (eqI k (ev e x) (ev e y)).map fun b => .bool (if neg then !b else b)
  | .un op x => unI op (ev e x)
  | .conv k x => match ev e x with | .int _ n => some (wrapI k n) | _ => none
  | .mkFunc f pre caps => some (.func f (pre.map (ev e)) (caps.map (ev e)))
  | .sliceStr x lo hi => sliceStrI (ev e x) (lo.map (ev e)) (hi.map (ev e))
  | .lenStr x => match ev e x with | .str b => some (.int .i64 b.size) | _ => none
  | .lenSlice x => match ev e x with | .slice _ n _ => some (.int .i64 n) | _ => none
  | .slice sz x lo hi mx => sliceI sz (ev e x) (lo.map (ev e)) (hi.map (ev e)) (mx.map (ev e))
  | .fieldAddr off x => match ev e x with | .ptr (some a) => some (.ptr (some ⟨a.id, a.off + off⟩)) | _ => none
  | .field off n x => match ev e x with | .agg cs => partI n cs off | _ => none
  | .indexAddr sz x i => match ev e x with
    | .slice (some a) len _ => (asNat (ev e i)).bind fun n => if n < len then some (.ptr (some ⟨a.id, a.off + n * sz⟩)) else none
    | _ => none
  | .indexStr x i => match ev e x with
    | .str b => (asNat (ev e i)).bind fun n => (b[n]?).map fun c => .int .u8 c.toNat
    | _ => none
  | .extract x i => match ev e x with | .tuple vs => vs[i]? | _ => none
  | _ => none
def evalLook (op : IOp) (e : Env) (s : St) : Option V :=
  match op with
  | .load n a => match ev e a with | .ptr (some a) => (readCells s a (n.getD 1)).bind (packI n) | _ => none
  | .lookup kt zero ok m k => lookupI kt zero ok (ev e m) (ev e k) s
  | .lenMap x => lenMapI (ev e x) s
  | _ => none
def evalL (op : IOp) (e : Env) (s : St) : Option V :=
  match op with
  | .again t op => (evalLook op e s).bind fun v => if beqV v (ev e (.t t)) then some .any else none
  | op => evalLook op e s
def evalA (op : IOp) (e : Env) : Option (O × (Nat → V)) :=
  match op with
  | .alloc zero => some (.cells zero none, fun k => .ptr (some ⟨.new k, 0⟩))
  | .box x => if (ev e x).cells.all V.one then some (.cells (ev e x).cells none, fun k => .ptr (some ⟨.new k, 0⟩)) else none
  | .buildSlice len zero parts => (fillI e zero parts).map fun cs => (.cells cs none, fun k => .slice (some ⟨.new k, 0⟩) len (some len))
  | .mkMap => some (.map [] 0, fun k => .map (some (.new k)))
  | .mkSlice bytes zero len cap =>
    (asNat (ev e len)).bind fun l => (asNat (ev e cap)).bind fun c =>
    if l ≤ c ∧ c * bytes ≤ maxRow ∧ c ≤ maxRow then some (.cells (zeros zero c) none, fun k => .slice (some ⟨.new k, 0⟩) l (some c)) else none
  | _ => none
def evalS (op : IOp) (e : Env) (s : St) : Option (V × St) :=
  match op with
  | .store n a v => (storeI n (ev e a) (ev e v) s).map fun s1 => (V.any, s1)
  | .mapSet kt m k v => (mapSetI kt (ev e m) (ev e k) (ev e v) s).map fun s1 => (V.any, s1)
  | .mapEnt kt z m k => mapEntI kt z (ev e m) (ev e k) s
  | .entSet m st v => (entSetI (ev e m) (ev e st) (ev e v) s).map fun s1 => (V.any, s1)
  | .append sz bytes x y => appendI sz bytes (ev e x) (ev e y) s
  | _ => none
def evalOp (op : IOp) (e : Env) (s : St) : Option (V × St) :=
  match op.kind with
  | .p => (evalP op e).map fun v => (v, s)
  | .l => (evalL op e s).map fun v => (v, s)
  | .a => (evalA op e).map fun x => (x.2 s.next, s.alloc x.1)
  | .s => evalS op e s
def put (e : Env) (dst : Option Nat) (v : V) : Env :=
  match dst with
  | some d => e.set d v
  | none => e
abbrev Res := Option (V × St)
abbrev CallT := Nat → List V → St → Res
abbrev skipV : V := .tuple []
def wantedI (e : Env) : Option (Nat × Bool) → Option Bool
  | none => some true
  | some (t, want) => match e.getD t .any with | .bool b => some (b == want) | .tuple _ => some false | _ => none
def execI (C : CallT) (op : IOp) (e : Env) (s : St) : Res :=
  match op with
  | .call f args => C f (args.map (ev e)) s
  | .callv f args => match ev e f with
    | .func g pre caps => C g (pre ++ args.map (ev e) ++ caps) s
    | _ => none
  | op => evalOp op e s
def stepI (C : CallT) (i : II) (e : Env) (s : St) : Option (Env × St) :=
  match wantedI e i.guard with
  | some true => (execI C i.op e s).map fun p => (put e i.dst p.1, p.2)
  | some false => some (put e i.dst skipV, s)
  | none => none
def goOps (C : CallT) : List II → Env → St → (Env → St → Res) → Res
  | [], e, s, K => K e s
  | i :: r, e, s, K => (stepI C i e s).bind fun p => goOps C r p.1 p.2 K
inductive IC where
  | skip
  | region (ops : List II) (keep : List Bool)
  | seq (a b : IC)
  | cond (c : Arg) (a b : IC)
  | block (id : Nat) (a : IC)
  | loop (a : IC)
  | range (f : Arg) (ps : List Nat) (a b : IC)
  | exit (id : Nat)
  | ret
  deriving Inhabited
def maskEnv : List Bool → Env → Env
  | b :: bs, v :: e => (if b then v else .any) :: maskEnv bs e
  | [], e => e
  | _, [] => []
abbrev Kt := Xt → Env → St → Res
def go (L : IC → Env → St → Kt → Res) (C : CallT) : IC → Env → St → Kt → Res
  | .skip, e, s, K => K .normal e s
  | .region ops keep, e, s, K => goOps C ops e s fun e s => K .normal (maskEnv keep e) s
  | .seq a b, e, s, K => go L C a e s fun
    | .normal, e, s => go L C b e s K
    | .exit i, e, s => K (.exit i) e s
    | .ret, e, s => K .ret e s
  | .cond c a b, e, s, K => match ev e c with
    | .bool true => go L C a e s K
    | .bool false => go L C b e s K
    | _ => none
  | .block id a, e, s, K => go L C a e s fun
    | .normal, e, s => K .normal e s
    | .exit i, e, s => if i = id then K .normal e s else K (.exit i) e s
    | .ret, e, s => K .ret e s
  | .loop a, e, s, K => go L C a e s fun
    | .normal, e, s => L (.loop a) e s K
    | .exit i, e, s => K (.exit i) e s
    | .ret, e, s => K .ret e s
  | .range f ps a b, e, s, K => L (.range f ps a b) e s K
  | .exit i, e, s, K => K (.exit i) e s
  | .ret, e, s, K => K .ret e s
structure IFn where
  ntmps : Nat
  results : List (Nat × Option (Option Nat))
  body : IC
  deriving Inhabited
def resultsI (e : Env) (s : St) : List (Nat × Option (Option Nat)) → Option (List V)
  | [] => some []
  | (t, none) :: l => (resultsI e s l).map fun vs => e.getD t .any :: vs
  | (t, some n) :: l => (evalLook (.load n (.t t)) e s).bind fun v => (resultsI e s l).map fun vs => v :: vs
def packRes : List V → V
  | [v] => v
  | vs => .tuple vs
def fin (fn : IFn) : Kt
  | .exit _, _, _ => none
  | _, e, s => (resultsI e s fn.results).map fun vs => (packRes vs, s)
def initEnv (fn : IFn) (args : List V) : Env := args ++ List.replicate (fn.ntmps - args.length) .any
abbrev Yt := Nat → List V → St → Res
abbrev LT := IC → Env → St → Kt → Res
def noY : Yt := fun _ _ _ => none
def putAll (e : Env) : List Nat → List V → Env
  | p :: ps, v :: vs => putAll (e.set p v) ps vs
  | _, _ => e
def endSt : Xt → LoopSt
  | .normal => .ready
  | x => .done x
def Xt.off : Xt → Bool
  | .normal => true
  | _ => false
def roundEnd (k : Nat) : Kt := fun x _ t => match t.new k with
  | some (.loop .busy) => some (.bool x.off, t.set k (.loop (endSt x)))
  | _ => none
def roundMid (M : LT × CallT) (b : IC) (k : Nat) : Kt
  | .normal, e, t => match t.new k with
    | some (.loop .ready) => go M.1 M.2 b e (t.set k (.loop .busy)) (roundEnd k)
    | _ => none
  | _, _, _ => none
def roundI (M : LT × CallT) (ps : List Nat) (a b : IC) (e : Env) (k : Nat) (args : List V) (t : St) : Res :=
  if args.length = ps.length then
    match t.new k with
    | some (.loop .ready) => go M.1 M.2 a (putAll e ps args) t (roundMid M b k)
    | _ => none
  else none
def withY (Y : Yt) (k : Nat) (f : List V → St → Res) : Yt := fun j args t => if j = k then f args t else Y j args t
def rangeEnd (k : Nat) (e : Env) (K : Kt) (p : V × St) : Res :=
  match p.2.new k with
  | some (.loop .ready) => K .normal e (p.2.kill k)
  | some (.loop (.done (.exit i))) => K (.exit i) e (p.2.kill k)
  | some (.loop (.done .ret)) => K .ret e (p.2.kill k)
  | _ => none
def rangeI (M : Yt → LT × CallT) (Y : Yt) (f : Arg) (ps : List Nat) (a b : IC) (e : Env) (s : St) (K : Kt) : Res :=
  match ev e f with
  | .func g pre caps =>
    if g < yBase then
      ((M (withY Y s.next (roundI (M Y) ps a b e s.next))).2 g (pre ++ [.func (yBase + s.next) [] []] ++ caps) (s.alloc (.loop .ready))).bind (rangeEnd s.next e K)
    else none
  | _ => none
def LC (F : Nat → Option IFn) : Nat → Yt → LT × CallT
  | 0, _ => (fun _ _ _ _ => none, fun _ _ _ => none)
  | n + 1, Y => (fun c e s K => match c with
      | .range f ps a b => rangeI (LC F n) Y f ps a b e s K
      | c => go (LC F n Y).1 (LC F n Y).2 c e s K,
    fun f args s => if f < yBase then (match F f with
      | some fn => go (LC F n Y).1 (LC F n Y).2 fn.body (initEnv fn args) s (fin fn)
      | none => none) else Y (f - yBase) args s)
end Go.IM

set_option linter.unusedSimpArgs false
set_option linter.unusedVariables false
namespace Go.IM
mutual
def ofVal : Value → V
  | .bool b => .bool b
  | .int k n => .int k n
  | .string s => .str s
  | .pointer none => .ptr none
  | .pointer (some ⟨b, o, none⟩) => .ptr (some ⟨.old b, o⟩)
  | .slice none 0 0 => .slice none 0 (some 0)
  | .slice (some ⟨b, o, some _⟩) 0 0 => .slice (some ⟨.old b, o⟩) 0 (some 0)
  | .slice (some ⟨b, o, none⟩) n c => if n ≤ c then .slice (some ⟨.old b, o⟩) n (some c) else .junk (.slice (some ⟨b, o, none⟩) n c)
  | .map none => .map none
  | .map (some b) => .map (some (.old b))
  | .nilFunc => .nilFunc
  | .nilIface => .nilIface
  | .agg ⟨l⟩ => .agg (ofVals l)
  | .tuple ⟨l⟩ => .tuple (ofVals l)
  | v => .junk v
def ofVals : List Value → List V
  | [] => []
  | v :: l => ofVal v :: ofVals l
end

def argOf : Operand → Arg
  | .tmp t => .t t
  | .const v => .c (ofVal v)
  | .global g => .c (.ptr (some ⟨.old g, 0⟩))
  | .func f => .c (if f < yBase then .func f [] [] else .any)
def aggD : TypeDesc → Bool
  | .struct _ | .array _ _ => true
  | _ => false
section
variable (P : Program)
def zeroOf (t : TypeId) : Option (List V) := do
  let i ← P.info? t
  let z ← i.zero
  pure (ofVals z.cells.toList)
def sizeOfT (t : TypeId) : Option Nat := (P.info? t).map (·.size)
def isAggT (t : TypeId) : Option Bool := (P.underlying t).map aggD
def aggN (t : TypeId) : Option (Option Nat) := do
  let b ← isAggT P t
  let n ← sizeOfT P t
  pure (if b then some n else none)
def placesOf (t : TypeId) : Option (Nat → Option (Nat × Nat)) :=
  match P.underlying t with
  | some (.struct fields) => do
    let l ← fields.toList.mapM fun f => do pure (f.offset, ← sizeOfT P f.type)
    pure fun i => l[i]?
  | some (.array _ el) => do
    let n ← sizeOfT P el
    pure fun i => some (i * n, n)
  | _ => none
def partsOf (place : Nat → Option (Nat × Nat)) (parts : List (Nat × Operand)) : Option (List (Nat × Nat × Arg)) :=
  parts.mapM fun (i, x) => do let (o, n) ← place i; pure (o, n, argOf x)
def ckOf (t : TypeId) : Option CK :=
  match P.underlying t with
  | some (.int _) => some .i
  | some .bool => some .b
  | some .string => some .s
  | _ => none
def ktOf (t : TypeId) : Option KT :=
  match P.underlying t with
  | some (.struct fields) =>
    if fields.toList.zipIdx.all (fun (f, i) => f.offset == i && f.name != "_") && !P.stoodInHeld t && !P.eqGuardType P.depth t
    then (fields.toList.mapM fun f => ckOf P f.type).map .agg else none
  | _ => (ckOf P t).map .one
def ekOf (t : TypeId) : Option EK :=
  match P.underlying t with
  | some (.pointer _) => some .ptr
  | some (.slice _) => some .slice
  | some (.map _ _) => some .map
  | some (.func _ _ _) => some .func
  | some (.array n el) =>
    if P.cellsOf el == 1 && (P.info? el).isSome && !P.eqGuardType P.depth t then (ckOf P el).map fun k => .key (.agg (List.replicate n k)) else none
  | _ => (ktOf P t).map .key
def compBin (op : BinOp) (t : TypeId) (x y : Operand) : Option IOp :=
  match op, P.underlying t with
  | _, some (.int _) => some (.bin op (argOf x) (argOf y))
  | _, some .string => some (.bin op (argOf x) (argOf y))
  | .eql, _ => (ekOf P t).map fun k => .eql false k (argOf x) (argOf y)
  | .neq, _ => (ekOf P t).map fun k => .eql true k (argOf x) (argOf y)
  | _, _ => none
def elemOfT (t : TypeId) : Option TypeId := match P.underlying t with | some (.slice el) => some el | _ => none
def fieldOfT (t : TypeId) (i : Nat) : Option Field := match P.underlying t with | some (.struct fields) => fields[i]? | _ => none
def mapOfT (t : TypeId) : Option (TypeId × TypeId) := match P.underlying t with | some (.map k el) => some (k, el) | _ => none
def appendsT (u : TypeId) : Bool := match P.underlying u with | some (.slice _) | some .string => true | _ => false
def compAppend (t u : TypeId) (x y : Arg) : Option IOp := do
  let el ← elemOfT P t
  let i ← P.info? el
  let z ← i.zero
  if z.cells.size = i.size ∧ appendsT P u = true then pure (.append i.size i.bytes x y) else none
def compCall (c : Call) : Option IOp :=
  let args := c.args.toList.map argOf
  match c.callee with
  | .value (.func f) => if f < yBase then some (.call f args) else none
  | .value f => some (.callv (argOf f) args)
  | .builtin .len =>
    match c.argTypes.toList, args with
    | [t], [x] => (match P.underlying t with | some .string => some (.lenStr x) | some (.slice _) => some (.lenSlice x) | some (.map _ _) => some (.lenMap x) | _ => none)
    | _, _ => none
  | .builtin .append =>
    match c.argTypes.toList, args with
    | [t, u], [x, y] => compAppend P t u x y
    | _, _ => none
  | _ => none
def compOp (o : Oper) : Option IOp :=
  match o.op with
  | .move x | .assign x => some (.mov (argOf x))
  | .pick c a b => some (.pick (argOf c) (argOf a) (argOf b))
  | .alloc t => (zeroOf P t).map .alloc
  | .box _ x => some (.box (argOf x))
  | .build t parts => do
    let z ← zeroOf P t
    let pl ← placesOf P t
    let ps ← partsOf pl parts.toList
    pure (.build z ps)
  | .buildSlice t len parts => do
    let el ← elemOfT P t
    let n ← sizeOfT P el
    let z ← zeroOf P el
    if len * n > 2 ^ 24 ∨ z.length ≠ n then none
    let ps ← partsOf (fun i => some (i * n, n)) parts.toList
    pure (.buildSlice len (zeros z len) ps)
  | .load t a => do let n ← aggN P t; pure (.load n (argOf a))
  | .store t a v => do let n ← sizeOfT P t; pure (.store n (argOf a) (argOf v))
  | .nilCheck x => some (.nilCheck (argOf x))
  | .binOp op t x y _ => compBin P op t x y
  | .unOp op _ x => some (.un op (argOf x))
  | .convert src dst x =>
    match P.underlying src, P.underlying dst with
    | some (.int _), some (.int k) => some (.conv k (argOf x))
    | _, _ => none
  | .makeFunc (.func f) pre caps => if f < yBase then some (.mkFunc f (pre.toList.map argOf) (caps.toList.map argOf)) else none
  | .makeMap t r =>
    match r with
    | none => some .mkMap
    | some _ => none
  | .makeSlice t l c => do
    let el ← elemOfT P t
    let i ← P.info? el
    let z ← zeroOf P el
    if z.length ≠ i.size then none
    pure (.mkSlice i.bytes z (argOf l) (argOf c))
  | .slice t x lo hi mx =>
    match P.underlying t with
    | some .string => if mx.isSome then none else some (.sliceStr (argOf x) (lo.map argOf) (hi.map argOf))
    | some (.slice el) => (sizeOfT P el).map fun n => .slice n (argOf x) (lo.map argOf) (hi.map argOf) (mx.map argOf)
    | _ => none
  | .fieldAddr t x i => do
    let f ← fieldOfT P t i
    let n ← sizeOfT P f.type
    if n = 0 then none
    pure (.fieldAddr f.offset (argOf x))
  | .field t x i => do
    let f ← fieldOfT P t i
    let n ← aggN P f.type
    pure (.field f.offset n (argOf x))
  | .indexAddr t x i => do
    let el ← elemOfT P t
    let n ← sizeOfT P el
    pure (.indexAddr n (argOf x) (argOf i))
  | .index t x i =>
    match P.underlying t with
    | some .string => some (.indexStr (argOf x) (argOf i))
    | _ => none
  | .lookup t m k ok => do
    let (kt, el) ← mapOfT P t
    let k' ← ktOf P kt
    let i ← P.info? el
    let z ← i.zero
    pure (.lookup k' (ofVal z) ok (argOf m) (argOf k))
  | .mapUpdate t m k v | .insert t m k v => do
    let (kt, _) ← mapOfT P t
    let k' ← ktOf P kt
    pure (.mapSet k' (argOf m) (argOf k) (argOf v))
  | .mapEntry t m k => do
    let (kt, el) ← mapOfT P t
    let k' ← ktOf P kt
    let i ← P.info? el
    let z ← i.zero
    pure (.mapEnt k' (ofVal z) (argOf m) (argOf k))
  | .entryStore _ m st v => some (.entSet (argOf m) (argOf st) (argOf v))
  | .extract x i => some (.extract (argOf x) i)
  | .call c => compCall P c
  | _ => none
def compII (ops : List Oper) (o : Oper) : Option II := do
  let op ← compOp P o
  match o.guard with
  | none => pure { dst := o.dst, op, guard := none }
  | some (j, want) => do
    let t ← (ops[j]?).bind (·.dst)
    pure { dst := o.dst, op, guard := some (t, want) }
def IOp.acts (o : IOp) : Bool := decide (o.kind = .s)
def IOp.looks (o : IOp) : Bool := decide (o.kind = .l)
def depsOf (o : Oper) : List Nat := (o.after.toList.filter (Region.binds .any)).map (·.on)
def ancs (ops : List Oper) : List (List Nat) :=
  ops.foldl (fun acc o => acc ++ [((depsOf o).flatMap fun d => d :: acc.getD d []).eraseDups]) []
structure Drawn where
  iis : List II
  deps : List (List Nat)
  an : List (List Nat)
  ord : List Nat
namespace Drawn
variable (d : Drawn)
def n : Nat := d.iis.length
def acts (i : Nat) : Bool := ((d.iis[i]?).map (·.op.acts)).getD false
def looks (i : Nat) : Bool := ((d.iis[i]?).map (·.op.looks)).getD false
def before (i j : Nat) : Bool := (d.an.getD j []).contains i
def dst (i : Nat) : Option Nat := (d.iis[i]?).bind (·.dst)
def reads (i t : Nat) : Bool := ((d.iis[i]?).map fun x => x.reads.contains t).getD false
def open_ (i j : Nat) : Bool := d.looks i && d.acts j && !d.before i j && !d.before j i
def okPair (i j : Nat) : Bool :=
  (!d.open_ j i || (d.dst j).isSome) &&
  (match d.dst i with
   | some t => (i == j || d.dst j != some t) && (!d.reads j t || d.before i j || (d.before j i && !(List.range d.n).any (d.open_ j)))
   | none => true)
def okOrd : List Nat → Bool
  | [] => true
  | i :: l => decide (i < d.n) && !l.contains i && l.all (fun j => !d.before j i && (!d.acts i || d.before i j)) && okOrd l
def ok : Bool :=
  (List.range d.n).all (fun i => (d.deps.getD i []).all (fun x => d.before x i) &&
    (d.an.getD i []).all (fun x => decide (x < i) && ((d.an.getD x []).all fun y => d.before y i) && ((d.deps.getD i []).contains x || (d.deps.getD i []).any (d.before x))) && d.ord.contains i && (List.range d.n).all (d.okPair i)) && d.okOrd d.ord
def rechecks (i : Nat) : List II :=
  ((List.range d.n).filter fun j => d.open_ j i).filterMap fun j => (d.iis[j]?).bind fun x => x.dst.map fun t => { dst := none, op := .again t x.op, guard := x.guard }
def items (i : Nat) : List II := (d.iis[i]?).toList ++ (if d.acts i then d.rechecks i else [])
def canon : List II := d.ord.flatMap d.items
end Drawn
def insertBy (key : Nat → Nat) (i : Nat) : List Nat → List Nat
  | [] => [i]
  | j :: l => if key i < key j then i :: j :: l else j :: insertBy key i l
def drawnOf (ops : List Oper) (iis : List II) : Drawn :=
  let an := ancs ops
  let acts (i : Nat) : Bool := ((iis[i]?).map (·.op.acts)).getD false
  let key (i : Nat) : Nat := 2 * ((an.getD i []).filter acts).length + (if acts i then 1 else 0)
  ⟨iis, ops.map depsOf, an, (List.range iis.length).foldl (fun l i => insertBy key i l) []⟩
def bitOf (t : Nat) : Nat := 1 <<< t
def clr (m t : Nat) : Nat := m ^^^ (m &&& bitOf t)
def bits (l : List Nat) : Nat := l.foldl (fun m t => m ||| bitOf t) 0
def liveII (i : II) (m : Nat) : Nat := (match i.dst with | some d => clr m d | none => m) ||| bits i.reads
def liveOps (l : List II) (m : Nat) : Nat := l.foldr liveII m
def liveArg : Arg → Nat
  | .t t => bitOf t
  | .c _ => 0
def keepOf (nt m : Nat) : List Bool := (List.range nt).map fun i => m.testBit i
def compC (nt : Nat) (rg : Bool) (ex : List (Nat × Nat)) (rt out : Nat) : Code → Option (IC × Nat)
  | .skip => some (.region [] (keepOf nt out), out)
  | .region _ ops draw => do
    let iis ← ops.toList.mapM (compII P ops.toList)
    if draw then
      let d := drawnOf ops.toList iis
      if d.ok then pure (.region d.canon (keepOf nt out), liveOps d.canon out) else none
    else pure (.region iis (keepOf nt out), liveOps iis out)
  | .seq a b => do
    let y ← compC nt rg ex rt out b
    let x ← compC nt rg ex rt y.2 a
    pure (.seq x.1 y.1, x.2)
  | .cond c a b => do
    let x ← compC nt rg ex rt out a
    let y ← compC nt rg ex rt out b
    pure (.cond (argOf c) x.1 y.1, x.2 ||| y.2 ||| liveArg (argOf c))
  | .block id a => do
    let x ← compC nt rg ((id, out) :: ex) rt out a
    pure (.block id x.1, x.2)
  | .loop a => do
    let x ← compC nt rg ex rt 0 a
    let y ← compC nt rg ex rt x.2 a
    pure (.seq (.region [] (keepOf nt x.2)) (.loop (.seq y.1 (.region [] (keepOf nt x.2)))), x.2)
  | .rangeFunc g ps a b =>
    if rg then do
      let y ← compC nt false (ex.map fun p => (p.1, 0)) 0 0 b
      let x ← compC nt false (ex.map fun p => (p.1, 0)) 0 y.2 a
      let m := ps.toList.foldl clr x.2 ||| liveArg (argOf g) ||| out ||| rt ||| ex.foldl (fun m p => m ||| p.2) 0
      pure (.seq (.region [] (keepOf nt m)) (.seq (.range (argOf g) ps.toList x.1 y.1) (.region [] (keepOf nt out))), m)
    else none
  | .exit id =>
    let m := ((ex.find? fun p => p.1 == id).map (·.2)).getD (2 ^ nt - 1)
    some (.seq (.region [] (keepOf nt m)) (.exit id), m)
  | .ret => some (.seq (.region [] (keepOf nt rt)) .ret, rt)
  | _ => none
def resOf : ResultVar → Option (Nat × Option (Option Nat))
  | .tmp t => some (t, none)
  | .cell t ty => (aggN P ty).map fun n => (t, some n)
def compF (f : Nat) : Option IFn := do
  let fn ← P.funcs[f]?
  if fn.name == "runtime.NumGoroutine" then none
  let c ← fn.body
  let rs ← fn.results.toList.mapM (resOf P)
  let rt := bits (rs.map (·.1))
  let b ← compC P fn.ntmps true [] rt rt c
  pure { ntmps := fn.ntmps, results := rs, body := b.1 }
end
end Go.IM

set_option linter.unusedSimpArgs false
set_option linter.unusedVariables false
namespace Go.IM
open Go.RowKit (Below)
structure RcS where
  fn : FuncId
  tmps : Array Value
  params : Array Tmp
  assign : Code
  body : Code
structure Pl where
  blk : Nat
  off : Nat
  sz : Nat
  cells : Nat
  rc : Option RcS
abbrev Rn := Nat → Option Pl
def place (ρ : Rn) (a : Ad) : Option Addr :=
  match a.id with
  | .old b => some ⟨b, a.off, none⟩
  | .new k => (ρ k).map fun p => ⟨p.blk, p.off + a.off, none⟩
def mplace (ρ : Rn) : Id → Option Nat
  | .old b => some b
  | .new k => (ρ k).map (·.blk)
def reach (ρ : Rn) (a : Ad) (c : Addr) (cap : Nat) (known : Option Nat) : Prop :=
  match a.id with
  | .old _ => True
  | .new k => a.off = 0 → ∀ p, ρ k = some p → 0 < p.sz → c.off + cap * p.sz ≤ p.cells ∧ (known = none → p.cells ≤ c.off + cap * p.sz)
mutual
def VR (ρ : Rn) : V → Value → Prop
  | .any, _ => True
  | .bool b, v => v = .bool b
  | .int k n, v => v = .int k n
  | .str s, v => v = .string s
  | .ptr none, v => v = .pointer none
  | .ptr (some a), v => ∃ c, v = .pointer (some c) ∧ place ρ a = some c
  | .slice none n c, v => n = 0 ∧ c = some 0 ∧ v = .slice none 0 0
  | .slice (some a) n c, v => ∃ c' cap, v = .slice (some c') n cap ∧ n ≤ cap ∧ (∀ m, c = some m → m = cap) ∧ (0 < cap → place ρ a = some c' ∧ reach ρ a c' cap c) ∧ ∃ c0, place ρ a = some c0
  | .map none, v => v = .map none
  | .map (some i), v => ∃ b, v = .map (some b) ∧ mplace ρ i = some b
  | .func f pre caps, v => (f < yBase ∧ ∃ p c, v = .func (.func f) p c ∧ VRs ρ pre p.toList ∧ VRs ρ caps c.toList) ∨ (yBase ≤ f ∧ pre = [] ∧ caps = [] ∧ ∃ p, ρ (f - yBase) = some p ∧ v = .func (.yield p.blk) #[] #[])
  | .nilFunc, v => v = .nilFunc
  | .iface t x, v => ∃ y, v = .iface t y ∧ VR ρ x y
  | .nilIface, v => v = .nilIface
  | .agg cs, v => ∃ c, v = .agg c ∧ VRs ρ cs c.toList
  | .tuple cs, v => ∃ c, v = .tuple c ∧ VRs ρ cs c.toList
  | .junk x, v => v = x
def VRs (ρ : Rn) : List V → List Value → Prop
  | [], l => l = []
  | x :: xs, l => ∃ y ys, l = y :: ys ∧ VR ρ x y ∧ VRs ρ xs ys
end

def Le (ρ ρ' : Rn) : Prop := ∀ k p, ρ k = some p → ρ' k = some p
theorem Le.refl (ρ : Rn) : Le ρ ρ := fun _ _ h => h
theorem Le.trans {a b c : Rn} (h : Le a b) (k : Le b c) : Le a c := fun i p e => k i p (h i p e)
section
variable {ρ ρ' : Rn}
theorem place_mono (h : Le ρ ρ') {a : Ad} {c : Addr} (hp : place ρ a = some c) : place ρ' a = some c := by
  obtain ⟨i, o⟩ := a
  cases i with
  | old b => exact hp
  | new k =>
    simp only [place, Option.map_eq_some_iff] at hp ⊢
    obtain ⟨p, e, rfl⟩ := hp
    exact ⟨p, h k p e, rfl⟩
theorem mplace_mono (h : Le ρ ρ') {a : Id} {c : Nat} (hp : mplace ρ a = some c) : mplace ρ' a = some c := by
  cases a with
  | old b => exact hp
  | new k =>
    simp only [mplace, Option.map_eq_some_iff] at hp ⊢
    obtain ⟨p, e, rfl⟩ := hp
    exact ⟨p, h k p e, rfl⟩
theorem reach_mono (h : Le ρ ρ') {a : Ad} {c c' : Addr} {cap : Nat} {known : Option Nat} (hp : place ρ a = some c') (hr : reach ρ a c cap known) : reach ρ' a c cap known := by
  obtain ⟨i, o⟩ := a
  cases i with
  | old b => trivial
  | new k =>
    simp only [place, Option.map_eq_some_iff] at hp
    obtain ⟨p, e, _⟩ := hp
    intro h0 q hq
    have : q = p := by have := h k p e; rw [this] at hq; exact (Option.some.inj hq).symm
    subst this
    exact hr h0 q e
mutual
theorem VR_mono (h : Le ρ ρ') : ∀ (x : V) (v : Value), VR ρ x v → VR ρ' x v
  | .any, _, _ => trivial
  | .bool _, _, hv => hv
  | .int _ _, _, hv => hv
  | .str _, _, hv => hv
  | .ptr none, _, hv => hv
  | .ptr (some _), _, ⟨c, e, hp⟩ => ⟨c, e, place_mono h hp⟩
  | .slice none _ _, _, hv => hv
  | .slice (some _) _ _, _, ⟨c, cap, e, h1, h2, h3, c0, h4⟩ => ⟨c, cap, e, h1, h2, fun hc => ⟨place_mono h (h3 hc).1, reach_mono h (h3 hc).1 (h3 hc).2⟩, c0, place_mono h h4⟩
  | .map none, _, hv => hv
  | .map (some _), _, ⟨b, e, hp⟩ => ⟨b, e, mplace_mono h hp⟩
  | .func _ pre caps, _, .inl ⟨h0, p, c, e, h1, h2⟩ => .inl ⟨h0, p, c, e, VRs_mono h pre _ h1, VRs_mono h caps _ h2⟩
  | .func _ _ _, _, .inr ⟨h0, h1, h2, p, h3, e⟩ => .inr ⟨h0, h1, h2, p, h _ _ h3, e⟩
  | .nilFunc, _, hv => hv
  | .iface _ x, _, ⟨y, e, h1⟩ => ⟨y, e, VR_mono h x _ h1⟩
  | .nilIface, _, hv => hv
  | .agg cs, _, ⟨c, e, h1⟩ => ⟨c, e, VRs_mono h cs _ h1⟩
  | .tuple cs, _, ⟨c, e, h1⟩ => ⟨c, e, VRs_mono h cs _ h1⟩
  | .junk _, _, hv => hv
theorem VRs_mono (h : Le ρ ρ') : ∀ (xs : List V) (l : List Value), VRs ρ xs l → VRs ρ' xs l
  | [], _, hv => hv
  | x :: xs, _, ⟨y, ys, e, h1, h2⟩ => ⟨y, ys, e, VR_mono h x _ h1, VRs_mono h xs _ h2⟩
end

theorem VRs_nil : VRs ρ [] [] := rfl
theorem VRs_cons {x : V} {y : Value} {xs : List V} {ys : List Value} (h : VR ρ x y) (hs : VRs ρ xs ys) : VRs ρ (x :: xs) (y :: ys) := ⟨y, ys, rfl, h, hs⟩
theorem VRs_cons_iff {x : V} {y : Value} {xs : List V} {ys : List Value} : VRs ρ (x :: xs) (y :: ys) ↔ VR ρ x y ∧ VRs ρ xs ys := by
  constructor
  · rintro ⟨y', ys', e, h1, h2⟩
    simp only [List.cons.injEq] at e
    obtain ⟨rfl, rfl⟩ := e
    exact ⟨h1, h2⟩
  · rintro ⟨h1, h2⟩
    exact VRs_cons h1 h2
theorem VRs_iff : ∀ {xs : List V} {l : List Value}, VRs ρ xs l ↔ xs.length = l.length ∧ ∀ (i : Nat) (x : V) (y : Value), xs[i]? = some x → l[i]? = some y → VR ρ x y
  | [], l => by
    simp only [VRs]
    constructor
    · rintro rfl; simp
    · rintro ⟨h, _⟩; exact List.eq_nil_of_length_eq_zero (by simpa using h.symm)
  | x :: xs, [] => by
    constructor
    · rintro ⟨_, _, e, _⟩; cases e
    · rintro ⟨h, _⟩; simp at h
  | x :: xs, y :: ys => by
    rw [VRs_cons_iff, VRs_iff]
    constructor
    · rintro ⟨h1, h2, h3⟩
      refine ⟨by simpa using h2, fun i a b ha hb => ?_⟩
      cases i with
      | zero => simp at ha hb; subst ha hb; exact h1
      | succ i => exact h3 i a b (by simpa using ha) (by simpa using hb)
    · rintro ⟨h1, h2⟩
      exact ⟨h2 0 x y rfl rfl, by simpa using h1, fun i a b ha hb => h2 (i + 1) a b (by simpa using ha) (by simpa using hb)⟩
theorem VRs_length {xs : List V} {l : List Value} (h : VRs ρ xs l) : xs.length = l.length := (VRs_iff.1 h).1
theorem VRs_get {xs : List V} {l : List Value} (h : VRs ρ xs l) {i : Nat} {x : V} (hx : xs[i]? = some x) : ∃ y, l[i]? = some y ∧ VR ρ x y := by
  have hl := VRs_length h
  have hi : i < xs.length := (List.getElem?_eq_some_iff.1 hx).1
  exact ⟨l[i]'(by omega), List.getElem?_eq_getElem (by omega), (VRs_iff.1 h).2 i _ _ hx (List.getElem?_eq_getElem (by omega))⟩
theorem VRs_take {xs : List V} {l : List Value} (h : VRs ρ xs l) (n : Nat) : VRs ρ (xs.take n) (l.take n) := by
  obtain ⟨h1, h2⟩ := VRs_iff.1 h
  refine VRs_iff.2 ⟨by simp [h1], fun i x y hx hy => ?_⟩
  rw [List.getElem?_take] at hx hy
  split at hx
  · rename_i hi
    rw [if_pos hi] at hy
    exact h2 i x y hx hy
  · cases hx
theorem VRs_drop {xs : List V} {l : List Value} (h : VRs ρ xs l) (n : Nat) : VRs ρ (xs.drop n) (l.drop n) := by
  obtain ⟨h1, h2⟩ := VRs_iff.1 h
  exact VRs_iff.2 ⟨by simp [h1], fun i x y hx hy => h2 (n + i) x y (by simpa using hx) (by simpa using hy)⟩
theorem VRs_append {xs ys : List V} {l m : List Value} (h : VRs ρ xs l) (k : VRs ρ ys m) : VRs ρ (xs ++ ys) (l ++ m) := by
  induction xs generalizing l with
  | nil => cases (show l = [] from h); exact k
  | cons x xs ih =>
    obtain ⟨y, ys', rfl, h1, h2⟩ := h
    exact VRs_cons h1 (ih h2)
theorem VRs_set {xs : List V} {l : List Value} (h : VRs ρ xs l) (i : Nat) {x : V} {y : Value} (hv : VR ρ x y) : VRs ρ (xs.set i x) (l.set i y) := by
  obtain ⟨h1, h2⟩ := VRs_iff.1 h
  refine VRs_iff.2 ⟨by simpa using h1, fun j a b ha hb => ?_⟩
  rw [List.getElem?_set] at ha hb
  split at ha
  · rename_i hij
    subst hij
    rw [if_pos rfl] at hb
    split at ha
    · rename_i hl
      rw [if_pos (by omega)] at hb
      cases ha; cases hb; exact hv
    · cases ha
  · rename_i hij
    rw [if_neg hij] at hb
    exact h2 j a b ha hb
theorem VRs_mask : ∀ (keep : List Bool) {e : List V} {l : List Value}, VRs ρ e l → VRs ρ (maskEnv keep e) l
  | [], _, _, h => by unfold maskEnv; exact h
  | _ :: _, [], _, h => by simpa [maskEnv] using h
  | b :: bs, v :: e, _, ⟨y, ys, e1, h1, h2⟩ => by
    subst e1
    simp only [maskEnv]
    refine VRs_cons ?_ (VRs_mask bs h2)
    cases b
    · trivial
    · exact h1
theorem VRs_any (n : Nat) (l : List Value) (h : l.length = n) : VRs ρ (List.replicate n .any) l := by
  refine VRs_iff.2 ⟨by simp [h], fun i x y hx _ => ?_⟩
  rw [List.getElem?_replicate] at hx
  split at hx
  · cases hx; trivial
  · cases hx
def none0 : Rn := fun _ => none
theorem none0_le (ρ : Rn) : Le none0 ρ := fun _ _ h => by cases h
mutual
theorem ofVal_VR (ρ : Rn) : ∀ v : Value, VR ρ (ofVal v) v
  | .bool _ => rfl
  | .int _ _ => rfl
  | .string _ => rfl
  | .pointer none => rfl
  | .pointer (some ⟨_, _, none⟩) => ⟨_, rfl, rfl⟩
  | .pointer (some ⟨_, _, some _⟩) => rfl
  | .slice none 0 0 => ⟨rfl, rfl, rfl⟩
  | .slice none 0 (_ + 1) => rfl
  | .slice none (_ + 1) _ => rfl
  | .slice (some ⟨b, o, none⟩) n c => by
    unfold ofVal
    split
    · rename_i h
      exact ⟨_, c, rfl, h, fun m hm => (Option.some.inj hm).symm, fun _ => ⟨rfl, trivial⟩, _, rfl⟩
    · rfl
  | .slice (some ⟨_, _, some sp⟩) 0 0 => ⟨⟨_, _, some sp⟩, 0, rfl, Nat.le_refl _, fun m hm => (Option.some.inj hm).symm, fun h => absurd h (Nat.lt_irrefl _), _, rfl⟩
  | .slice (some ⟨_, _, some _⟩) 0 (_ + 1) => rfl
  | .slice (some ⟨_, _, some _⟩) (_ + 1) _ => rfl
  | .map none => rfl
  | .map (some _) => ⟨_, rfl, rfl⟩
  | .nilFunc => rfl
  | .nilIface => rfl
  | .agg ⟨l⟩ => ⟨_, rfl, ofVals_VRs ρ l⟩
  | .tuple ⟨l⟩ => ⟨_, rfl, ofVals_VRs ρ l⟩
  | .float _ _ => rfl
  | .complex _ _ _ => rfl
  | .chan _ => rfl
  | .func _ _ _ => rfl
  | .iface _ _ => rfl
theorem ofVals_VRs (ρ : Rn) : ∀ l : List Value, VRs ρ (ofVals l) l
  | [] => rfl
  | v :: l => ⟨v, l, rfl, ofVal_VR ρ v, ofVals_VRs ρ l⟩
end

theorem VR_func {f : Nat} {pre caps : List V} {v : Value} (h : VR ρ (.func f pre caps) v) : ∃ fn p c, v = .func fn p c := by
  rcases h with ⟨_, p, c, e, _⟩ | ⟨_, _, _, p, _, e⟩
  · exact ⟨_, _, _, e⟩
  · exact ⟨_, _, _, e⟩
theorem VR_one {x : V} {v : Value} (h : VR ρ x v) (h1 : x.one = true) : v.oneCell' = true ∧ v.cells = #[v] := by
  match x, h, h1 with
  | .bool _, h, _ => cases (show v = _ from h); exact ⟨rfl, rfl⟩
  | .int _ _, h, _ => cases (show v = _ from h); exact ⟨rfl, rfl⟩
  | .str _, h, _ => cases (show v = _ from h); exact ⟨rfl, rfl⟩
  | .ptr none, h, _ => cases (show v = _ from h); exact ⟨rfl, rfl⟩
  | .ptr (some _), ⟨_, e, _⟩, _ => cases e; exact ⟨rfl, rfl⟩
  | .slice none _ _, ⟨_, _, e⟩, _ => cases e; exact ⟨rfl, rfl⟩
  | .slice (some _) _ _, ⟨_, _, e, _⟩, _ => cases e; exact ⟨rfl, rfl⟩
  | .map none, h, _ => cases (show v = _ from h); exact ⟨rfl, rfl⟩
  | .map (some _), ⟨_, e, _⟩, _ => cases e; exact ⟨rfl, rfl⟩
  | .func _ _ _, .inl ⟨_, _, _, e, _⟩, _ => cases e; exact ⟨rfl, rfl⟩
  | .func _ _ _, .inr ⟨_, _, _, _, _, e⟩, _ => cases e; exact ⟨rfl, rfl⟩
  | .nilFunc, h, _ => cases (show v = _ from h); exact ⟨rfl, rfl⟩
  | .iface _ _, ⟨_, e, _⟩, _ => cases e; exact ⟨rfl, rfl⟩
  | .nilIface, h, _ => cases (show v = _ from h); exact ⟨rfl, rfl⟩
theorem VRs_one {xs : List V} {l : List Value} (h : VRs ρ xs l) (h1 : xs.all V.one = true) : ∀ u ∈ l, u.oneCell' = true := by
  induction xs generalizing l with
  | nil => cases (show l = [] from h); simp
  | cons x xs ih =>
    obtain ⟨y, ys, rfl, h2, h3⟩ := h
    simp only [List.all_cons, Bool.and_eq_true] at h1
    intro u hu
    rcases List.mem_cons.1 hu with rfl | hu
    · exact (VR_one h2 h1.1).1
    · exact ih h3 h1.2 u hu
theorem VR_cells {x : V} {v : Value} (h : VR ρ x v) (h1 : x.cells.all V.one = true) : VRs ρ x.cells v.cells.toList := by
  by_cases ho : x.one = true
  · have hc : x.cells = [x] := by cases x <;> first | rfl | simp [V.one] at ho
    rw [hc, (VR_one h ho).2]
    exact VRs_cons h VRs_nil
  · cases x with
    | agg cs => obtain ⟨c, rfl, hc⟩ := h; exact hc
    | any => simp [V.cells, V.one] at h1
    | tuple => simp [V.cells, V.one] at h1
    | junk => simp [V.cells, V.one] at h1
    | _ => simp [V.one] at ho
def ER (ρ : Rn) (e : V × V × Nat) (m : MapEntry) : Prop := VR ρ e.1 m.key ∧ VR ρ e.2.1 m.val ∧ e.2.2 = m.born
inductive ERs (ρ : Rn) : List (V × V × Nat) → List MapEntry → Prop
  | nil : ERs ρ [] []
  | cons {e es m ms} : ER ρ e m → ERs ρ es ms → ERs ρ (e :: es) (m :: ms)
theorem ER_mono (h : Le ρ ρ') {e m} (he : ER ρ e m) : ER ρ' e m := ⟨VR_mono h _ _ he.1, VR_mono h _ _ he.2.1, he.2.2⟩
theorem ERs_mono (h : Le ρ ρ') {es ms} (he : ERs ρ es ms) : ERs ρ' es ms := by
  induction he with
  | nil => exact .nil
  | cons a _ ih => exact .cons (ER_mono h a) ih
theorem ERs_length {es ms} (h : ERs ρ es ms) : es.length = ms.length := by
  induction h with
  | nil => rfl
  | cons _ _ ih => simp [ih]
def xtCode : Xt → Option Code
  | .exit i => some (.exit i)
  | .ret => some .ret
  | .normal => none
def LoopR (st : LoopSt) (r : Loop) : Prop :=
  match st with
  | .ready => r.state = .ready ∧ r.pending = none
  | .busy => r.state = .busy
  | .done x => r.state = .done ∧ ∃ c, xtCode x = some c ∧ r.pending = some c
def ObjR (ρ : Rn) (o : O) (p : Pl) (b : Option Obj) : Prop :=
  match o with
  | .cells cs g => ∃ C el, b = some (.cells C el (0, 0)) ∧ p.off + cs.length ≤ C.size ∧ VRs ρ cs ((C.toList.drop p.off).take cs.length) ∧
      (match g with | none => p.sz = 0 | some z => p.sz = z ∧ 0 < z ∧ p.cells = C.size)
  | .map es clock => ∃ M, b = some (.map M clock) ∧ ERs ρ es M.toList
  | .loop st => ∃ r : Loop, b = some (.loop r) ∧ p.rc = some ⟨r.fn, r.tmps, r.params, r.assign, r.body⟩ ∧ LoopR st r
def OldR (o : O) (b : Option Obj) : Prop :=
  match o with
  | .cells cs g => g = none ∧ ∃ C el fr, b = some (.cells C el fr) ∧ VRs none0 cs C.toList
  | .map es clock => ∃ M, b = some (.map M clock) ∧ ERs none0 es M.toList
  | .loop _ => False
structure Sim (B : Nat) (ρ : Rn) (s : St) (w : World) : Prop where
  base : B ≤ w.heap.size
  old : ∀ b o, s.old b = some o → b < B ∧ OldR o w.heap[b]?
  dom : ∀ k p, ρ k = some p → k < s.next ∧ B ≤ p.blk ∧ p.blk < w.heap.size
  obj : ∀ k p o, ρ k = some p → s.new k = some o → ObjR ρ o p w.heap[p.blk]?
  inj : ∀ k k' p p', ρ k = some p → ρ k' = some p' → s.new k ≠ none → s.new k' ≠ none → p.blk = p'.blk → k = k'
  fresh : ∀ k, s.next ≤ k → s.new k = none
structure Step (B : Nat) (ρ : Rn) (s : St) (w : World) (ρ' : Rn) (s' : St) (w' : World) : Prop where
  le : Le ρ ρ'
  below : Below B w w'
  next : s.next ≤ s'.next
  old : s'.old = s.old
  ghost : ∀ k, k < s.next → ρ k = none → ρ' k = none ∧ s'.new k = s.new k
  keep : ∀ b, b < w.heap.size → (∀ k p, ρ k = some p → p.blk ≠ b) → w'.heap[b]? = w.heap[b]? ∧ ∀ k p, ρ' k = some p → p.blk ≠ b
  size : w.heap.size ≤ w'.heap.size
theorem Step.refl (B : Nat) (ρ : Rn) (s : St) (w : World) : Step B ρ s w ρ s w := ⟨Le.refl ρ, Below.refl B w, Nat.le_refl _, rfl, fun _ _ h => ⟨h, rfl⟩, fun _ _ h => ⟨rfl, h⟩, Nat.le_refl _⟩
theorem Step.trans {B : Nat} {ρ ρ1 ρ2 : Rn} {s s1 s2 : St} {w w1 w2 : World} (h : Step B ρ s w ρ1 s1 w1) (k : Step B ρ1 s1 w1 ρ2 s2 w2) : Step B ρ s w ρ2 s2 w2 :=
  ⟨h.le.trans k.le, h.below.trans k.below, Nat.le_trans h.next k.next, k.old.trans h.old, fun i hi hn => by
    obtain ⟨a, b⟩ := h.ghost i hi hn
    obtain ⟨c, d⟩ := k.ghost i (Nat.lt_of_lt_of_le hi h.next) a
    exact ⟨c, d.trans b⟩, fun b hb hn => by
    obtain ⟨a, c⟩ := h.keep b hb hn
    obtain ⟨d, e⟩ := k.keep b (Nat.lt_of_lt_of_le hb h.size) c
    exact ⟨d.trans a, e⟩, Nat.le_trans h.size k.size⟩
end
end Go.IM

set_option linter.unusedSimpArgs false
set_option linter.unusedVariables false
namespace Go.IM
open Go.RowKit (Below)
section
variable {P : Program} {B : Nat} {ρ : Rn} {s : St} {w : World}
theorem cut_some {cs l : List V} {off n : Nat} (h : cut cs off n = some l) : off + n ≤ cs.length ∧ l = (cs.drop off).take n ∧ l.length = n := by
  unfold cut at h
  split at h
  · rename_i hn
    cases h
    exact ⟨hn, rfl, by simp; omega⟩
  · cases h
theorem eval_VR {e : Env} {a : Act} (he : VRs ρ e a.tmps.toList) (x : Operand) : VR ρ (ev e (argOf x)) (a.eval x) := by
  cases x with
  | tmp t =>
    simp only [argOf, ev, Act.eval]
    cases h : e[t]? with
    | none => simp only [List.getD, h, Option.getD_none]; trivial
    | some v =>
      obtain ⟨y, hy, hv⟩ := VRs_get he h
      have : a.tmps[t]? = some y := by simpa using hy
      simpa [List.getD, h, Array.getD_eq_getD_getElem?, this] using hv
  | const v => exact ofVal_VR ρ v
  | global g => exact ⟨_, rfl, rfl⟩
  | func f =>
    simp only [argOf, ev]
    split
    · rename_i h; exact .inl ⟨h, #[], #[], rfl, rfl, rfl⟩
    · trivial
theorem cells_at {C : Array Value} {b : Nat} {el : TypeId} {fr : Nat × Nat} (hb : w.heap[b]? = some (.cells C el fr)) (off n : Nat) :
    ∀ j v, ((C.toList.drop off).take n)[j]? = some v → w.cell? ((⟨b, off, none⟩ : Addr).add j) = some v := by
  intro j v h
  rw [List.getElem?_take] at h
  split at h
  · rw [Addr.add_lit]
    simpa [World.cell?, hb] using h
  · cases h
theorem Sim.read (hs : Sim B ρ s w) {a : Ad} {n : Nat} {l : List V} (hr : readCells s a n = some l) {c : Addr} (hp : place ρ a = some c) :
    l.length = n ∧ ∃ L, VRs ρ l L ∧ ∀ j v, L[j]? = some v → w.cell? (c.add j) = some v := by
  obtain ⟨i, off⟩ := a
  simp only [readCells] at hr
  cases hrow : s.row i with
  | none => simp [hrow] at hr
  | some r =>
    obtain ⟨cs, g⟩ := r
    simp only [hrow] at hr
    obtain ⟨h1, rfl, h3⟩ := cut_some hr
    refine ⟨h3, ?_⟩
    cases i with
    | old b =>
      cases (show some _ = some c from hp)
      have ho : s.old b = some (.cells cs g) := by
        unfold St.row St.get at hrow
        split at hrow <;> simp_all
      obtain ⟨_, _, C, el, fr, hb, hv⟩ := hs.old b _ ho
      exact ⟨_, VRs_take (VRs_drop (VRs_mono (none0_le ρ) _ _ hv) off) n, cells_at hb off n⟩
    | new k =>
      simp only [place, Option.map_eq_some_iff] at hp
      obtain ⟨p, hk, rfl⟩ := hp
      have ho : s.new k = some (.cells cs g) := by
        unfold St.row St.get at hrow
        split at hrow <;> simp_all
      obtain ⟨C, el, hb, hsz, hv, _⟩ := hs.obj k p _ hk ho
      refine ⟨((C.toList.drop (p.off + off)).take n), ?_, cells_at hb _ n⟩
      have h := VRs_take (VRs_drop hv off) n
      rwa [List.drop_take, List.drop_drop, List.take_take, Nat.min_eq_left (by omega)] at h
theorem Sim.upd {k : Nat} {p : Pl} {o o' : O} {w' : World} (hs : Sim B ρ s w) (hk : ρ k = some p) (ho : s.new k = some o) (hsz : w'.heap.size = w.heap.size)
    (hoth : ∀ j, j ≠ p.blk → w'.heap[j]? = w.heap[j]?) (hob : ObjR ρ o' p w'.heap[p.blk]?) : Sim B ρ (s.set k o') w' := by
  obtain ⟨hkn, hB, hlt⟩ := hs.dom k p hk
  refine ⟨by rw [hsz]; exact hs.base, fun b o h => ?_, fun k p h => by rw [hsz]; exact hs.dom k p h, fun k1 p1 o1 h1 h2 => ?_, fun k1 k2 p1 p2 h1 h2 h3 h4 he => ?_, fun j hj => ?_⟩
  · obtain ⟨h1, h2⟩ := hs.old b o h
    exact ⟨h1, by rw [hoth b (by omega)]; exact h2⟩
  · simp only [St.set] at h2
    split at h2
    · rename_i e
      subst e
      rw [hk] at h1; cases h1; cases h2
      exact hob
    · rename_i e
      have hne : p1.blk ≠ p.blk := fun he => e (hs.inj k1 k p1 p h1 hk (by rw [h2]; simp) (by rw [ho]; simp) he)
      rw [hoth _ hne]
      exact hs.obj k1 p1 o1 h1 h2
  · refine hs.inj k1 k2 p1 p2 h1 h2 ?_ ?_ he
    · intro hn; apply h3; simp only [St.set]; split
      · rename_i e; subst e; rw [ho] at hn; cases hn
      · exact hn
    · intro hn; apply h4; simp only [St.set]; split
      · rename_i e; subst e; rw [ho] at hn; cases hn
      · exact hn
  · simp only [St.set]
    split
    · rename_i e; subst e; exact absurd hkn (by simp only [St.set] at hj; omega)
    · exact hs.fresh j hj
theorem Step.upd {k : Nat} {p : Pl} {o' : O} {w' : World} (hk : ρ k = some p) (hb : Below B w w') (hsz : w'.heap.size = w.heap.size) (hoth : ∀ j, j ≠ p.blk → w'.heap[j]? = w.heap[j]?) : Step B ρ s w ρ (s.set k o') w' :=
  ⟨Le.refl ρ, hb, Nat.le_refl _, rfl, fun j _ hn => ⟨hn, by simp only [St.set]; rw [if_neg]; rintro rfl; rw [hk] at hn; cases hn⟩, fun b _ h => ⟨hoth b (fun e => h k p hk e.symm), h⟩, by omega⟩
def Rn.put (ρ : Rn) (k : Nat) (p : Pl) : Rn := fun j => if j = k then some p else ρ j
theorem Sim.nextNone (hs : Sim B ρ s w) : ρ s.next = none := by
  cases h : ρ s.next with
  | none => rfl
  | some p => exact absurd (hs.dom _ _ h).1 (by omega)
theorem Rn.put_le {k : Nat} {p : Pl} (h : ρ k = none) : Le ρ (ρ.put k p) := by
  intro j q hq
  unfold Rn.put
  rw [if_neg]
  · exact hq
  · rintro rfl; rw [h] at hq; cases hq
theorem ObjR_mono {ρ' : Rn} (h : Le ρ ρ') {o : O} {p : Pl} {b : Option Obj} (ho : ObjR ρ o p b) : ObjR ρ' o p b := by
  cases o with
  | cells cs g => obtain ⟨C, el, h1, h2, h3, h4⟩ := ho; exact ⟨C, el, h1, h2, VRs_mono h _ _ h3, h4⟩
  | map es c => obtain ⟨M, h1, h2⟩ := ho; exact ⟨M, h1, ERs_mono h h2⟩
  | loop st => exact ho
theorem Sim.alloc (hs : Sim B ρ s w) (o : O) (ob : Obj) (p : Pl) (hp : p.blk = w.heap.size) (ho : ObjR ρ o p (some ob)) :
    Sim B (ρ.put s.next p) (s.alloc o) (w.alloc ob) := by
  have hn := hs.nextNone
  have hle := Rn.put_le (p := p) hn
  have hsz : (w.alloc ob).heap.size = w.heap.size + 1 := by show (w.heap.push ob).size = _; simp
  have hold : ∀ j, j < w.heap.size → (w.alloc ob).heap[j]? = w.heap[j]? := fun j hj => Below.heap_alloc w ob j hj
  have hbase := hs.base
  refine ⟨by omega, fun b o h => ?_, fun k q h => ?_, fun k q o1 h1 h2 => ?_, fun k1 k2 p1 p2 h1 h2 h3 h4 he => ?_, fun j hj => ?_⟩
  · obtain ⟨h1, h2⟩ := hs.old b o h
    exact ⟨h1, by rw [hold b (by omega)]; exact h2⟩
  · unfold Rn.put at h
    split at h
    · cases h; rename_i e; subst e; exact ⟨by simp [St.alloc], by omega, by omega⟩
    · obtain ⟨a, b, c⟩ := hs.dom k q h
      exact ⟨by simp only [St.alloc]; omega, b, by omega⟩
  · unfold Rn.put at h1
    simp only [St.alloc] at h2
    split at h1
    · rename_i e
      rw [if_pos e] at h2
      cases h1; cases h2
      rw [hp, heap_alloc_new]
      exact ObjR_mono hle ho
    · rename_i e
      rw [if_neg e] at h2
      rw [hold _ (hs.dom k q h1).2.2]
      exact ObjR_mono hle (hs.obj k q o1 h1 h2)
  · unfold Rn.put at h1 h2
    simp only [St.alloc] at h3 h4
    split at h1 <;> split at h2
    · rename_i a b; rw [a, b]
    · cases h1; have := (hs.dom _ _ h2).2.2; omega
    · cases h2; have := (hs.dom _ _ h1).2.2; omega
    · rename_i a b
      rw [if_neg a] at h3
      rw [if_neg b] at h4
      exact hs.inj k1 k2 p1 p2 h1 h2 h3 h4 he
  · simp only [St.alloc] at hj ⊢
    rw [if_neg (by omega)]
    exact hs.fresh j (by omega)
theorem Step.alloc (hs : Sim B ρ s w) (o : O) (ob : Obj) (p : Pl) (hp : p.blk = w.heap.size) : Step B ρ s w (ρ.put s.next p) (s.alloc o) (w.alloc ob) := by
  refine ⟨Rn.put_le hs.nextNone, (Below.refl B w).alloc hs.base ob, by simp [St.alloc], rfl, fun k hk hn => ?_, fun b hb hn => ?_, by show _ ≤ (w.heap.push ob).size; simp⟩
  · have : k ≠ s.next := by omega
    exact ⟨by simp [Rn.put, this, hn], by simp [St.alloc, this]⟩
  · refine ⟨Below.heap_alloc w ob b hb, fun k q hq => ?_⟩
    unfold Rn.put at hq
    split at hq
    · cases hq; omega
    · exact hn k q hq
theorem Sim.heap {w' : World} (hs : Sim B ρ s w) (h : w'.heap = w.heap) : Sim B ρ s w' :=
  ⟨by rw [h]; exact hs.base, fun b o e => by rw [h]; exact hs.old b o e, fun k p e => by rw [h]; exact hs.dom k p e, fun k p o a b => by rw [h]; exact hs.obj k p o a b, hs.inj, hs.fresh⟩
theorem Sim.kill {k : Nat} (hs : Sim B ρ s w) : Sim B ρ (s.kill k) w := by
  have hk : ∀ j, (s.kill k).new j ≠ none → s.new j ≠ none ∧ (s.kill k).new j = s.new j := by
    intro j hj
    simp only [St.kill] at hj ⊢
    split at hj
    · exact absurd rfl hj
    · rename_i e; rw [if_neg e]; exact ⟨hj, rfl⟩
  refine ⟨hs.base, hs.old, hs.dom, fun j p o h1 h2 => ?_, fun k1 k2 p1 p2 h1 h2 h3 h4 he => hs.inj k1 k2 p1 p2 h1 h2 (hk k1 h3).1 (hk k2 h4).1 he, fun j hj => ?_⟩
  · have := (hk j (by rw [h2]; simp)).2
    rw [h2] at this
    exact hs.obj j p o h1 this.symm
  · simp only [St.kill]
    split
    · rfl
    · exact hs.fresh j hj
theorem Sim.write (hs : Sim B ρ s w) {a : Ad} {vs : List V} {s' : St} (hw : writeCells s a vs = some s') {c : Addr} (hp : place ρ a = some c) {L : List Value} (hL : VRs ρ vs L) :
    ∃ C el, w.heap[c.block]? = some (.cells C el (0, 0)) ∧ c.spot = none ∧ c.off + L.length ≤ C.size ∧ (∀ u ∈ L, u.oneCell' = true) ∧
      Sim B ρ s' (w.setRow c.block (C.toList.take c.off ++ L ++ C.toList.drop (c.off + L.length)).toArray) ∧
      Step B ρ s w ρ s' (w.setRow c.block (C.toList.take c.off ++ L ++ C.toList.drop (c.off + L.length)).toArray) := by
  obtain ⟨i, off⟩ := a
  unfold writeCells at hw
  cases i with
  | old b => simp at hw
  | new k =>
    simp only at hw
    simp only [place, Option.map_eq_some_iff] at hp
    obtain ⟨p, hk, rfl⟩ := hp
    cases ho : s.new k with
    | none => simp [ho] at hw
    | some o =>
      cases o with
      | map es cl => simp [ho] at hw
      | loop st => simp [ho] at hw
      | cells cs g =>
        simp only [ho] at hw
        split at hw
        · rename_i hcond
          obtain ⟨hfit, hone⟩ := hcond
          cases hw
          obtain ⟨C, el, hb, hsz, hv, hg⟩ := hs.obj k p _ hk ho
          have hlen := VRs_length hL
          obtain ⟨hkn, hB, hlt⟩ := hs.dom k p hk
          have hb' := setRow_heap w p.blk C (C.toList.take (p.off + off) ++ L ++ C.toList.drop (p.off + off + L.length)).toArray el (0, 0) hb
          have hnew : ObjR ρ (.cells (over cs off vs) g) p (w.setRow p.blk (C.toList.take (p.off + off) ++ L ++ C.toList.drop (p.off + off + L.length)).toArray).heap[p.blk]? := by
            rw [hb']
            have hcl : C.toList.length = C.size := by simp
            have hol : (over cs off vs).length = cs.length := by
              simp only [over, List.length_append, List.length_take, List.length_drop]; omega
            refine ⟨_, el, rfl, ?_, ?_, ?_⟩
            · rw [hol]
              simp only [List.size_toArray, List.length_append, List.length_take, List.length_drop, hcl]
              omega
            · rw [hol]
              refine VRs_iff.2 ⟨?_, fun j x y hx hy => ?_⟩
              · rw [hol]
                simp only [List.length_take, List.length_drop, List.length_append, hcl]
                omega
              · have hj : j < cs.length := by
                  have := (List.getElem?_eq_some_iff.1 hx).1
                  omega
                rw [List.getElem?_take, if_pos hj, List.getElem?_drop] at hy
                simp only [over] at hx
                have key : ∀ j' z, cs[j']? = some z → ∀ y', C.toList[p.off + j']? = some y' → j' < cs.length → VR ρ z y' := by
                  intro j' z hz y' hy' hj'
                  exact (VRs_iff.1 hv).2 j' z y' hz (by rw [List.getElem?_take, if_pos hj', List.getElem?_drop]; exact hy')
                by_cases h1 : j < off
                · rw [List.append_assoc, List.getElem?_append_left (by simp only [List.length_take]; omega), List.getElem?_take, if_pos h1] at hx
                  rw [List.append_assoc, List.getElem?_append_left (by simp only [List.length_take, hcl]; omega), List.getElem?_take, if_pos (by omega)] at hy
                  exact key j x hx y hy hj
                · by_cases h2 : j < off + vs.length
                  · rw [List.append_assoc, List.getElem?_append_right (by simp only [List.length_take]; omega), List.getElem?_append_left (by simp only [List.length_take]; omega)] at hx
                    rw [List.append_assoc, List.getElem?_append_right (by simp only [List.length_take, hcl]; omega), List.getElem?_append_left (by simp only [List.length_take, hcl]; omega)] at hy
                    have e1 : j - (cs.take off).length = j - off := by simp only [List.length_take]; omega
                    have e2 : p.off + j - (C.toList.take (p.off + off)).length = j - off := by simp only [List.length_take, hcl]; omega
                    rw [e1] at hx
                    rw [e2] at hy
                    exact (VRs_iff.1 hL).2 _ x y hx hy
                  · rw [List.getElem?_append_right (by simp only [List.length_append, List.length_take]; omega), List.getElem?_drop] at hx
                    rw [List.getElem?_append_right (by simp only [List.length_append, List.length_take, hcl]; omega), List.getElem?_drop] at hy
                    have e1 : off + vs.length + (j - (cs.take off ++ vs).length) = j := by simp only [List.length_append, List.length_take]; omega
                    have e2 : p.off + off + L.length + (p.off + j - (C.toList.take (p.off + off) ++ L).length) = p.off + j := by simp only [List.length_append, List.length_take, hcl]; omega
                    rw [e1] at hx
                    rw [e2] at hy
                    exact key j x hx y hy hj
            · cases g with
              | none => exact hg
              | some z =>
                refine ⟨hg.1, hg.2.1, ?_⟩
                rw [hg.2.2]
                simp only [List.size_toArray, List.length_append, List.length_take, List.length_drop, hcl]
                omega
          exact ⟨C, el, hb, rfl, by simp only; omega, VRs_one hL hone,
            hs.upd hk ho (by simp) (fun j hj => setRow_other w p.blk j _ hj) hnew,
            Step.upd hk (below_setRow (Below.refl B w) hB _) (by simp) (fun j hj => setRow_other w p.blk j _ hj)⟩
        · cases hw
end
end Go.IM

set_option linter.unusedSimpArgs false
set_option linter.unusedVariables false
namespace Go.IM
section
variable {P : Program} {ρ : Rn} {a : Act} {e : Env}
theorem wit_int {s : Sem Value} {k : IntKind} {n : Int} (h : ∀ w, s.run P w = .ok (.int k n) w) : ∃ v', (∀ w, s.run P w = .ok v' w) ∧ VR ρ (.int k n) v' := ⟨_, h, rfl⟩
theorem wit_bool {s : Sem Value} {b : Bool} (h : ∀ w, s.run P w = .ok (.bool b) w) : ∃ v', (∀ w, s.run P w = .ok v' w) ∧ VR ρ (.bool b) v' := ⟨_, h, rfl⟩
theorem wit_str {s : Sem Value} {b : ByteArray} (h : ∀ w, s.run P w = .ok (.string b) w) : ∃ v', (∀ w, s.run P w = .ok v' w) ∧ VR ρ (.str b) v' := ⟨_, h, rfl⟩
theorem VR_bool {b : Bool} {v : Value} (h : VR ρ (.bool b) v) : v = .bool b := h
theorem VR_int {k : IntKind} {n : Int} {v : Value} (h : VR ρ (.int k n) v) : v = .int k n := h
theorem VR_str {s : ByteArray} {v : Value} (h : VR ρ (.str s) v) : v = .string s := h
theorem intI_ok {op : BinOp} {k : IntKind} {x y : Int} {v : V} (h : intI op k x y = some v) (t : TypeId) :
    ∃ v', (∀ w, (binOp op t (.int k x) (.int k y)).run P w = .ok v' w) ∧ VR ρ v v' := by
  cases op <;> simp only [intI, wrapI] at h <;> first
    | (cases h; exact wit_int fun w => by simp [binOp, Op.intArith, Op.intBits])
    | (cases h; exact wit_bool fun w => by simp [binOp, Op.intCmp])
    | (split at h
       · cases h
       · rename_i hy
         cases h
         exact wit_int fun w => by simp [binOp, Op.intDiv, hy])
    | cases h
theorem binI_ok {op : BinOp} {x y : V} {v : V} (h : binI op x y = some v) (t : TypeId) {x' y' : Value} (hx : VR ρ x x') (hy : VR ρ y y') :
    ∃ v', (∀ w, (binOp op t x' y').run P w = .ok v' w) ∧ VR ρ v v' := by
  unfold binI at h
  split at h
  · rename_i k n k' m
    cases VR_int hx
    cases VR_int hy
    split at h
    · split at h
      · cases h
      · rename_i hm
        cases h
        exact wit_int fun w => by simp [binOp, Op.shift, hm]
    · split at h
      · cases h
      · rename_i hm
        cases h
        exact wit_int fun w => by simp [binOp, Op.shift, hm]
    · split at h
      · rename_i hk
        subst hk
        exact intI_ok h t
      · cases h
  · rename_i s1 s2
    cases VR_str hx
    cases VR_str hy
    cases op <;> simp only at h <;> first
      | (cases h; exact wit_bool fun w => by simp [binOp, Op.stringOp])
      | (split at h
         · cases h
         · rename_i hm
           cases h
           exact wit_str fun w => by simp only [binOp, Op.stringOp, hm, if_false]; rfl)
      | cases h
  · cases h
theorem eqGuard_plain (op : BinOp) (t : TypeId) (x y : Operand) {u v : Value} (h1 : u ≠ .nilIface) (h2 : ∀ c, u ≠ .agg c) (w : World) : (eqGuard op t x y u v).run P w = .ok () w := by
  cases u <;> first
    | exact absurd rfl h1
    | exact absurd rfl (h2 _)
    | (cases op <;> simp [eqGuard])
theorem ckOf_agg {t : TypeId} {k : CK} (h : ckOf P t = some k) (w : World) : (isAgg t).run P w = .ok false w := by
  unfold ckOf at h
  cases hu : P.underlying t with
  | none => simp [hu] at h
  | some d => cases d <;> simp [hu] at h <;> simp [isAgg, run_underlying hu]
theorem cellEq_ok {t : TypeId} {k : CK} {x y : V} {b : Bool} {x' y' : Value} (ht : ckOf P t = some k) (h : cellEq k x y = some b) (hx : VR ρ x x') (hy : VR ρ y y')
    (d : Nat) (w : World) : (Op.equalIn (d + 1) t x' y').run P w = .ok b w := by
  unfold ckOf at ht
  cases hu : P.underlying t with
  | none => simp [hu] at ht
  | some td =>
    unfold cellEq at h
    split at h
    · cases VR_bool hx; cases VR_bool hy; cases h
      cases td <;> simp [hu] at ht <;> simp [Op.equalIn, run_underlying hu]
    · cases VR_int hx; cases VR_int hy
      split at h
      · rename_i hk
        cases h
        cases td <;> simp [hu] at ht <;> simp [Op.equalIn, run_underlying hu, hk]
      · cases h
    · cases VR_str hx; cases VR_str hy; cases h
      cases td <;> simp [hu] at ht <;> simp [Op.equalIn, run_underlying hu]
    · cases h
theorem eqFields_ok (d : Nat) : ∀ (fs : List Field) (ks : List CK) (xs ys : List V) (X Y : Array Value) (i : Nat) (b : Bool),
    (∀ j f, fs[j]? = some f → f.offset = i + j ∧ f.name ≠ "_") → fs.mapM (fun f => ckOf P f.type) = some ks →
    cellsEq ks xs ys = some b → VRs ρ xs (X.toList.drop i) → VRs ρ ys (Y.toList.drop i) →
    ∀ w, (Op.eqFields (d + 1) X Y fs).run P w = .ok b w
  | [], ks, xs, ys, _, _, _, b, _, hk, h, _, _, w => by
    simp at hk; subst hk
    cases xs <;> cases ys <;> simp [cellsEq] at h
    subst h; simp [Op.eqFields]
  | f :: fs, ks, xs, ys, X, Y, i, b, hf, hk, h, hx, hy, w => by
    simp only [List.mapM_cons, Option.bind_eq_bind, Option.pure_def, Option.bind_eq_some_iff, Option.some.injEq] at hk
    obtain ⟨k, hk1, ks', hk2, rfl⟩ := hk
    cases xs with
    | nil => simp [cellsEq] at h
    | cons x xs =>
      cases ys with
      | nil => simp [cellsEq] at h
      | cons y ys =>
        obtain ⟨ho, hn⟩ := hf 0 f rfl
        obtain ⟨x', X', ex, hx1, hx2⟩ := hx
        obtain ⟨y', Y', ey, hy1, hy2⟩ := hy
        have cx : X[i]? = some x' := by
          have h0 : (X.toList.drop i)[0]? = some x' := by rw [ex]; rfl
          simpa using h0
        have cy : Y[i]? = some y' := by
          have h0 : (Y.toList.drop i)[0]? = some y' := by rw [ey]; rfl
          simpa using h0
        have dx : X' = X.toList.drop (i + 1) := by simpa using (congrArg List.tail ex).symm
        have dy : Y' = Y.toList.drop (i + 1) := by simpa using (congrArg List.tail ey).symm
        subst dx dy
        simp only [cellsEq, Option.bind_eq_some_iff] at h
        obtain ⟨c, hc, h⟩ := h
        simp only [Nat.add_zero] at ho
        have px : ∀ w, (part f.type X f.offset).run P w = .ok x' w := fun w => by
          rw [ho]; simp [part, ckOf_agg hk1, cx]
        have py : ∀ w, (part f.type Y f.offset).run P w = .ok y' w := fun w => by
          rw [ho]; simp [part, ckOf_agg hk1, cy]
        have heq := cellEq_ok (ρ := ρ) hk1 hc hx1 hy1 d
        simp only [Op.eqFields, if_pos hn, Sem.run_bind, px, py, heq, Result.andThen_ok]
        cases c with
        | false => simp at h; subst h; simp
        | true =>
          simp only [if_true] at h
          simpa using eqFields_ok d fs ks' xs ys X Y (i + 1) b (fun j g hg => by
            obtain ⟨h1, h2⟩ := hf (j + 1) g (by simpa using hg)
            exact ⟨by omega, h2⟩) hk2 h hx2 hy2 w
theorem keyEq_ok {t : TypeId} {k : KT} {x y : V} {b : Bool} {x' y' : Value} (ht : ktOf P t = some k) (h : keyEq k x y = some b) (hx : VR ρ x x') (hy : VR ρ y y')
    (d : Nat) (w : World) : (Op.equalIn (d + 2) t x' y').run P w = .ok b w := by
  unfold ktOf at ht
  split at ht
  · rename_i fields hu
    split at ht
    · rename_i hcond
      simp only [Bool.and_eq_true, Bool.not_eq_true'] at hcond
      obtain ⟨⟨hall, hst⟩, hg⟩ := hcond
      simp only [Option.map_eq_some_iff] at ht
      obtain ⟨ks, hks, rfl⟩ := ht
      unfold keyEq at h
      split at h
      · rename_i e; cases e
      · rename_i ks' xs ys e
        cases e
        obtain ⟨X, rfl, hX⟩ := hx
        obtain ⟨Y, rfl, hY⟩ := hy
        have hfo : P.fieldsOf t = fields := by simp [Program.fieldsOf, hu]
        rw [run_equalIn_struct w (d + 1) t X Y (by rw [hfo]; exact hu) hst, hfo]
        refine eqFields_ok d fields.toList ks xs ys X Y 0 b (fun j f hj => ?_) hks h (by simpa using hX) (by simpa using hY) w
        have := List.all_eq_true.1 hall (f, j) (by
          rw [List.mem_iff_getElem?]
          exact ⟨j, by simp [List.getElem?_zipIdx, hj]⟩)
        simpa using this
      · cases h
    · cases ht
  · simp only [Option.map_eq_some_iff] at ht
    obtain ⟨c, hc, rfl⟩ := ht
    exact cellEq_ok hc h hx hy (d + 1) w
theorem eqItems_ok (d : Nat) {e : TypeId} {k : CK} (hk : ckOf P e = some k) (X Y : Array Value) : ∀ (n i : Nat) (xs ys : List V) (b : Bool), cellsEq (List.replicate n k) xs ys = some b → VRs ρ xs (X.toList.drop i) → VRs ρ ys (Y.toList.drop i) →
    ∀ w, (Op.eqItems (d + 1) e 1 X Y (List.range' i n)).run P w = .ok b w
  | 0, i, xs, ys, b, h, _, _, w => by
    cases xs <;> cases ys <;> simp [cellsEq] at h
    subst h; simp [Op.eqItems]
  | n + 1, i, xs, ys, b, h, hx, hy, w => by
    cases xs with
    | nil => simp [cellsEq, List.replicate_succ] at h
    | cons x xs =>
      cases ys with
      | nil => simp [cellsEq, List.replicate_succ] at h
      | cons y ys =>
        obtain ⟨x', X', ex, hx1, hx2⟩ := hx
        obtain ⟨y', Y', ey, hy1, hy2⟩ := hy
        have cx : X[i]? = some x' := by
          have h0 : (X.toList.drop i)[0]? = some x' := by rw [ex]; rfl
          simpa using h0
        have cy : Y[i]? = some y' := by
          have h0 : (Y.toList.drop i)[0]? = some y' := by rw [ey]; rfl
          simpa using h0
        have dx : X' = X.toList.drop (i + 1) := by simpa using (congrArg List.tail ex).symm
        have dy : Y' = Y.toList.drop (i + 1) := by simpa using (congrArg List.tail ey).symm
        subst dx dy
        rw [List.replicate_succ] at h
        simp only [cellsEq, Option.bind_eq_some_iff] at h
        obtain ⟨c, hc, h⟩ := h
        have px : ∀ w, (part e X (i * 1)).run P w = .ok x' w := fun w => by
          rw [Nat.mul_one]; simp [part, ckOf_agg hk, cx]
        have py : ∀ w, (part e Y (i * 1)).run P w = .ok y' w := fun w => by
          rw [Nat.mul_one]; simp [part, ckOf_agg hk, cy]
        have heq := cellEq_ok (ρ := ρ) hk hc hx1 hy1 d
        rw [List.range'_succ]
        simp only [Op.eqItems, Sem.run_bind, px, py, heq, Result.andThen_ok]
        cases c with
        | false => simp at h; subst h; simp
        | true =>
          simp only [if_true] at h
          simpa using eqItems_ok d hk X Y n (i + 1) xs ys b h hx2 hy2 w
theorem ekOf_cases {t : TypeId} {k : EK} (h : ekOf P t = some k) :
    (∃ e, k = .ptr ∧ P.underlying t = some (.pointer e)) ∨ (∃ e, k = .slice ∧ P.underlying t = some (.slice e)) ∨ (∃ a b, k = .map ∧ P.underlying t = some (.map a b)) ∨
    (∃ a b c, k = .func ∧ P.underlying t = some (.func a b c)) ∨ (∃ k', k = .key k' ∧ ktOf P t = some k') ∨
    (∃ n el c, k = .key (.agg (List.replicate n c)) ∧ P.underlying t = some (.array n el) ∧ ckOf P el = some c ∧ P.cellsOf el = 1 ∧ (P.info? el).isSome = true ∧ P.eqGuardType P.depth t = false) := by
  unfold ekOf at h
  split at h
  · cases h; exact .inl ⟨_, rfl, by assumption⟩
  · cases h; exact .inr (.inl ⟨_, rfl, by assumption⟩)
  · cases h; exact .inr (.inr (.inl ⟨_, _, rfl, by assumption⟩))
  · cases h; exact .inr (.inr (.inr (.inl ⟨_, _, _, rfl, by assumption⟩)))
  · rename_i n el hu
    split at h
    · rename_i hc
      simp only [Bool.and_eq_true, beq_iff_eq, Bool.not_eq_true'] at hc
      simp only [Option.map_eq_some_iff] at h
      obtain ⟨c, h1, rfl⟩ := h
      exact .inr (.inr (.inr (.inr (.inr ⟨n, el, c, rfl, hu, h1, hc.1.1, hc.1.2, hc.2⟩))))
    · cases h
  · simp only [Option.map_eq_some_iff] at h
    obtain ⟨k', h1, rfl⟩ := h
    exact .inr (.inr (.inr (.inr (.inl ⟨k', rfl, h1⟩))))
section
variable {t : TypeId} {w : World} (d : Nat)
theorem eqIn_ptr0 {e : TypeId} (hu : P.underlying t = some (.pointer e)) (b : Option Addr) : (Op.equalIn (d + 1) t (.pointer none) (.pointer b)).run P w = .ok b.isNone w := by
  simp only [Op.equalIn, Sem.run_bind, run_underlying hu, Result.andThen_ok]; rfl
theorem eqIn_ptr1 {e : TypeId} (hu : P.underlying t = some (.pointer e)) (b : Addr) : (Op.equalIn (d + 1) t (.pointer (some b)) (.pointer none)).run P w = .ok false w := by
  simp only [Op.equalIn, Sem.run_bind, run_underlying hu, Result.andThen_ok]; rfl
theorem eqIn_slice0 {e : TypeId} (hu : P.underlying t = some (.slice e)) (b : Option Addr) (n c n' c' : Nat) : (Op.equalIn (d + 1) t (.slice none n c) (.slice b n' c')).run P w = .ok b.isNone w := by
  simp only [Op.equalIn, Sem.run_bind, run_underlying hu, Result.andThen_ok]; rfl
theorem eqIn_slice1 {e : TypeId} (hu : P.underlying t = some (.slice e)) (b : Addr) (n c n' c' : Nat) : (Op.equalIn (d + 1) t (.slice (some b) n c) (.slice none n' c')).run P w = .ok false w := by
  simp only [Op.equalIn, Sem.run_bind, run_underlying hu, Result.andThen_ok]; rfl
theorem eqIn_map0 {e e' : TypeId} (hu : P.underlying t = some (.map e e')) (b : Option Nat) : (Op.equalIn (d + 1) t (.map none) (.map b)).run P w = .ok b.isNone w := by
  simp only [Op.equalIn, Sem.run_bind, run_underlying hu, Result.andThen_ok]; rfl
theorem eqIn_map1 {e e' : TypeId} (hu : P.underlying t = some (.map e e')) (b : Nat) : (Op.equalIn (d + 1) t (.map (some b)) (.map none)).run P w = .ok false w := by
  simp only [Op.equalIn, Sem.run_bind, run_underlying hu, Result.andThen_ok]; rfl
theorem eqIn_func0 {e e' : Array TypeId} {v : Bool} (hu : P.underlying t = some (.func e e' v)) : (Op.equalIn (d + 1) t .nilFunc .nilFunc).run P w = .ok true w := by
  simp only [Op.equalIn, Sem.run_bind, run_underlying hu, Result.andThen_ok]; rfl
theorem eqIn_func1 {e e' : Array TypeId} {v : Bool} (hu : P.underlying t = some (.func e e' v)) (f : Fn) (p c : Array Value) : (Op.equalIn (d + 1) t .nilFunc (.func f p c)).run P w = .ok false w := by
  simp only [Op.equalIn, Sem.run_bind, run_underlying hu, Result.andThen_ok]; rfl
theorem eqIn_func2 {e e' : Array TypeId} {v : Bool} (hu : P.underlying t = some (.func e e' v)) (f : Fn) (p c : Array Value) : (Op.equalIn (d + 1) t (.func f p c) .nilFunc).run P w = .ok false w := by
  simp only [Op.equalIn, Sem.run_bind, run_underlying hu, Result.andThen_ok]; rfl
end
def Eqs (P : Program) (op : BinOp) (neg : Bool) (t : TypeId) (xo yo : Operand) (x y : Value) (b : Bool) (w : World) : Prop :=
  (do eqGuard op t xo yo x y; binOp op t x y : Sem Value).run P w = .ok (.bool (if neg then !b else b)) w
theorem Eqs_of {op : BinOp} {neg : Bool} (hop : (op = .eql ∧ neg = false) ∨ (op = .neq ∧ neg = true)) {t : TypeId} {xo yo : Operand} {x y : Value} {b : Bool} {w : World}
    (hg : (eqGuard op t xo yo x y).run P w = .ok () w)
    (h1 : binOp .eql t x y = do pure (.bool (← Op.equal t x y))) (h2 : binOp .neq t x y = do pure (.bool (!(← Op.equal t x y))))
    (he : (Op.equalIn (9998 + 2) t x y).run P w = .ok b w) : Eqs P op neg t xo yo x y b w := by
  unfold Eqs
  have he' : (Op.equal t x y).run P w = .ok b w := he
  rcases hop with ⟨rfl, rfl⟩ | ⟨rfl, rfl⟩
  · simp only [Sem.run_bind, hg, Result.andThen_ok, h1, he', Sem.run_pure]; rfl
  · simp only [Sem.run_bind, hg, Result.andThen_ok, h2, he', Sem.run_pure]; rfl
theorem eqlOp_ok {op : BinOp} {neg : Bool} (hop : (op = .eql ∧ neg = false) ∨ (op = .neq ∧ neg = true)) {t : TypeId} {k : EK} {x y : V} {b : Bool} {x' y' : Value}
    (hni : ∀ k, P.underlying t ≠ some (.int k)) (hns : P.underlying t ≠ some .string)
    (ht : ekOf P t = some k) (h : eqI k x y = some b) (hx : VR ρ x x') (hy : VR ρ y y') (xo yo : Operand) (w : World) : Eqs P op neg t xo yo x' y' b w := by
  rcases ekOf_cases ht with ⟨e, rfl, hu⟩ | ⟨e, rfl, hu⟩ | ⟨e, e', rfl, hu⟩ | ⟨e, e', e'', rfl, hu⟩ | ⟨k', rfl, hk⟩ | ⟨n, el, c, rfl, hu, hck, hcl, hin, hgd⟩
  · simp only [eqI] at h
    split at h
    · rename_i bb
      cases h
      cases (show x' = .pointer none from hx)
      cases bb with
      | none => cases (show y' = .pointer none from hy); exact Eqs_of hop (eqGuard_plain _ _ _ _ (by simp) (by simp) w) rfl rfl (eqIn_ptr0 _ hu _)
      | some c => obtain ⟨c', rfl, _⟩ := hy; exact Eqs_of hop (eqGuard_plain _ _ _ _ (by simp) (by simp) w) rfl rfl (eqIn_ptr0 _ hu _)
    · cases h
      obtain ⟨c', rfl, _⟩ := hx
      cases (show y' = .pointer none from hy)
      exact Eqs_of hop (eqGuard_plain _ _ _ _ (by simp) (by simp) w) rfl rfl (eqIn_ptr1 _ hu _)
    · cases h
  · simp only [eqI] at h
    split at h
    · rename_i bb _ _
      cases h
      obtain ⟨_, _, rfl⟩ := hx
      cases bb with
      | none => obtain ⟨_, _, rfl⟩ := hy; exact Eqs_of hop (eqGuard_plain _ _ _ _ (by simp) (by simp) w) rfl rfl (eqIn_slice0 _ hu _ _ _ _ _)
      | some c => obtain ⟨c', _, rfl, _⟩ := hy; exact Eqs_of hop (eqGuard_plain _ _ _ _ (by simp) (by simp) w) rfl rfl (eqIn_slice0 _ hu _ _ _ _ _)
    · cases h
      obtain ⟨c', _, rfl, _⟩ := hx
      obtain ⟨_, _, rfl⟩ := hy
      exact Eqs_of hop (eqGuard_plain _ _ _ _ (by simp) (by simp) w) rfl rfl (eqIn_slice1 _ hu _ _ _ _ _)
    · cases h
  · simp only [eqI] at h
    split at h
    · rename_i bb
      cases h
      cases (show x' = .map none from hx)
      cases bb with
      | none => cases (show y' = .map none from hy); exact Eqs_of hop (eqGuard_plain _ _ _ _ (by simp) (by simp) w) rfl rfl (eqIn_map0 _ hu _)
      | some c => obtain ⟨c', rfl, _⟩ := hy; exact Eqs_of hop (eqGuard_plain _ _ _ _ (by simp) (by simp) w) rfl rfl (eqIn_map0 _ hu _)
    · cases h
      obtain ⟨c', rfl, _⟩ := hx
      cases (show y' = .map none from hy)
      exact Eqs_of hop (eqGuard_plain _ _ _ _ (by simp) (by simp) w) rfl rfl (eqIn_map1 _ hu _)
    · cases h
  · simp only [eqI] at h
    split at h
    · cases h
      cases (show x' = .nilFunc from hx)
      cases (show y' = .nilFunc from hy)
      exact Eqs_of hop (eqGuard_plain _ _ _ _ (by simp) (by simp) w) rfl rfl (eqIn_func0 _ hu)
    · cases h
      cases (show x' = .nilFunc from hx)
      obtain ⟨_, _, _, rfl⟩ := VR_func hy
      exact Eqs_of hop (eqGuard_plain _ _ _ _ (by simp) (by simp) w) rfl rfl (eqIn_func1 _ hu _ _ _)
    · cases h
      obtain ⟨_, _, _, rfl⟩ := VR_func hx
      cases (show y' = .nilFunc from hy)
      exact Eqs_of hop (eqGuard_plain _ _ _ _ (by simp) (by simp) w) rfl rfl (eqIn_func2 _ hu _ _ _)
    · cases h
  · have he := keyEq_ok hk h hx hy 9998 w
    unfold ktOf at hk
    split at hk
    · split at hk
      · rename_i hcond
        simp only [Bool.and_eq_true, Bool.not_eq_true'] at hcond
        simp only [Option.map_eq_some_iff] at hk
        obtain ⟨ks, hks, rfl⟩ := hk
        simp only [eqI, keyEq] at h
        split at h
        · rename_i e; cases e
        · obtain ⟨X, rfl, hX⟩ := hx
          obtain ⟨Y, rfl, hY⟩ := hy
          exact Eqs_of hop (run_eqGuard_agg w op t xo yo X Y hcond.2) rfl rfl he
        · cases h
      · cases hk
    · simp only [Option.map_eq_some_iff] at hk
      obtain ⟨c, hc, rfl⟩ := hk
      have hcb : c = .b := by
        unfold ckOf at hc
        split at hc
        · exact absurd (by assumption) (hni _)
        · cases hc; rfl
        · exact absurd (by assumption) hns
        · cases hc
      subst hcb
      simp only [eqI, keyEq] at h
      unfold cellEq at h
      split at h
      · cases VR_bool hx
        cases VR_bool hy
        exact Eqs_of hop (eqGuard_plain _ _ _ _ (by simp) (by simp) w) rfl rfl he
      · rename_i e; cases e
      · rename_i e; cases e
      · cases h
  · simp only [eqI, keyEq] at h
    split at h
    · rename_i e; cases e
    · rename_i ks' xs ys e
      cases e
      obtain ⟨X, rfl, hX⟩ := hx
      obtain ⟨Y, rfl, hY⟩ := hy
      obtain ⟨i, hi⟩ := Option.isSome_iff_exists.1 hin
      refine Eqs_of hop (run_eqGuard_agg w op t xo yo X Y hgd) rfl rfl ?_
      rw [run_equalIn_array w (9998 + 1) X Y hu hi, hcl, List.range_eq_range']
      exact eqItems_ok 9998 hck X Y n 0 xs ys b h (by simpa using hX) (by simpa using hY) w
    · cases h
end
end Go.IM

set_option linter.unusedSimpArgs false
set_option linter.unusedVariables false
namespace Go.IM
section
variable {P : Program} {ρ : Rn} {a : Act} {e : Env}
theorem foldl_sets (off : Nat) : ∀ (L : List Value) (k : Nat) (C : Array Value), off + k + L.length ≤ C.size →
    ((L.zipIdx k).foldl (fun (cs : Array Value) (p : Value × Nat) => cs.setIfInBounds (off + p.2) p.1) C).toList = C.toList.take (off + k) ++ L ++ C.toList.drop (off + k + L.length)
  | [], k, C, h => by simp
  | x :: L, k, C, h => by
    simp only [List.length_cons] at h
    simp only [List.zipIdx_cons, List.foldl_cons]
    rw [foldl_sets off L (k + 1) _ (by simp; omega)]
    simp only [Array.toList_setIfInBounds, List.length_cons]
    have h1 : off + k < C.toList.length := by simp; omega
    rw [show off + (k + 1) = off + k + 1 from by omega, show off + k + 1 + L.length = off + k + (L.length + 1) from by omega]
    rw [List.drop_set_of_lt (by omega)]
    congr 1
    rw [← List.take_append_getElem (i := off + k) (by simp; omega : off + k < (C.toList.set (off + k) x).length)]
    rw [List.take_set_of_le (Nat.le_refl _)]
    simp
theorem fill_ok (he : VRs ρ e a.tmps.toList) (place : Nat → Option (Nat × Nat)) : ∀ (parts : List (Nat × Operand)) (ps : List (Nat × Nat × Arg)) (cells out : List V) (C : Array Value),
    partsOf place parts = some ps → fillI e cells ps = some out → VRs ρ cells C.toList →
    ∃ C', Instr.fill place C (parts.map fun p => (p.1, a.eval p.2)) = some C' ∧ VRs ρ out C'.toList
  | [], ps, cells, out, C, hp, hf, hc => by
    simp [partsOf] at hp; subst hp
    simp only [fillI] at hf; cases hf
    exact ⟨C, rfl, hc⟩
  | (i, x) :: parts, ps, cells, out, C, hp, hf, hc => by
    simp only [partsOf, List.mapM_cons, Option.bind_eq_bind, Option.pure_def, Option.bind_eq_some_iff, Option.some.injEq] at hp
    obtain ⟨_, ⟨⟨off, size⟩, hpl, rfl⟩, ps', hps, rfl⟩ := hp
    simp only [fillI] at hf
    split at hf
    · rename_i hcond
      obtain ⟨h1, h2, h3⟩ := hcond
      have hv := eval_VR he x
      have hcv := VR_cells hv h3
      have hl := VRs_length hcv
      have hlc := VRs_length hc
      simp only [Array.length_toList] at hl hlc
      have hcond' : (decide ((a.eval x).cells.size ≠ size) || decide (off + (a.eval x).cells.size > C.size)) = false := by
        simp; omega
      simp only [List.map_cons, Instr.fill, hpl, hcond', Bool.false_eq_true, if_false]
      refine fill_ok he place parts ps' _ out _ hps hf ?_
      have hset := foldl_sets off (a.eval x).cells.toList 0 C (by simp; omega)
      rw [← Array.foldl_toList, Array.toList_zipIdx]
      simp only [Nat.add_zero] at hset
      rw [hset]
      unfold over
      rw [hl, ← Array.length_toList]
      exact VRs_append (VRs_append (VRs_take hc _) hcv) (VRs_drop hc _)
    · cases hf
def NatV (v : Value) (n : Nat) : Prop := ∃ k i, v = .int k i ∧ 0 ≤ i ∧ i.toNat = n
theorem asNat_ok {v : V} {n : Nat} {v' : Value} (h : asNat v = some n) (hv : VR ρ v v') : NatV v' n := by
  unfold asNat at h
  split at h
  · split at h
    · rename_i hn
      cases h
      exact ⟨_, _, hv, hn, rfl⟩
    · cases h
  · cases h
theorem bounds_ok {b : Bool} {len cap m h l : Nat} {lo hi mx : Option Value} (hm : (∃ v, mx = some v ∧ NatV v m ∧ m ≤ cap) ∨ (mx = none ∧ m = cap))
    (hh : (∃ v, hi = some v ∧ NatV v h ∧ h ≤ m) ∨ (hi = none ∧ mx = none ∧ h = len)) (hl : (∃ v, lo = some v ∧ NatV v l ∧ l ≤ h) ∨ (lo = none ∧ l = 0)) (w : World) :
    (Instr.sliceBounds b len cap lo hi mx).run P w = .ok (l, h, m) w := by
  have key : ∀ {v : Value} {n y : Nat} (c : BoundsCode), NatV v n → n ≤ y → ∀ w, (Instr.sliceBound v y c).run P w = .ok n w := by
    intro v n y c hv hn w
    obtain ⟨k, i, rfl, h0, rfl⟩ := hv
    exact run_sliceBound w k i y c h0 (by omega)
  rcases hm with ⟨vm, rfl, hvm, hm⟩ | ⟨rfl, rfl⟩
  · rcases hh with ⟨vh, rfl, hvh, hh⟩ | ⟨_, h0, _⟩
    · rcases hl with ⟨vl, rfl, hvl, hl⟩ | ⟨rfl, rfl⟩
      · simp [Instr.sliceBounds, key _ hvm hm, key _ hvh hh, key _ hvl hl]
      · simp [Instr.sliceBounds, key _ hvm hm, key _ hvh hh]
    · cases h0
  · rcases hh with ⟨vh, rfl, hvh, hh⟩ | ⟨rfl, _, rfl⟩
    · rcases hl with ⟨vl, rfl, hvl, hl⟩ | ⟨rfl, rfl⟩
      · simp [Instr.sliceBounds, key _ hvh hh, key _ hvl hl]
      · simp [Instr.sliceBounds, key _ hvh hh]
    · rcases hl with ⟨vl, rfl, hvl, hl⟩ | ⟨rfl, rfl⟩
      · simp [Instr.sliceBounds, key _ hvl hl]
      · simp [Instr.sliceBounds]
theorem opt_lo {x : Option Operand} {l h : Nat} (he : VRs ρ e a.tmps.toList)
    (hx : (match (x.map argOf).map (ev e) with | some v => (asNat v).bind fun l => if l ≤ h then some l else none | none => some 0) = some l) :
    (∃ v, x.map a.eval = some v ∧ NatV v l ∧ l ≤ h) ∨ (x.map a.eval = none ∧ l = 0) := by
  cases x with
  | none => simp at hx; exact .inr ⟨rfl, hx.symm⟩
  | some o =>
    simp only [Option.map_some, Option.bind_eq_some_iff] at hx
    obtain ⟨n, hn, hx⟩ := hx
    split at hx
    · rename_i hle
      cases hx
      exact .inl ⟨_, rfl, asNat_ok hn (eval_VR he o), hle⟩
    · cases hx
theorem opt_hi {x y : Option Operand} {len m h : Nat} (he : VRs ρ e a.tmps.toList)
    (hx : (match (x.map argOf).map (ev e) with | some v => (asNat v).bind fun h => if h ≤ m then some h else none | none => if ((y.map argOf).map (ev e)).isSome then none else some len) = some h) :
    (∃ v, x.map a.eval = some v ∧ NatV v h ∧ h ≤ m) ∨ (x.map a.eval = none ∧ y.map a.eval = none ∧ h = len) := by
  cases x with
  | none =>
    cases y with
    | none => simp at hx; exact .inr ⟨rfl, rfl, hx.symm⟩
    | some o => simp at hx
  | some o =>
    simp only [Option.map_some, Option.bind_eq_some_iff] at hx
    obtain ⟨n, hn, hx⟩ := hx
    split at hx
    · rename_i hle
      cases hx
      exact .inl ⟨_, rfl, asNat_ok hn (eval_VR he o), hle⟩
    · cases hx
theorem place_off {ad : Ad} {c : Addr} (h : place ρ ad = some c) (n : Nat) : place ρ ⟨ad.id, ad.off + n⟩ = some (c.add n) := by
  obtain ⟨i, o⟩ := ad
  cases i with
  | old b => cases h; simp [place, Addr.add_lit]
  | new k =>
    simp only [place, Option.map_eq_some_iff] at h ⊢
    obtain ⟨p, hp, rfl⟩ := h
    exact ⟨p, hp, by simp [Addr.add_lit]; omega⟩
theorem place_spot {ad : Ad} {c : Addr} (h : place ρ ad = some c) : c.spot = none := by
  obtain ⟨i, o⟩ := ad
  cases i with
  | old b => cases h; rfl
  | new k =>
    simp only [place, Option.map_eq_some_iff] at h
    obtain ⟨p, _, rfl⟩ := h
    rfl
theorem reach_off {ad : Ad} {c : Addr} {cap : Nat} {known known' : Option Nat} (h : reach ρ ad c cap known) (n m : Nat) (hm : m ≤ cap) (hk : n = 0 → known' = none → known = none ∧ m = cap) : reach ρ ⟨ad.id, ad.off + n⟩ (c.add n) m known' := by
  obtain ⟨i, o⟩ := ad
  cases i with
  | old b => trivial
  | new k =>
    intro h0 p hp hp0
    simp only at h0
    have hn : n = 0 := by omega
    have ho : o = 0 := by omega
    subst hn ho
    obtain ⟨h1, h2⟩ := h rfl p hp hp0
    have h4 : m * p.sz ≤ cap * p.sz := Nat.mul_le_mul_right _ hm
    have : c.add 0 = c := by simp [Addr.add]
    rw [this]
    refine ⟨by omega, fun hn => ?_⟩
    obtain ⟨g1, g2⟩ := hk rfl hn
    rw [g2]; exact h2 g1
theorem sliceStr_ok (he : VRs ρ e a.tmps.toList) {x : Operand} {lo hi : Option Operand} {v : V} {t : TypeId} (hu : P.underlying t = some .string)
    (h : sliceStrI (ev e (argOf x)) ((lo.map argOf).map (ev e)) ((hi.map argOf).map (ev e)) = some v) :
    ∃ v', (∀ w, (Instr.sliceAt t (a.eval x) (lo.map a.eval) (hi.map a.eval) none).run P w = .ok v' w) ∧ VR ρ v v' := by
  have hx := eval_VR he x
  unfold sliceStrI at h
  split at h
  · rename_i s hev
    rw [hev] at hx
    have hx := VR_str hx
    simp only [Option.bind_eq_some_iff] at h
    obtain ⟨hh, h1, l, h2, h3⟩ := h
    cases h3
    have b2 := opt_lo he h2
    have b1 : (∃ v, hi.map a.eval = some v ∧ NatV v hh ∧ hh ≤ s.size) ∨ (hi.map a.eval = none ∧ (none : Option Value) = none ∧ hh = s.size) := by
      cases hi with
      | none => simp at h1; exact .inr ⟨rfl, rfl, h1.symm⟩
      | some o =>
        simp only [Option.map_some, Option.bind_eq_some_iff] at h1
        obtain ⟨n, hn, h1⟩ := h1
        split at h1
        · rename_i hle
          cases h1
          exact .inl ⟨_, rfl, asNat_ok hn (eval_VR he o), hle⟩
        · cases h1
    refine wit_str fun w => ?_
    rw [hx]
    have hb := bounds_ok (P := P) (b := false) (len := s.size) (cap := s.size) (m := s.size) (mx := none) (.inr ⟨rfl, rfl⟩) b1 b2 w
    simp [Instr.sliceAt, Instr.slice, run_underlying hu, hb]
  · cases h
theorem opt_mx {x : Option Operand} {m cap : Nat} (he : VRs ρ e a.tmps.toList)
    (hx : (match (x.map argOf).map (ev e) with | some v => (asNat v).bind fun l => if l ≤ cap then some l else none | none => some cap) = some m) :
    (∃ v, x.map a.eval = some v ∧ NatV v m ∧ m ≤ cap) ∨ (x.map a.eval = none ∧ m = cap) := by
  cases x with
  | none => simp at hx; exact .inr ⟨rfl, hx.symm⟩
  | some o =>
    simp only [Option.map_some, Option.bind_eq_some_iff] at hx
    obtain ⟨n, hn, hx⟩ := hx
    split at hx
    · rename_i hle
      cases hx
      exact .inl ⟨_, rfl, asNat_ok hn (eval_VR he o), hle⟩
    · cases hx
theorem run_sliceAt {t el : TypeId} {sz len cap l h m : Nat} {ad : Option Addr} {lo hi mx : Option Value} (hu : P.underlying t = some (.slice el)) (hs : sizeOfT P el = some sz)
    {w : World} (hb : (Instr.sliceBounds true len cap lo hi mx).run P w = .ok (l, h, m) w) :
    (Instr.sliceAt t (.slice ad len cap) lo hi mx).run P w = .ok (.slice (if m = l then ad else ad.map (·.add (l * sz))) (h - l) (m - l)) w := by
  obtain ⟨i, hi, rfl⟩ := Option.map_eq_some_iff.1 hs
  simp [Instr.sliceAt, Instr.slice, run_underlying hu, hb, sizeOf, typeInfo, hi]
theorem slice_ok (he : VRs ρ e a.tmps.toList) {x : Operand} {lo hi mx : Option Operand} {sz : Nat} {v : V} {t el : TypeId}
    (hu : P.underlying t = some (.slice el)) (hs : sizeOfT P el = some sz)
    (h : sliceI sz (ev e (argOf x)) ((lo.map argOf).map (ev e)) ((hi.map argOf).map (ev e)) ((mx.map argOf).map (ev e)) = some v) :
    ∃ v', (∀ w, (Instr.sliceAt t (a.eval x) (lo.map a.eval) (hi.map a.eval) (mx.map a.eval)).run P w = .ok v' w) ∧ VR ρ v v' := by
  have hx := eval_VR he x
  unfold sliceI at h
  split at h
  · -- a slice whose capacity is known
    rename_i ad len cap hev
    rw [hev] at hx
    simp only [Option.bind_eq_some_iff] at h
    obtain ⟨m, h0, hh, h1, l, h2, h3⟩ := h
    split at h3
    case isFalse => cases h3
    rename_i hhm
    cases h3
    have b0 := opt_mx he h0
    have b1 := opt_hi he h1
    have b2 := opt_lo he h2
    have hmc : m ≤ cap := by rcases b0 with ⟨_, _, _, h⟩ | ⟨_, rfl⟩; exact h; exact Nat.le_refl _
    have hlh : l ≤ hh := by rcases b2 with ⟨_, _, _, h⟩ | ⟨_, rfl⟩; exact h; exact Nat.zero_le _
    cases ad with
    | none =>
      obtain ⟨rfl, hc, hxv⟩ := hx
      cases hc
      refine ⟨.slice none 0 0, fun w => ?_, ?_⟩
      · rw [hxv, run_sliceAt hu hs (bounds_ok b0 b1 b2 w)]
        have : m = 0 := by omega
        have : hh = 0 := by omega
        have : l = 0 := by omega
        subst_vars
        simp
      · have h1 : m = 0 := by omega
        have h2 : hh = 0 := by omega
        have h3 : l = 0 := by omega
        subst h1 h2 h3
        simp [VR]
    | some ad =>
      obtain ⟨c, cap', hxv, hlc, hcap, hpl, c0, hc0⟩ := hx
      have := hcap cap rfl
      subst this
      refine ⟨_, fun w => by rw [hxv, run_sliceAt hu hs (bounds_ok b0 b1 b2 w)], ?_⟩
      by_cases hml : m = l
      · simp only [hml, if_true]
        exact ⟨c, _, rfl, by omega, fun k hk => by simpa using hk.symm, fun h0 => by omega, c0, hc0⟩
      · simp only [hml, if_false, Option.map_some]
        exact ⟨_, _, rfl, by omega, fun k hk => by simpa using hk.symm, fun h0 => by
          obtain ⟨h1, h2⟩ := hpl (by omega)
          exact ⟨place_off h1 _, reach_off h2 _ _ (by omega) (fun _ hn => by cases hn)⟩, _, place_off hc0 _⟩
  · -- a slice that goes on to its row's end
    rename_i ad len hev
    rw [hev] at hx
    simp only [Option.bind_eq_some_iff] at h
    obtain ⟨m, h0, hh, h1, l, h2, h3⟩ := h
    split at h3
    case isFalse => cases h3
    rename_i hhm
    obtain ⟨hhm, hlsz⟩ := hhm
    cases h3
    have b0 := opt_mx he h0
    have b1 := opt_hi he h1
    have b2 := opt_lo he h2
    obtain ⟨c, cap', hxv, hlc, hcap, hpl, c0, hc0⟩ := hx
    have hml : m ≤ len := by rcases b0 with ⟨_, _, _, h⟩ | ⟨_, rfl⟩; exact h; exact Nat.le_refl _
    have hlh : l ≤ hh := by rcases b2 with ⟨_, _, _, h⟩ | ⟨_, rfl⟩; exact h; exact Nat.zero_le _
    have hm' : ∃ m', ((∃ v, mx.map a.eval = some v ∧ NatV v m' ∧ m' ≤ cap') ∨ (mx.map a.eval = none ∧ m' = cap')) ∧ m ≤ m' ∧ m' ≤ cap' ∧ (((mx.map argOf).map (ev e)).isSome = true → m' = m) := by
      rcases b0 with ⟨v, h1, h2, h3⟩ | ⟨h1, h2⟩
      · exact ⟨m, .inl ⟨v, h1, h2, by omega⟩, Nat.le_refl _, by omega, fun _ => rfl⟩
      · cases mx with
        | none => exact ⟨cap', .inr ⟨rfl, rfl⟩, by omega, Nat.le_refl _, by simp⟩
        | some o => simp at h1
    obtain ⟨m', b0', hmm, hmc, hms⟩ := hm'
    have b1' : (∃ v, hi.map a.eval = some v ∧ NatV v hh ∧ hh ≤ m') ∨ (hi.map a.eval = none ∧ mx.map a.eval = none ∧ hh = len) := by
      rcases b1 with ⟨v, h1, h2, h3⟩ | h
      · exact .inl ⟨v, h1, h2, by omega⟩
      · exact .inr h
    refine ⟨_, fun w => by rw [hxv, run_sliceAt hu hs (bounds_ok b0' b1' b2 w)], ?_⟩
    have hcapR : ∀ k, (if ((mx.map argOf).map (ev e)).isSome = true then some (m - l) else none) = some k → k = m' - l := by
      intro k hk
      split at hk
      · rename_i hs; cases hk; rw [hms hs]
      · cases hk
    by_cases hml : m' = l
    · simp only [hml, if_true]
      exact ⟨c, _, rfl, by omega, fun k hk => by have := hcapR k hk; omega, fun h0 => by omega, _, place_off hc0 _⟩
    · simp only [hml, if_false, Option.map_some]
      exact ⟨_, _, rfl, by omega, hcapR, fun h0 => by
        obtain ⟨h1, h2⟩ := hpl (by omega)
        refine ⟨place_off h1 _, reach_off h2 _ _ (by omega) (fun h00 hn => ⟨rfl, ?_⟩)⟩
        have hl0 : l = 0 := by
          rcases hlsz with h | h
          · exact h
          · rcases Nat.mul_eq_zero.1 h00 with h | h <;> omega
        have hmx : ((mx.map argOf).map (ev e)).isSome = false := by
          cases hmx : ((mx.map argOf).map (ev e)).isSome with
          | false => rfl
          | true => rw [hmx] at hn; simp at hn
        rcases b0' with ⟨v, hv, _⟩ | ⟨_, hv⟩
        · cases mx <;> simp at hmx hv
        · omega, _, place_off hc0 _⟩
  · cases h
theorem aggN_ok {t : TypeId} {n : Option Nat} (ht : aggN P t = some n) : (∀ w, (isAgg t).run P w = .ok n.isSome w) ∧ (∀ k, n = some k → ∀ w, (sizeOf t).run P w = .ok k w) := by
  simp only [aggN, isAggT, sizeOfT, Option.bind_eq_bind, Option.pure_def, Option.bind_eq_some_iff, Option.map_eq_some_iff, Option.some.injEq] at ht
  obtain ⟨b, ⟨d, hu, rfl⟩, m, ⟨i, hi, rfl⟩, rfl⟩ := ht
  refine ⟨fun w => ?_, fun k hk w => ?_⟩
  · have : (isAgg t).run P w = .ok (aggD d) w := by cases d <;> simp [isAgg, run_underlying hu, aggD]
    rw [this]
    cases aggD d <;> rfl
  · split at hk
    · cases hk; simp [sizeOf, typeInfo, hi]
    · cases hk
theorem part_ok {t : TypeId} {n : Option Nat} (ht : aggN P t = some n) {cs : List V} {C : Array Value} (hc : VRs ρ cs C.toList) {off : Nat} {v : V}
    (h : partI n cs off = some v) : ∃ v', (∀ w, (part t C off).run P w = .ok v' w) ∧ VR ρ v v' := by
  obtain ⟨hagg, hsz⟩ := aggN_ok ht
  cases n with
  | none =>
    obtain ⟨y, hy, hv⟩ := VRs_get hc h
    have hy' : C[off]? = some y := by simpa using hy
    exact ⟨y, fun w => by simp [part, hagg, hy'], hv⟩
  | some n =>
    simp only [partI, Option.map_eq_some_iff] at h
    obtain ⟨l, hl, rfl⟩ := h
    obtain ⟨h1, rfl, h3⟩ := cut_some hl
    refine ⟨.agg (C.extract off (off + n)), fun w => by simp [part, hagg, hsz n rfl], _, rfl, ?_⟩
    have := VRs_take (VRs_drop hc off) n
    simpa [Array.toList_extract, List.extract_eq_take_drop] using this
theorem elemOfT_ok {t el : TypeId} (h : elemOfT P t = some el) : P.underlying t = some (.slice el) := by
  unfold elemOfT at h
  split at h
  · cases h; assumption
  · cases h
theorem fieldOfT_ok {t : TypeId} {i : Nat} {f : Field} (h : fieldOfT P t i = some f) : ∃ fields, P.underlying t = some (.struct fields) ∧ fields[i]? = some f := by
  unfold fieldOfT at h
  split at h
  · exact ⟨_, by assumption, h⟩
  · cases h
theorem mapOfT_ok {t k el : TypeId} (h : mapOfT P t = some (k, el)) : P.underlying t = some (.map k el) := by
  unfold mapOfT at h
  split at h
  · cases h; assumption
  · cases h
theorem VRs_map {xs : List Operand} (he : VRs ρ e a.tmps.toList) : VRs ρ ((xs.map argOf).map (ev e)) (xs.map a.eval) := by
  induction xs with
  | nil => rfl
  | cons x xs ih => exact VRs_cons (eval_VR he x) ih
theorem zeroOf_ok {t : TypeId} {z : List V} (h : zeroOf P t = some z) : ∃ i v, P.info? t = some i ∧ i.zero = some v ∧ z = ofVals v.cells.toList := by
  simp only [zeroOf, Option.bind_eq_bind, Option.pure_def, Option.bind_eq_some_iff, Option.some.injEq] at h
  obtain ⟨i, hi, v, hv, rfl⟩ := h
  exact ⟨i, v, hi, hv, rfl⟩
theorem placesOf_mapM (l : List Field) : (l.mapM fun f => do pure (f.offset, ← sizeOfT P f.type) : Option _) = l.mapM (fun f => (P.info? f.type).map fun i => (f.offset, i.size)) := by
  congr 1
  funext f
  simp only [sizeOfT]
  cases P.info? f.type <;> rfl
theorem evalP_ok {o : Oper} {op : IOp} {v : V} (hc : compOp P o = some op) (hk : op.kind = .p) (hev : evalP op e = some v) (he : VRs ρ e a.tmps.toList) :
    ∃ v', (∀ w, (execOp a.eval o).run P w = .ok (.value v') w) ∧ VR ρ v v' := by
  obtain ⟨dst, opp, ty, pos, after, guard⟩ := o
  cases opp with
  | move x =>
    simp only [compOp] at hc; cases hc
    simp only [evalP, Option.some.injEq] at hev; subst hev
    exact ⟨_, fun w => rfl, eval_VR he x⟩
  | assign x =>
    simp only [compOp] at hc; cases hc
    simp only [evalP, Option.some.injEq] at hev; subst hev
    exact ⟨_, fun w => rfl, eval_VR he x⟩
  | pick c x y =>
    simp only [compOp] at hc; cases hc
    simp only [evalP] at hev
    have hcv := eval_VR he c
    split at hev
    · rename_i t ht
      rw [ht] at hcv
      cases hev
      refine ⟨if t then a.eval x else a.eval y, fun w => by simp [execOp, VR_bool hcv, asBool], ?_⟩
      cases t
      · exact eval_VR he y
      · exact eval_VR he x
    · cases hev
  | build t parts =>
    simp only [compOp, Option.bind_eq_bind, Option.pure_def, Option.bind_eq_some_iff, Option.some.injEq] at hc
    obtain ⟨z, hz, pl, hpl, ps, hps, rfl⟩ := hc
    obtain ⟨i, zv, hi, hzv, rfl⟩ := zeroOf_ok hz
    simp only [evalP, Option.map_eq_some_iff] at hev
    obtain ⟨cs, hf, rfl⟩ := hev
    obtain ⟨C, hC, hV⟩ := fill_ok (ρ := ρ) he pl parts.toList ps _ cs zv.cells hps hf (ofVals_VRs ρ _)
    have hb : P.built t (parts.map fun (i, x) => (i, a.eval x)).toList = some C := by
      unfold Program.built
      unfold placesOf at hpl
      cases hu : P.underlying t with
      | none => simp [hu] at hpl
      | some d =>
        cases d <;> simp only [hu] at hpl <;> first | (cases hpl; done) | skip
        · rename_i n el
          simp only [Option.bind_eq_bind, Option.pure_def, Option.bind_eq_some_iff, Option.some.injEq, sizeOfT, Option.map_eq_some_iff] at hpl
          obtain ⟨m, ⟨ie, hie, rfl⟩, rfl⟩ := hpl
          simp only [hi, hzv, hie]
          simpa using hC
        · rename_i fields
          rw [placesOf_mapM] at hpl
          simp only [Option.bind_eq_bind, Option.pure_def, Option.bind_eq_some_iff, Option.some.injEq] at hpl
          obtain ⟨l, hl, rfl⟩ := hpl
          simp only [hi, hzv, hl]
          simpa using hC
    exact ⟨.agg C, fun w => by simp only [execOp, Sem.run_bind, run_build w t _ C hb, Result.andThen_ok]; rfl, C, rfl, hV⟩
  | nilCheck x =>
    simp only [compOp] at hc; cases hc
    simp only [evalP] at hev
    have hx := eval_VR he x
    split at hev
    · rename_i ad had
      rw [had] at hx
      cases hev
      obtain ⟨c, hxe, hp⟩ := hx
      exact ⟨_, fun w => by simp only [execOp, hxe]; rfl, c, rfl, hp⟩
    · rename_i f p c had
      rw [had] at hx
      cases hev
      rcases hx with ⟨h0, p', c', hxe, h1, h2⟩ | ⟨h0, h1, h2, q, h3, hxe⟩
      · exact ⟨_, fun w => by simp only [execOp, hxe]; rfl, .inl ⟨h0, p', c', rfl, h1, h2⟩⟩
      · exact ⟨_, fun w => by simp only [execOp, hxe]; rfl, .inr ⟨h0, h1, h2, q, h3, rfl⟩⟩
    · cases hev
  | binOp op t x y yt =>
    simp only [compOp] at hc
    have hx := eval_VR he x
    have hy := eval_VR he y
    have plain : ∀ {iop : IOp}, iop = .bin op (argOf x) (argOf y) → some iop = some (IOp.bin op (argOf x) (argOf y)) → evalP iop e = some v →
        ∃ v', (∀ w, (execOp a.eval { dst, op := .binOp op t x y yt, type := ty, pos, after, guard }).run P w = .ok (.value v') w) ∧ VR ρ v v' := by
      intro iop h1 _ h2
      subst h1
      simp only [evalP] at h2
      obtain ⟨v', hr, hv⟩ := binI_ok (P := P) h2 t hx hy
      refine ⟨v', fun w => ?_, hv⟩
      have hg : (eqGuard op t x y (a.eval x) (a.eval y)).run P w = .ok () w := by
        unfold binI at h2
        split at h2
        · rename_i h3 _; rw [h3] at hx; rw [VR_int hx]; exact eqGuard_plain _ _ _ _ (by simp) (by simp) w
        · rename_i h3 _; rw [h3] at hx; rw [VR_str hx]; exact eqGuard_plain _ _ _ _ (by simp) (by simp) w
        · cases h2
      simp only [execOp, Sem.run_bind, hg, Result.andThen_ok, hr w]; rfl
    have eqs : ∀ {k : EK} {neg : Bool}, ((op = .eql ∧ neg = false) ∨ (op = .neq ∧ neg = true)) → (∀ k, P.underlying t ≠ some (.int k)) → P.underlying t ≠ some .string → ekOf P t = some k →
        evalP (.eql neg k (argOf x) (argOf y)) e = some v →
        ∃ v', (∀ w, (execOp a.eval { dst, op := .binOp op t x y yt, type := ty, pos, after, guard }).run P w = .ok (.value v') w) ∧ VR ρ v v' := by
      intro k neg hop hni hns hek h2
      simp only [evalP, Option.map_eq_some_iff] at h2
      obtain ⟨b, hb, rfl⟩ := h2
      refine ⟨.bool (if neg then !b else b), fun w => ?_, rfl⟩
      have h := eqlOp_ok hop hni hns hek hb hx hy x y w
      unfold Eqs at h
      simp only [execOp, Sem.run_bind] at h ⊢
      rw [h]; rfl
    unfold compBin at hc
    split at hc
    · cases hc; exact plain rfl rfl hev
    · cases hc; exact plain rfl rfl hev
    · rename_i h1 h2
      simp only [Option.map_eq_some_iff] at hc
      obtain ⟨k, hek, rfl⟩ := hc
      exact eqs (.inl ⟨rfl, rfl⟩) (fun k hh => h1 k hh) (fun hh => h2 hh) hek hev
    · rename_i h1 h2
      simp only [Option.map_eq_some_iff] at hc
      obtain ⟨k, hek, rfl⟩ := hc
      exact eqs (.inr ⟨rfl, rfl⟩) (fun k hh => h1 k hh) (fun hh => h2 hh) hek hev
    · cases hc
  | unOp op xt x =>
    simp only [compOp] at hc; cases hc
    simp only [evalP] at hev
    have hx := eval_VR he x
    unfold unI at hev
    split at hev
    · rename_i had
      rw [had] at hx
      cases hev
      exact ⟨.int _ _, fun w => by simp [execOp, VR_int hx, Op.unary, Op.intArith], rfl⟩
    · rename_i had
      rw [had] at hx
      cases hev
      exact ⟨.bool _, fun w => by simp [execOp, VR_bool hx, Op.unary], rfl⟩
    · cases hev
  | convert src dstT x =>
    simp only [compOp] at hc
    split at hc
    · rename_i k1 k2 h1 h2
      cases hc
      simp only [evalP] at hev
      have hx := eval_VR he x
      split at hev
      · rename_i had
        rw [had] at hx
        cases hev
        exact ⟨.int _ _, fun w => by simp [execOp, VR_int hx, convert, run_underlying h1, run_underlying h2, Conv.intToInt], rfl⟩
      · cases hev
    · cases hc
  | makeFunc f pre caps =>
    cases f with
    | func f =>
      simp only [compOp] at hc
      split at hc
      · rename_i h0
        cases hc
        simp only [evalP, Option.some.injEq] at hev; subst hev
        exact ⟨_, fun w => by simp only [execOp, Instr.makeFunc, Sem.run_bind, Sem.run_pure, Result.andThen_ok]; rfl, .inl ⟨h0, _, _, rfl, by simpa using VRs_map he, by simpa using VRs_map he⟩⟩
      · cases hc
    | _ => simp [compOp] at hc
  | slice t x lo hi mx =>
    simp only [compOp] at hc
    split at hc
    · rename_i hu
      split at hc
      · cases hc
      · rename_i hmx
        cases hc
        have : mx = none := by cases mx <;> simp_all
        subst this
        obtain ⟨v', h1, h2⟩ := sliceStr_ok (ρ := ρ) he hu hev
        exact ⟨v', fun w => by simp only [execOp, Sem.run_bind, Option.map_none, h1 w, Result.andThen_ok]; rfl, h2⟩
    · rename_i el hu
      simp only [Option.map_eq_some_iff] at hc
      obtain ⟨n, hn, rfl⟩ := hc
      obtain ⟨v', h1, h2⟩ := slice_ok (ρ := ρ) he hu hn hev
      exact ⟨v', fun w => by simp only [execOp, Sem.run_bind, h1 w, Result.andThen_ok]; rfl, h2⟩
    · cases hc
  | fieldAddr t x i =>
    simp only [compOp, Option.bind_eq_bind, Option.pure_def, Option.bind_eq_some_iff] at hc
    obtain ⟨f, hf, n, hn, hc⟩ := hc
    obtain ⟨fields, hu, hf⟩ := fieldOfT_ok hf
    split at hc
    · cases hc
    · rename_i hn0
      cases hc
      obtain ⟨inf, hi, rfl⟩ := Option.map_eq_some_iff.1 hn
      simp only [evalP] at hev
      have hx := eval_VR he x
      split at hev
      · rename_i ad had
        rw [had] at hx
        cases hev
        obtain ⟨c, hxe, hp⟩ := hx
        refine ⟨.pointer (some (c.add f.offset)), fun w => ?_, _, rfl, place_off hp _⟩
        simp [execOp, hxe, Instr.fieldAt, run_underlying hu, hf, Instr.sureAddr, fieldPlace, sizeOf, typeInfo, hi, hn0]
      · cases hev
  | field t x i =>
    simp only [compOp, Option.bind_eq_bind, Option.pure_def, Option.bind_eq_some_iff] at hc
    obtain ⟨f, hf, n, hn, hc⟩ := hc
    obtain ⟨fields, hu, hf⟩ := fieldOfT_ok hf
    cases hc
    have hx := eval_VR he x
    simp only [evalP] at hev
    split at hev
    · rename_i cs had
      rw [had] at hx
      obtain ⟨C, hxe, hC⟩ := hx
      obtain ⟨v', h1, h2⟩ := part_ok hn hC hev
      exact ⟨v', fun w => by simp [execOp, hxe, Instr.field, run_underlying hu, hf, asAgg, h1], h2⟩
    · cases hev
  | indexAddr t x i =>
    simp only [compOp, Option.bind_eq_bind, Option.pure_def, Option.bind_eq_some_iff] at hc
    obtain ⟨el, hel, n, hn, hc⟩ := hc
    have hu := elemOfT_ok hel
    cases hc
    obtain ⟨inf, hi, rfl⟩ := Option.map_eq_some_iff.1 hn
    simp only [evalP] at hev
    have hx := eval_VR he x
    split at hev
    · rename_i ad len cap had
      rw [had] at hx
      simp only [Option.bind_eq_some_iff] at hev
      obtain ⟨m, hm, hev⟩ := hev
      split at hev
      · rename_i hlt
        cases hev
        obtain ⟨c, cap', hxe, hlc, _, hpl, _⟩ := hx
        obtain ⟨k, j, hj, h0, rfl⟩ := asNat_ok hm (eval_VR he i)
        have hp := (hpl (by omega)).1
        refine ⟨.pointer (some (c.add (j.toNat * inf.size))), fun w => ?_, _, rfl, place_off hp _⟩
        have hl : j < len := by omega
        simp [execOp, hxe, hj, Instr.indexAt, asIntOf, run_underlying hu, h0, hl, sizeOf, typeInfo, hi]
      · cases hev
    · cases hev
  | index t x i =>
    simp only [compOp] at hc
    split at hc
    · rename_i hu
      cases hc
      simp only [evalP] at hev
      have hx := eval_VR he x
      split at hev
      · rename_i s had
        rw [had] at hx
        simp only [Option.bind_eq_some_iff, Option.map_eq_some_iff] at hev
        obtain ⟨m, hm, c, hc, rfl⟩ := hev
        obtain ⟨k, j, hj, h0, rfl⟩ := asNat_ok hm (eval_VR he i)
        exact ⟨.int .u8 c.toNat, fun w => by simp [execOp, VR_str hx, hj, Instr.index, asIntOf, run_underlying hu, h0, hc], rfl⟩
      · cases hev
    · cases hc
  | extract x i =>
    simp only [compOp] at hc; cases hc
    simp only [evalP] at hev
    have hx := eval_VR he x
    split at hev
    · rename_i vs had
      rw [had] at hx
      obtain ⟨C, hxe, hC⟩ := hx
      obtain ⟨y, hy, hv⟩ := VRs_get hC hev
      have hy' : C[i]? = some y := by simpa using hy
      exact ⟨y, fun w => by simp [execOp, hxe, Instr.extract, hy'], hv⟩
    · cases hev
  | call c =>
    simp only [compOp] at hc
    unfold compCall at hc
    simp only at hc
    split at hc
    · split at hc
      · cases hc; simp [IOp.kind] at hk
      · cases hc
    · cases hc; simp [IOp.kind] at hk
    · rename_i hcal
      split at hc
      · rename_i t x hat hag
        have hargs : ∃ y, c.args = #[y] ∧ x = argOf y := by
          have := congrArg List.length hag
          simp at this
          obtain ⟨l⟩ : Nonempty Unit := ⟨()⟩
          cases hl : c.args.toList with
          | nil => simp [hl] at hag
          | cons y ys =>
            cases ys with
            | nil => simp [hl] at hag; exact ⟨y, by rw [← Array.toArray_toList (xs := c.args), hl], hag.symm⟩
            | cons z zs => simp [hl] at hag
        obtain ⟨y, hy, rfl⟩ := hargs
        have hat' : c.argTypes = #[t] := by rw [← Array.toArray_toList (xs := c.argTypes), hat]
        have hx := eval_VR he y
        split at hc
        · rename_i hu
          cases hc
          simp only [evalP] at hev
          split at hev
          · rename_i s had
            rw [had] at hx
            cases hev
            exact ⟨.int .i64 s.size, fun w => by simp [execOp, resolve, hcal, invoke, builtin, hy, hat', Builtin.len_, run_underlying hu, VR_str hx, goInt], rfl⟩
          · cases hev
        · rename_i el hu
          cases hc
          simp only [evalP] at hev
          split at hev
          · rename_i ad n cp had
            rw [had] at hx
            cases hev
            cases ad with
            | none =>
              obtain ⟨rfl, _, hxe⟩ := hx
              exact ⟨.int .i64 0, fun w => by simp [execOp, resolve, hcal, invoke, builtin, hy, hat', Builtin.len_, run_underlying hu, hxe, goInt], rfl⟩
            | some ad =>
              obtain ⟨_, _, hxe, _⟩ := hx
              exact ⟨.int .i64 n, fun w => by simp [execOp, resolve, hcal, invoke, builtin, hy, hat', Builtin.len_, run_underlying hu, hxe, goInt], rfl⟩
          · cases hev
        · cases hc; simp [IOp.kind] at hk
        · cases hc
      · cases hc
    · split at hc
      · simp only [compAppend, Option.bind_eq_bind, Option.pure_def, Option.bind_eq_some_iff] at hc
        obtain ⟨_, _, _, _, _, _, hc⟩ := hc
        split at hc
        · cases hc; simp [IOp.kind] at hk
        · cases hc
      · cases hc
    · cases hc
  | load t x => simp only [compOp, Option.bind_eq_bind, Option.pure_def, Option.bind_eq_some_iff] at hc; obtain ⟨n, _, hc⟩ := hc; cases hc; simp [IOp.kind] at hk
  | store t x y => simp only [compOp, Option.bind_eq_bind, Option.pure_def, Option.bind_eq_some_iff] at hc; obtain ⟨n, _, hc⟩ := hc; cases hc; simp [IOp.kind] at hk
  | alloc t => simp only [compOp, Option.map_eq_some_iff] at hc; obtain ⟨n, _, rfl⟩ := hc; simp [IOp.kind] at hk
  | box t x => simp only [compOp] at hc; cases hc; simp [IOp.kind] at hk
  | buildSlice t len parts =>
    simp only [compOp, Option.bind_eq_bind, Option.pure_def, Option.bind_eq_some_iff] at hc
    obtain ⟨_, _, _, _, _, _, hc⟩ := hc
    split at hc
    · cases hc
    · simp only [Option.bind_eq_some_iff] at hc; obtain ⟨_, _, hc⟩ := hc; cases hc; simp [IOp.kind] at hk
  | makeMap t r =>
    simp only [compOp] at hc
    split at hc
    · cases hc; simp [IOp.kind] at hk
    · cases hc
  | makeSlice t l c =>
    simp only [compOp, Option.bind_eq_bind, Option.pure_def, Option.bind_eq_some_iff] at hc
    obtain ⟨_, _, _, _, _, _, hc⟩ := hc
    split at hc
    · cases hc
    · cases hc; simp [IOp.kind] at hk
  | lookup t m k ok =>
    simp only [compOp, Option.bind_eq_bind, Option.pure_def, Option.bind_eq_some_iff] at hc
    obtain ⟨_, _, _, _, _, _, _, _, hc⟩ := hc
    cases hc; simp [IOp.kind] at hk
  | mapEntry t m k =>
    simp only [compOp, Option.bind_eq_bind, Option.pure_def, Option.bind_eq_some_iff] at hc
    obtain ⟨_, _, _, _, _, _, _, _, hc⟩ := hc
    cases hc; simp [IOp.kind] at hk
  | entryStore t m st v =>
    simp only [compOp] at hc
    cases hc; simp [IOp.kind] at hk
  | mapUpdate t m k v =>
    simp only [compOp, Option.bind_eq_bind, Option.pure_def, Option.bind_eq_some_iff] at hc
    obtain ⟨_, _, _, _, hc⟩ := hc
    cases hc; simp [IOp.kind] at hk
  | insert t m k v =>
    simp only [compOp, Option.bind_eq_bind, Option.pure_def, Option.bind_eq_some_iff] at hc
    obtain ⟨_, _, _, _, hc⟩ := hc
    cases hc; simp [IOp.kind] at hk
  | _ => simp [compOp] at hc
end
end Go.IM

set_option linter.unusedSimpArgs false
set_option linter.unusedVariables false
namespace Go.IM
open Go.RowKit (Below)
section
variable {P : Program} {B : Nat} {ρ : Rn} {s : St} {w : World} {a : Act} {e : Env}
theorem run_loadVar_ok {t : TypeId} {n : Option Nat} (ht : aggN P t = some n) (hs : Sim B ρ s w) {ad : Ad} {l : List V} {v : V} {c : Addr}
    (hr : readCells s ad (n.getD 1) = some l) (hv : packI n l = some v) (hp : place ρ ad = some c) : ∃ v', (loadVar t c).run P w = .ok v' w ∧ VR ρ v v' := by
  obtain ⟨hagg, hsz⟩ := aggN_ok ht
  obtain ⟨hlen, L, hL, hcell⟩ := hs.read hr hp
  have hl := VRs_length hL
  cases n with
  | none =>
    simp only [Option.getD_none] at hlen
    cases l with
    | nil => simp at hlen
    | cons x xs =>
      simp only [packI, List.head?_cons, Option.some.injEq] at hv
      subst hv
      obtain ⟨y, ys, rfl, hxy, _⟩ := hL
      have h0 := hcell 0 y rfl
      have h0' : w.cell? c = some y := by simpa [Addr.add] using h0
      exact ⟨y, by simp [loadVar, hagg, run_load, h0'], hxy⟩
  | some n =>
    simp only [Option.getD_some] at hlen
    simp only [packI, Option.some.injEq] at hv
    subst hv
    refine ⟨.agg L.toArray, ?_, _, rfl, by simpa using hL⟩
    have h1 := run_loadCells_list (P := P) w c L hcell
    rw [← hl, hlen] at h1
    simp [loadVar, hagg, hsz n rfl, h1]
theorem find_ok {t : TypeId} {kt : KT} (ht : ktOf P t = some kt) {k : V} {k' : Value} (hk : VR ρ k k') : ∀ {es : List (V × V × Nat)} {M : List MapEntry} {i : Nat} {r : Option (Nat × V)},
    ERs ρ es M → findI kt k es i = some r → ∀ w, ∃ r', (Instr.findAsking t k' M i).run P w = .ok r' w ∧
      (match r, r' with | none, none => True | some (j, v), some (j', v') => j = j' ∧ VR ρ v v' ∧ i ≤ j ∧ j < i + es.length | _, _ => False)
  | [], _, i, r, .nil, h, w => by
    simp only [findI, Option.some.injEq] at h; subst h
    exact ⟨none, by simp [Instr.findAsking], trivial⟩
  | (x, v, b) :: es, m :: M, i, r, .cons he hes, h, w => by
    simp only [findI, Option.bind_eq_some_iff] at h
    obtain ⟨c, hc, h⟩ := h
    have heq : (Op.equal t k' m.key).run P w = .ok c w := keyEq_ok (ρ := ρ) ht hc hk he.1 9998 w
    cases c with
    | true =>
      simp only [if_true, Option.some.injEq] at h; subst h
      exact ⟨some (i, m.val), by simp [Instr.findAsking, heq], rfl, he.2.1, Nat.le_refl _, by simp⟩
    | false =>
      simp only [Bool.false_eq_true, if_false] at h
      obtain ⟨r', h1, h2⟩ := find_ok ht hk hes h w
      refine ⟨r', by simp [Instr.findAsking, heq, h1], ?_⟩
      split at h2
      · trivial
      · exact ⟨h2.1, h2.2.1, by omega, by simp; omega⟩
      · exact h2
theorem sameNow_ok {t : TypeId} {kt : KT} (ht : ktOf P t = some kt) {d : TypeDesc} (hd : P.underlying t = some d) {x y : V} {b : Bool} {x' y' : Value} (h : keyEq kt x y = some b) (hx : VR ρ x x') (hy : VR ρ y y') :
    Instr.sameNow d x' y' = some b ∨ Instr.sameNow d x' y' = none := by
  unfold ktOf at ht
  split at ht
  · rename_i fields hu
    rw [hu] at hd; cases hd
    right
    simp [Instr.sameNow]
  · simp only [Option.map_eq_some_iff] at ht
    obtain ⟨c, hc, rfl⟩ := ht
    left
    unfold ckOf at hc
    simp only [keyEq] at h
    unfold cellEq at h
    split at h
    · cases VR_bool hx; cases VR_bool hy; cases h
      rw [hd] at hc
      cases d <;> simp at hc <;> rfl
    · cases VR_int hx; cases VR_int hy
      split at h
      · rename_i hk
        cases h
        rw [hd] at hc
        cases d <;> simp at hc <;> simp [Instr.sameNow, hk]
      · cases h
    · cases VR_str hx; cases VR_str hy; cases h
      rw [hd] at hc
      cases d <;> simp at hc <;> rfl
    · cases h
theorem findNow_ok {t : TypeId} {kt : KT} (ht : ktOf P t = some kt) {d : TypeDesc} (hd : P.underlying t = some d) {k : V} {k' : Value} (hk : VR ρ k k') : ∀ {es : List (V × V × Nat)} {M : List MapEntry} {i : Nat} {r : Option (Nat × V)},
    ERs ρ es M → findI kt k es i = some r → Instr.findNow d k' M i = none ∨ ∃ r', Instr.findNow d k' M i = some r' ∧
      (match r, r' with | none, none => True | some (j, v), some (j', v') => j = j' ∧ VR ρ v v' ∧ i ≤ j ∧ j < i + es.length | _, _ => False)
  | [], _, i, r, .nil, h => by
    simp only [findI, Option.some.injEq] at h; subst h
    exact .inr ⟨none, rfl, trivial⟩
  | (x, v, b) :: es, m :: M, i, r, .cons he hes, h => by
    simp only [findI, Option.bind_eq_some_iff] at h
    obtain ⟨c, hc, h⟩ := h
    rcases sameNow_ok ht hd hc hk he.1 with hs | hs
    · cases c with
      | true =>
        simp only [if_true, Option.some.injEq] at h; subst h
        exact .inr ⟨some (i, m.val), by simp [Instr.findNow, hs], rfl, he.2.1, Nat.le_refl _, by simp⟩
      | false =>
        simp only [Bool.false_eq_true, if_false] at h
        rcases findNow_ok ht hd hk hes h with h1 | ⟨r', h1, h2⟩
        · exact .inl (by simp [Instr.findNow, hs, h1])
        · refine .inr ⟨r', by simp [Instr.findNow, hs, h1], ?_⟩
          split at h2
          · trivial
          · exact ⟨h2.1, h2.2.1, by omega, by simp; omega⟩
          · exact h2
    · exact .inl (by simp [Instr.findNow, hs])
theorem findKey_ok {t : TypeId} {kt : KT} (ht : ktOf P t = some kt) {k : V} {k' : Value} (hk : VR ρ k k') {es : List (V × V × Nat)} {M : List MapEntry} {r : Option (Nat × V)}
    (he : ERs ρ es M) (h : findI kt k es 0 = some r) (w : World) : ∃ r', (Instr.findKey t k' M).run P w = .ok r' w ∧
      (match r, r' with | none, none => True | some (j, v), some (j', v') => j = j' ∧ VR ρ v v' ∧ j < es.length | _, _ => False) := by
  have hu : ∃ d, P.underlying t = some d := by
    unfold ktOf at ht
    split at ht
    · exact ⟨_, by assumption⟩
    · simp only [Option.map_eq_some_iff] at ht
      obtain ⟨c, hc, _⟩ := ht
      unfold ckOf at hc
      split at hc <;> first | exact ⟨_, by assumption⟩ | cases hc
  obtain ⟨d, hd⟩ := hu
  rcases findNow_ok ht hd hk he h with h1 | ⟨r', h1, h2⟩
  · obtain ⟨r', h3, h4⟩ := find_ok ht hk he h w
    refine ⟨r', by simp [Instr.findKey, run_underlying hd, h1, h3], ?_⟩
    cases r with
    | none => cases r' <;> exact h4
    | some r =>
      cases r' with
      | none => exact h4
      | some r' => exact ⟨h4.1, h4.2.1, by have := h4.2.2.2; omega⟩
  · refine ⟨r', by simp [Instr.findKey, run_underlying hd, h1], ?_⟩
    cases r with
    | none => cases r' <;> exact h2
    | some r =>
      cases r' with
      | none => exact h2
      | some r' => exact ⟨h2.1, h2.2.1, by have := h2.2.2.2; omega⟩
theorem ckOf_checkKey {t : TypeId} {c : CK} (h : ckOf P t = some c) (em : Bool) (d : Nat) (v : Value) (w : World) : (Instr.checkKey em (d + 1) t v).run P w = .ok () w := by
  unfold ckOf at h
  split at h
  · rename_i hu; simp only [Instr.checkKey, Sem.run_bind, run_underlying hu, Result.andThen_ok]; rfl
  · rename_i hu; simp only [Instr.checkKey, Sem.run_bind, run_underlying hu, Result.andThen_ok]; rfl
  · rename_i hu; simp only [Instr.checkKey, Sem.run_bind, run_underlying hu, Result.andThen_ok]; rfl
  · cases h
theorem cellEq_self {k : CK} {x : V} {b : Bool} (h : cellEq k x x = some b) : b = true := by
  unfold cellEq at h
  split at h
  · simp_all
  · simp_all
  · rename_i a
    cases h
    obtain ⟨d⟩ := a
    exact beq_self_eq_true (α := Array UInt8) d
  · cases h
theorem cellsEq_self : ∀ {ks : List CK} {xs : List V} {b : Bool}, cellsEq ks xs xs = some b → ks.length = xs.length
  | [], [], _, _ => rfl
  | [], _ :: _, _, h => by simp [cellsEq] at h
  | _ :: _, [], _, h => by simp [cellsEq] at h
  | k :: ks, x :: xs, b, h => by
    simp only [cellsEq, Option.bind_eq_some_iff] at h
    obtain ⟨c, hc, h⟩ := h
    have := cellEq_self hc
    subst this
    simp only [if_true] at h
    simp [cellsEq_self h]
theorem mapM_len {α β : Type} {f : α → Option β} : ∀ {l : List α} {r : List β}, l.mapM f = some r → r.length = l.length
  | [], r, h => by simp at h; subst h; rfl
  | x :: l, r, h => by
    simp only [List.mapM_cons, Option.bind_eq_bind, Option.pure_def, Option.bind_eq_some_iff, Option.some.injEq] at h
    obtain ⟨_, _, r', h2, rfl⟩ := h
    simp [mapM_len h2]
theorem checkKey_ok {t : TypeId} {kt : KT} (ht : ktOf P t = some kt) {k : V} {b : Bool} (hkx : keyEq kt k k = some b) {k' : Value} (hk : VR ρ k k') (em : Bool) (d : Nat) (w : World) :
    (Instr.checkKey em (d + 2) t k').run P w = .ok () w := by
  unfold ktOf at ht
  split at ht
  · rename_i fields hu
    split at ht
    · rename_i hcond
      simp only [Bool.and_eq_true, Bool.not_eq_true'] at hcond
      obtain ⟨⟨hall, hst⟩, hg⟩ := hcond
      simp only [Option.map_eq_some_iff] at ht
      obtain ⟨ks, hks, rfl⟩ := ht
      unfold keyEq at hkx
      split at hkx
      · rename_i e; cases e
      · rename_i xs ys e1 e2
        cases e1
        cases e2
        obtain ⟨X, rfl, hX⟩ := hk
        have hlen := VRs_length hX
        have hsl := cellsEq_self hkx
        have key : ∀ (fs : List Field) (ks : List CK) (i : Nat), (∀ j f, fs[j]? = some f → f.offset = i + j ∧ f.name ≠ "_") → fs.mapM (fun f => ckOf P f.type) = some ks → i + fs.length ≤ X.size →
            ∀ w, (forIn fs PUnit.unit fun f (_ : PUnit) =>
              if f.name ≠ "_" then (do
                let p ← part f.type X f.offset
                Instr.checkKey em (d + 1) f.type p
                pure (ForInStep.yield PUnit.unit) : Sem (ForInStep PUnit))
              else pure (ForInStep.yield PUnit.unit)).run P w = .ok PUnit.unit w := by
          intro fs
          induction fs with
          | nil => intro ks i _ _ _ w; rfl
          | cons f fs ih =>
            intro ks i hf hk hsz w
            simp only [List.mapM_cons, Option.bind_eq_bind, Option.pure_def, Option.bind_eq_some_iff, Option.some.injEq] at hk
            obtain ⟨k, hk1, ks', hk2, rfl⟩ := hk
            obtain ⟨ho, hn⟩ := hf 0 f rfl
            simp only [List.length_cons] at hsz
            have hc : X[f.offset]? = some (X[f.offset]'(by omega)) := Array.getElem?_eq_getElem (by omega)
            have px : ∀ w, (part f.type X f.offset).run P w = .ok (X[f.offset]'(by omega)) w := fun w => by simp [part, ckOf_agg hk1, hc]
            have := ih ks' (i + 1) (fun j g hg => by
              obtain ⟨h1, h2⟩ := hf (j + 1) g (by simpa using hg)
              exact ⟨by omega, h2⟩) hk2 (by omega)
            simp only [List.forIn_cons, if_pos hn, Sem.run_bind, px, Result.andThen_ok, ckOf_checkKey hk1, Sem.run_pure, this]
        have hxl : fields.size ≤ X.size := by
          have hl1 := mapM_len hks
          simp at hl1 hlen
          omega
        have hk' := key fields.toList _ 0 (fun j f hj => by
          have := List.all_eq_true.1 hall (f, j) (by
            rw [List.mem_iff_getElem?]
            exact ⟨j, by simp [List.getElem?_zipIdx, hj]⟩)
          simpa using this) hks (by simpa using hxl) w
        rw [Instr.checkKey]
        simp only [Sem.run_bind, run_underlying hu, Result.andThen_ok]
        rw [← Array.forIn_toList]
        rw [hk']
        rfl
      · cases hkx
    · cases ht
  · simp only [Option.map_eq_some_iff] at ht
    obtain ⟨c, hc, rfl⟩ := ht
    exact ckOf_checkKey hc em (d + 1) k' w
end
end Go.IM

set_option linter.unusedSimpArgs false
set_option linter.unusedVariables false
namespace Go.IM
open Go.RowKit (Below)
section
variable {P : Program} {B : Nat} {ρ : Rn} {s : St} {w : World} {a : Act} {e : Env}
theorem Sim.map (hs : Sim B ρ s w) {i : Id} {es : List (V × V × Nat)} {cl : Nat} (h : s.get i = some (.map es cl)) {b : Nat} (hp : mplace ρ i = some b) :
    ∃ M, w.heap[b]? = some (.map M cl) ∧ ERs ρ es M.toList := by
  cases i with
  | old k =>
    cases hp
    obtain ⟨_, M, h1, h2⟩ := hs.old _ _ h
    exact ⟨M, h1, ERs_mono (none0_le ρ) h2⟩
  | new k =>
    simp only [mplace, Option.map_eq_some_iff] at hp
    obtain ⟨p, hk, rfl⟩ := hp
    obtain ⟨M, h1, h2⟩ := hs.obj k p _ hk h
    exact ⟨M, h1, h2⟩
theorem evalLook_ok {o : Oper} {op : IOp} {v : V} (hc : compOp P o = some op) (hev : evalLook op e s = some v) (he : VRs ρ e a.tmps.toList) (hs : Sim B ρ s w) :
    ∃ v', (execOp a.eval o).run P w = .ok (.value v') w ∧ VR ρ v v' := by
  obtain ⟨dst, opp, ty, pos, after, guard⟩ := o
  cases opp with
  | load t x =>
    simp only [compOp, Option.bind_eq_bind, Option.pure_def, Option.bind_eq_some_iff] at hc
    obtain ⟨n, hn, hc⟩ := hc
    cases hc
    simp only [evalLook] at hev
    have hx := eval_VR he x
    split at hev
    · rename_i ad had
      rw [had] at hx
      obtain ⟨c, hxe, hp⟩ := hx
      simp only [Option.bind_eq_some_iff] at hev
      obtain ⟨l, hl, hv⟩ := hev
      obtain ⟨v', h1, h2⟩ := run_loadVar_ok hn hs hl hv hp
      exact ⟨v', by simp [execOp, hxe, Instr.loadAt, Instr.sureAddr, h1], h2⟩
    · cases hev
  | lookup t m k ok =>
    simp only [compOp, Option.bind_eq_bind, Option.pure_def, Option.bind_eq_some_iff] at hc
    obtain ⟨⟨kt, el⟩, hm, k', hk', i, hi, z, hz, hc⟩ := hc
    have hu := mapOfT_ok hm
    cases hc
    simp only [evalLook] at hev
    have hmv := eval_VR he m
    have hkv := eval_VR he k
    have zv : ∀ w, (zeroValue el).run P w = .ok z w := fun w => by simp [zeroValue, typeInfo, hi, hz]
    unfold lookupI at hev
    simp only [Option.bind_eq_some_iff] at hev
    obtain ⟨es, hes, hev⟩ := hev
    split at hev
    · cases hev
    · rename_i hkk
      simp only [Option.bind_eq_some_iff] at hev
      obtain ⟨r, hr, hev⟩ := hev
      have hself : ∃ b, keyEq k' (ev e (argOf k)) (ev e (argOf k)) = some b := by
        cases h : keyEq k' (ev e (argOf k)) (ev e (argOf k)) with
        | none => simp [h] at hkk
        | some b => exact ⟨b, rfl⟩
      obtain ⟨b0, hb0⟩ := hself
      have hM : ∃ M : Array MapEntry, ERs ρ es M.toList ∧ ((a.eval m = .map none ∧ M = #[]) ∨ ∃ b cl, a.eval m = .map (some b) ∧ w.heap[b]? = some (.map M cl)) := by
        split at hes
        · rename_i had
          rw [had] at hmv
          cases hes
          exact ⟨#[], .nil, .inl ⟨hmv, rfl⟩⟩
        · rename_i id had
          rw [had] at hmv
          obtain ⟨b, hme, hp⟩ := hmv
          split at hes
          · rename_i cl hget
            cases hes
            obtain ⟨M, h1, h2⟩ := hs.map hget hp
            exact ⟨M, h2, .inr ⟨b, _, hme, h1⟩⟩
          · cases hes
        · cases hes
      obtain ⟨M, hER, hME⟩ := hM
      obtain ⟨r', hf, hrr⟩ := findKey_ok hk' hkv hER hr w
      have hck : ∀ em, (Instr.checkKey em 10000 kt (a.eval k)).run P w = .ok () w := fun em => checkKey_ok hk' hb0 hkv em 9998 w
      have hfin : ∃ x y, (match r' with | some (_, v) => (v, true) | none => (z, false)) = (x, y) ∧ VR ρ v (if ok then .tuple #[x, .bool y] else x) := by
        cases r with
        | none =>
          cases r' with
          | none =>
            refine ⟨z, false, rfl, ?_⟩
            cases ok
            · simp only [Bool.false_eq_true, if_false, Option.some.injEq] at hev ⊢; subst hev; exact ofVal_VR ρ z
            · simp only [if_true, Option.some.injEq] at hev ⊢; subst hev; exact ⟨_, rfl, VRs_cons (ofVal_VR ρ z) (VRs_cons rfl VRs_nil)⟩
          | some r' => exact hrr.elim
        | some r =>
          cases r' with
          | none => exact hrr.elim
          | some r' =>
            refine ⟨r'.2, true, rfl, ?_⟩
            cases ok
            · simp only [Bool.false_eq_true, if_false, Option.some.injEq] at hev ⊢; subst hev; exact hrr.2.1
            · simp only [if_true, Option.some.injEq] at hev ⊢; subst hev; exact ⟨_, rfl, VRs_cons hrr.2.1 (VRs_cons rfl VRs_nil)⟩
      obtain ⟨x, y, hxy, hv⟩ := hfin
      refine ⟨_, ?_, hv⟩
      rcases hME with ⟨h1, rfl⟩ | ⟨b, cl, h1, h2⟩
      · simp only [execOp, h1, Instr.lookup, Sem.run_bind, run_underlying hu, Result.andThen_ok, Sem.run_pure, hck, hf]
        cases r' with
        | none => simp only [Sem.run_bind, zv, Result.andThen_ok, Sem.run_pure]; cases hxy; cases ok <;> rfl
        | some r' => simp only [Sem.run_pure, Result.andThen_ok]; cases hxy; cases ok <;> rfl
      · have hg : (getObj b).run P w = .ok (.map M cl) w := by simp [getObj, Sem.run, h2]
        simp only [execOp, h1, Instr.lookup, Sem.run_bind, run_underlying hu, Result.andThen_ok, Sem.run_pure, hck, hf, hg]
        cases r' with
        | none => simp only [Sem.run_bind, zv, Result.andThen_ok, Sem.run_pure]; cases hxy; cases ok <;> rfl
        | some r' => simp only [Sem.run_pure, Result.andThen_ok]; cases hxy; cases ok <;> rfl
  | call c =>
    simp only [compOp] at hc
    unfold compCall at hc
    simp only at hc
    split at hc
    · split at hc
      · cases hc; simp [evalLook] at hev
      · cases hc
    · cases hc; simp [evalLook] at hev
    · rename_i hcal
      split at hc
      · rename_i t x hat hag
        have hargs : ∃ y, c.args = #[y] ∧ x = argOf y := by
          cases hl : c.args.toList with
          | nil => simp [hl] at hag
          | cons y ys =>
            cases ys with
            | nil => simp [hl] at hag; exact ⟨y, by rw [← Array.toArray_toList (xs := c.args), hl], hag.symm⟩
            | cons z zs => simp [hl] at hag
        obtain ⟨y, hy, rfl⟩ := hargs
        have hat' : c.argTypes = #[t] := by rw [← Array.toArray_toList (xs := c.argTypes), hat]
        have hx := eval_VR he y
        split at hc
        · cases hc; simp [evalLook] at hev
        · cases hc; simp [evalLook] at hev
        · rename_i kt el hu
          cases hc
          simp only [evalLook, lenMapI] at hev
          split at hev
          · rename_i had
            rw [had] at hx
            cases hev
            exact ⟨.int .i64 0, by simp [execOp, resolve, hcal, invoke, builtin, hy, hat', Builtin.len_, run_underlying hu, (show a.eval y = .map none from hx), goInt], rfl⟩
          · rename_i id had
            rw [had] at hx
            obtain ⟨b, hxe, hp⟩ := hx
            split at hev
            · rename_i es cl hget
              cases hev
              obtain ⟨M, h1, h2⟩ := hs.map hget hp
              have hg : (getObj b).run P w = .ok (.map M cl) w := by simp [getObj, Sem.run, h1]
              have hl := ERs_length h2
              refine ⟨.int .i64 es.length, ?_, rfl⟩
              simp [execOp, resolve, hcal, invoke, builtin, hy, hat', Builtin.len_, run_underlying hu, hxe, hg, goInt, hl]
            · cases hev
          · cases hev
        · cases hc
      · cases hc
    · split at hc
      · simp only [compAppend, Option.bind_eq_bind, Option.pure_def, Option.bind_eq_some_iff] at hc
        obtain ⟨_, _, _, _, _, _, hc⟩ := hc
        split at hc
        · cases hc; simp [evalLook] at hev
        · cases hc
      · cases hc
    · cases hc
  | move x => simp only [compOp] at hc; cases hc; simp [evalLook] at hev
  | assign x => simp only [compOp] at hc; cases hc; simp [evalLook] at hev
  | pick c x y => simp only [compOp] at hc; cases hc; simp [evalLook] at hev
  | nilCheck x => simp only [compOp] at hc; cases hc; simp [evalLook] at hev
  | unOp op t x => simp only [compOp] at hc; cases hc; simp [evalLook] at hev
  | extract x i => simp only [compOp] at hc; cases hc; simp [evalLook] at hev
  | box t x => simp only [compOp] at hc; cases hc; simp [evalLook] at hev
  | alloc t => simp only [compOp, Option.map_eq_some_iff] at hc; obtain ⟨n, _, rfl⟩ := hc; simp [evalLook] at hev
  | store t x y => simp only [compOp, Option.bind_eq_bind, Option.pure_def, Option.bind_eq_some_iff] at hc; obtain ⟨n, _, hc⟩ := hc; cases hc; simp [evalLook] at hev
  | build t parts =>
    simp only [compOp, Option.bind_eq_bind, Option.pure_def, Option.bind_eq_some_iff] at hc
    obtain ⟨_, _, _, _, _, _, hc⟩ := hc; cases hc; simp [evalLook] at hev
  | buildSlice t len parts =>
    simp only [compOp, Option.bind_eq_bind, Option.pure_def, Option.bind_eq_some_iff] at hc
    obtain ⟨_, _, _, _, _, _, hc⟩ := hc
    split at hc
    · cases hc
    · simp only [Option.bind_eq_some_iff] at hc; obtain ⟨_, _, hc⟩ := hc; cases hc; simp [evalLook] at hev
  | makeMap t r =>
    simp only [compOp] at hc
    split at hc
    · cases hc; simp [evalLook] at hev
    · cases hc
  | makeSlice t l c =>
    simp only [compOp, Option.bind_eq_bind, Option.pure_def, Option.bind_eq_some_iff] at hc
    obtain ⟨_, _, _, _, _, _, hc⟩ := hc
    split at hc
    · cases hc
    · cases hc; simp [evalLook] at hev
  | mapEntry t m k =>
    simp only [compOp, Option.bind_eq_bind, Option.pure_def, Option.bind_eq_some_iff] at hc
    obtain ⟨_, _, _, _, _, _, _, _, hc⟩ := hc
    cases hc; simp [evalLook] at hev
  | entryStore t m st v => simp only [compOp] at hc; cases hc; simp [evalLook] at hev
  | mapUpdate t m k v =>
    simp only [compOp, Option.bind_eq_bind, Option.pure_def, Option.bind_eq_some_iff] at hc
    obtain ⟨_, _, _, _, hc⟩ := hc
    cases hc; simp [evalLook] at hev
  | insert t m k v =>
    simp only [compOp, Option.bind_eq_bind, Option.pure_def, Option.bind_eq_some_iff] at hc
    obtain ⟨_, _, _, _, hc⟩ := hc
    cases hc; simp [evalLook] at hev
  | binOp op t x y yt =>
    simp only [compOp, compBin] at hc
    split at hc
    · cases hc; simp [evalLook] at hev
    · cases hc; simp [evalLook] at hev
    · simp only [Option.map_eq_some_iff] at hc; obtain ⟨_, _, rfl⟩ := hc; simp [evalLook] at hev
    · simp only [Option.map_eq_some_iff] at hc; obtain ⟨_, _, rfl⟩ := hc; simp [evalLook] at hev
    · cases hc
  | convert t u x =>
    simp only [compOp] at hc
    split at hc
    · cases hc; simp [evalLook] at hev
    · cases hc
  | makeFunc f p c =>
    simp only [compOp] at hc
    cases f <;> simp at hc
    obtain ⟨_, rfl⟩ := hc; simp [evalLook] at hev
  | slice t x lo hi mx =>
    simp only [compOp] at hc
    split at hc
    · split at hc
      · cases hc
      · cases hc; simp [evalLook] at hev
    · simp only [Option.map_eq_some_iff] at hc; obtain ⟨_, _, rfl⟩ := hc; simp [evalLook] at hev
    · cases hc
  | fieldAddr t x i =>
    simp only [compOp, Option.bind_eq_bind, Option.pure_def, Option.bind_eq_some_iff] at hc
    obtain ⟨_, _, _, _, hc⟩ := hc
    split at hc
    · cases hc
    · cases hc; simp [evalLook] at hev
  | field t x i =>
    simp only [compOp, Option.bind_eq_bind, Option.pure_def, Option.bind_eq_some_iff] at hc
    obtain ⟨_, _, _, _, hc⟩ := hc
    cases hc; simp [evalLook] at hev
  | indexAddr t x i =>
    simp only [compOp, Option.bind_eq_bind, Option.pure_def, Option.bind_eq_some_iff] at hc
    obtain ⟨_, _, _, _, hc⟩ := hc
    cases hc; simp [evalLook] at hev
  | index t x i =>
    simp only [compOp] at hc
    split at hc
    · cases hc; simp [evalLook] at hev
    · cases hc
  | _ => simp [compOp] at hc
def MadeR (f : Nat → V) (mk : Nat → Value) : Prop := ∀ (ρ : Rn) k p, ρ k = some p → p.off = 0 → p.sz = 0 → VR ρ (f k) (mk p.blk)
theorem made_ptr : MadeR (fun k => .ptr (some ⟨.new k, 0⟩)) (fun b => .pointer (some ⟨b, 0, none⟩)) := by
  intro ρ k p h h0 _
  exact ⟨_, rfl, by simp [place, h, h0]⟩
theorem made_slice (l c : Nat) (h : l ≤ c) : MadeR (fun k => .slice (some ⟨.new k, 0⟩) l (some c)) (fun b => .slice (some ⟨b, 0, none⟩) l c) := by
  intro ρ k p hk h0 hz
  refine ⟨_, _, rfl, h, fun m hm => (Option.some.inj hm).symm, fun _ => ⟨by simp [place, hk, h0], ?_⟩, ⟨p.blk, p.off + 0, none⟩, by simp [place, hk]⟩
  intro _ q hq hz'
  rw [hk] at hq; cases hq
  omega
theorem made_map : MadeR (fun k => .map (some (.new k))) (fun b => .map (some b)) := by
  intro ρ k p h _ _
  exact ⟨_, rfl, by simp [mplace, h]⟩
theorem ObjR_row {cs : List V} {C : Array Value} (h : VRs ρ cs C.toList) (el : TypeId) (b c : Nat) : ObjR ρ (.cells cs none) ⟨b, 0, 0, c, none⟩ (some (.cells C el)) := by
  have hl := VRs_length h
  refine ⟨C, el, rfl, by simp at hl ⊢; omega, ?_, rfl⟩
  rw [List.drop_zero, hl, List.take_length]
  exact h
theorem VRs_zeros {z : List V} {Z : List Value} (h : VRs ρ z Z) : ∀ n, VRs ρ (zeros z n) ((List.replicate n Z).flatten)
  | 0 => rfl
  | n + 1 => by
    simp only [zeros, List.replicate_succ, List.flatten_cons]
    exact VRs_append h (VRs_zeros h n)
theorem flat_getElem (Z : List Value) (hz : 0 < Z.length) : ∀ (n i : Nat), i < n * Z.length → ((List.replicate n Z).flatten)[i]? = Z[i % Z.length]?
  | 0, i, h => by simp at h
  | n + 1, i, h => by
    simp only [List.replicate_succ, List.flatten_cons]
    by_cases hi : i < Z.length
    · rw [List.getElem?_append_left hi, Nat.mod_eq_of_lt hi]
    · rw [List.getElem?_append_right (by omega), flat_getElem Z hz n _ (by rw [Nat.add_mul] at h; omega)]
      congr 1
      exact (Nat.mod_eq_sub_mod (by omega)).symm
theorem zeroCells_flat (Z : Array Value) (n : Nat) (hz : 0 < Z.size) : ((Array.range (n * Z.size)).map (Z[· % Z.size]!)).toList = (List.replicate n Z.toList).flatten := by
  apply List.ext_getElem?
  intro i
  by_cases hi : i < n * Z.size
  · rw [flat_getElem Z.toList (by simpa using hz) n i (by simpa using hi)]
    have hm : i % Z.size < Z.size := Nat.mod_lt _ hz
    simp [hi, hm, getElem!_pos]
  · rw [List.getElem?_eq_none (by simp; omega), List.getElem?_eq_none (by simp; omega)]
theorem run_newRow' (el : TypeId) (C : Array Value) (w : World) : (newRow el C).run P w = .ok ⟨w.heap.size, 0, none⟩ (w.alloc (.cells C el)) := rfl
theorem evalA_ok {o : Oper} {op : IOp} {x : O × (Nat → V)} (hc : compOp P o = some op) (hk : op.kind = .a) (hev : evalA op e = some x) (he : VRs ρ e a.tmps.toList) :
    ∃ (ob : Obj) (mk : Nat → Value), (∀ w, (execOp a.eval o).run P w = .ok (.value (mk w.heap.size)) (w.alloc ob)) ∧ (∀ b c, ObjR ρ x.1 ⟨b, 0, 0, c, none⟩ (some ob)) ∧ MadeR x.2 mk := by
  obtain ⟨dst, opp, ty, pos, after, guard⟩ := o
  cases opp with
  | alloc t =>
    simp only [compOp, Option.map_eq_some_iff] at hc
    obtain ⟨z, hz, rfl⟩ := hc
    obtain ⟨i, zv, hi, hzv, rfl⟩ := zeroOf_ok hz
    simp only [evalA, Option.some.injEq] at hev; subst hev
    refine ⟨.cells zv.cells t, fun b => .pointer (some ⟨b, 0, none⟩), fun w => ?_, fun b c => ObjR_row (ofVals_VRs ρ _) _ _ _, made_ptr⟩
    simp [execOp, Instr.alloc, zeroValue, typeInfo, hi, hzv, newVar, run_newRow']
  | box t x =>
    simp only [compOp] at hc; cases hc
    simp only [evalA] at hev
    split at hev
    · rename_i h1
      cases hev
      refine ⟨.cells (a.eval x).cells t, fun b => .pointer (some ⟨b, 0, none⟩), fun w => ?_, fun b c => ObjR_row (VR_cells (eval_VR he x) h1) _ _ _, made_ptr⟩
      simp [execOp, Instr.box, newVar, run_newRow']
    · cases hev
  | buildSlice t len parts =>
    simp only [compOp, Option.bind_eq_bind, Option.pure_def, Option.bind_eq_some_iff] at hc
    obtain ⟨el, hel, n, hn, z, hz, hc⟩ := hc
    have hu := elemOfT_ok hel
    obtain ⟨i, zv, hi, hzv, rfl⟩ := zeroOf_ok hz
    obtain ⟨i', hi', rfl⟩ := Option.map_eq_some_iff.1 hn
    rw [hi] at hi'; cases hi'
    split at hc
    · cases hc
    · rename_i hcond
      simp only [not_or, Decidable.not_not] at hcond
      obtain ⟨hsz, hlen⟩ := hcond
      simp only [Option.bind_eq_some_iff] at hc
      obtain ⟨ps, hps, hc⟩ := hc
      cases hc
      simp only [evalA, Option.map_eq_some_iff] at hev
      obtain ⟨cs, hf, rfl⟩ := hev
      have hzl : zv.cells.size = i.size := by
        have := VRs_length (ofVals_VRs ρ zv.cells.toList)
        simp at this; omega
      have hZ : VRs ρ (zeros (ofVals zv.cells.toList) len) ((Array.range (len * i.size)).map ((if len * i.size = 0 then #[] else zv.cells)[· % (if len * i.size = 0 then (#[] : Array Value) else zv.cells).size]!)).toList := by
        have h := VRs_zeros (ofVals_VRs ρ zv.cells.toList) len
        by_cases h0 : len * i.size = 0
        · simp only [h0, if_true]
          have : (List.replicate len zv.cells.toList).flatten = [] := by
            apply List.eq_nil_of_length_eq_zero
            simp [hzl, h0]
          rw [this] at h
          simpa using h
        · simp only [h0, if_false]
          have hp : 0 < zv.cells.size := by
            rcases Nat.eq_zero_or_pos i.size with h1 | h1
            · rw [h1] at h0; simp at h0
            · omega
          rw [← hzl, zeroCells_flat _ _ hp]
          exact h
      obtain ⟨C, hC, hV⟩ := fill_ok (ρ := ρ) he (fun j => some (j * i.size, i.size)) parts.toList ps _ cs _ hps hf hZ
      refine ⟨.cells C el, fun b => .slice (some ⟨b, 0, none⟩) len len, fun w => ?_, fun b c => ObjR_row hV _ _ _, made_slice len len (Nat.le_refl _)⟩
      have hC' : Instr.fill (fun j => some (j * i.size, i.size)) ((Array.range (len * i.size)).map ((if len * i.size = 0 then #[] else zv.cells)[· % (if len * i.size = 0 then (#[] : Array Value) else zv.cells).size]!)) (parts.map fun (j, x) => (j, a.eval x)).toList = some C := by
        simpa using hC
      have hsz' : ¬ (2 ^ 24 < len * i.size) := by omega
      by_cases h0 : len * i.size = 0
      · simp only [h0, if_true] at hC'
        have hC3 : Instr.fill (fun j => some (j * i.size, i.size)) (Array.map (fun x => (default : Value)) (Array.range 0)) (List.map (fun x => (x.1, a.eval x.2)) parts.toList) = some C := by simpa using hC'
        simp [execOp, Instr.buildSlice, run_underlying hu, sizeOf, typeInfo, hi, h0, hC3, run_newRow']
      · simp only [h0, if_false] at hC'
        simp only [execOp, Instr.buildSlice, Sem.run_bind, run_underlying hu, Result.andThen_ok, sizeOf, typeInfo, run_program, hi, Sem.run_pure, gt_iff_lt, hsz', if_false, h0, zeroValue, hzv, hC']
        simp [run_newRow']
  | makeMap t r =>
    simp only [compOp] at hc
    split at hc
    · cases hc
      simp only [evalA, Option.some.injEq] at hev; subst hev
      refine ⟨.map #[] 0, fun b => .map (some b), fun w => ?_, fun b c => ⟨#[], rfl, .nil⟩, made_map⟩
      rfl
    · cases hc
  | makeSlice t l c =>
    simp only [compOp, Option.bind_eq_bind, Option.pure_def, Option.bind_eq_some_iff] at hc
    obtain ⟨el, hel, i, hi, z, hz, hc⟩ := hc
    have hu := elemOfT_ok hel
    obtain ⟨i', zv, hi', hzv, rfl⟩ := zeroOf_ok hz
    rw [hi] at hi'; cases hi'
    split at hc
    · cases hc
    · rename_i hzl
      cases hc
      simp only [evalA, Option.bind_eq_some_iff] at hev
      obtain ⟨ln, hln, cn, hcn, hev⟩ := hev
      split at hev
      · rename_i hcond
        obtain ⟨hlc, hb, hm⟩ := hcond
        cases hev
        obtain ⟨kl, li, hl1, hl0, rfl⟩ := asNat_ok hln (eval_VR he l)
        obtain ⟨kc, ci, hc1, hc0, rfl⟩ := asNat_ok hcn (eval_VR he c)
        simp only [maxRow] at hb hm
        have hzl' : zv.cells.size = i.size := by
          have := VRs_length (ofVals_VRs ρ zv.cells.toList)
          simp at this
          simp only [ne_eq, Decidable.not_not] at hzl
          omega
        have hbc : (i.bytes : Int) * ci ≤ 281474976710656 := by
          have h1 : ((ci.toNat * i.bytes : Nat) : Int) ≤ ((2 ^ 47 : Nat) : Int) := Int.ofNat_le.2 hb
          have h2 : ((ci.toNat * i.bytes : Nat) : Int) = ci * i.bytes := by push_cast; rw [Int.toNat_of_nonneg hc0]
          rw [Int.mul_comm, ← h2]
          omega
        refine ⟨.cells (madeCells zv.cells (ci.toNat * i.size)) el, fun b => .slice (some ⟨b, 0, none⟩) li.toNat ci.toNat, fun w => ?_, fun b c => ObjR_row ?_ _ _ _, made_slice _ _ hlc⟩
        · have h := run_make (P := P) w t el i zv hu hi hzv kl kc li ci hl0 (by omega) hbc (by omega)
          simp only [execOp, hl1, hc1, Sem.run_bind, h, Result.andThen_ok]; rfl
        · have h := VRs_zeros (ofVals_VRs ρ zv.cells.toList) ci.toNat
          rcases Nat.eq_zero_or_pos zv.cells.size with h0 | h0
          · have e1 : (List.replicate ci.toNat zv.cells.toList).flatten = [] := by
              apply List.eq_nil_of_length_eq_zero
              simp [h0]
            rw [e1] at h
            have e2 : (madeCells zv.cells (ci.toNat * i.size)).toList = [] := by
              rw [← hzl', h0]; simp [madeCells]
            rw [e2]; exact h
          · have e2 : (madeCells zv.cells (ci.toNat * i.size)).toList = (List.replicate ci.toNat zv.cells.toList).flatten := by
              rw [← hzl', ← zeroCells_flat _ _ h0]; rfl
            rw [e2]; exact h
      · cases hev
  | load t x => simp only [compOp, Option.bind_eq_bind, Option.pure_def, Option.bind_eq_some_iff] at hc; obtain ⟨n, _, hc⟩ := hc; cases hc; simp [evalA] at hev
  | move x => simp only [compOp] at hc; cases hc; simp [evalA] at hev
  | assign x => simp only [compOp] at hc; cases hc; simp [evalA] at hev
  | pick c x y => simp only [compOp] at hc; cases hc; simp [evalA] at hev
  | nilCheck x => simp only [compOp] at hc; cases hc; simp [evalA] at hev
  | unOp op t x => simp only [compOp] at hc; cases hc; simp [evalA] at hev
  | extract x i => simp only [compOp] at hc; cases hc; simp [evalA] at hev
  | store t x y => simp only [compOp, Option.bind_eq_bind, Option.pure_def, Option.bind_eq_some_iff] at hc; obtain ⟨n, _, hc⟩ := hc; cases hc; simp [evalA] at hev
  | build t parts =>
    simp only [compOp, Option.bind_eq_bind, Option.pure_def, Option.bind_eq_some_iff] at hc
    obtain ⟨_, _, _, _, _, _, hc⟩ := hc; cases hc; simp [evalA] at hev
  | lookup t m k ok =>
    simp only [compOp, Option.bind_eq_bind, Option.pure_def, Option.bind_eq_some_iff] at hc
    obtain ⟨_, _, _, _, _, _, _, _, hc⟩ := hc
    cases hc; simp [evalA] at hev
  | mapEntry t m k =>
    simp only [compOp, Option.bind_eq_bind, Option.pure_def, Option.bind_eq_some_iff] at hc
    obtain ⟨_, _, _, _, _, _, _, _, hc⟩ := hc
    cases hc; simp [evalA] at hev
  | entryStore t m st v => simp only [compOp] at hc; cases hc; simp [evalA] at hev
  | mapUpdate t m k v =>
    simp only [compOp, Option.bind_eq_bind, Option.pure_def, Option.bind_eq_some_iff] at hc
    obtain ⟨_, _, _, _, hc⟩ := hc
    cases hc; simp [evalA] at hev
  | insert t m k v =>
    simp only [compOp, Option.bind_eq_bind, Option.pure_def, Option.bind_eq_some_iff] at hc
    obtain ⟨_, _, _, _, hc⟩ := hc
    cases hc; simp [evalA] at hev
  | binOp op t x y yt =>
    simp only [compOp, compBin] at hc
    split at hc
    · cases hc; simp [evalA] at hev
    · cases hc; simp [evalA] at hev
    · simp only [Option.map_eq_some_iff] at hc; obtain ⟨_, _, rfl⟩ := hc; simp [evalA] at hev
    · simp only [Option.map_eq_some_iff] at hc; obtain ⟨_, _, rfl⟩ := hc; simp [evalA] at hev
    · cases hc
  | convert t u x =>
    simp only [compOp] at hc
    split at hc
    · cases hc; simp [evalA] at hev
    · cases hc
  | makeFunc f p c =>
    simp only [compOp] at hc
    cases f <;> simp at hc
    obtain ⟨_, rfl⟩ := hc; simp [evalA] at hev
  | slice t x lo hi mx =>
    simp only [compOp] at hc
    split at hc
    · split at hc
      · cases hc
      · cases hc; simp [evalA] at hev
    · simp only [Option.map_eq_some_iff] at hc; obtain ⟨_, _, rfl⟩ := hc; simp [evalA] at hev
    · cases hc
  | fieldAddr t x i =>
    simp only [compOp, Option.bind_eq_bind, Option.pure_def, Option.bind_eq_some_iff] at hc
    obtain ⟨_, _, _, _, hc⟩ := hc
    split at hc
    · cases hc
    · cases hc; simp [evalA] at hev
  | field t x i =>
    simp only [compOp, Option.bind_eq_bind, Option.pure_def, Option.bind_eq_some_iff] at hc
    obtain ⟨_, _, _, _, hc⟩ := hc
    cases hc; simp [evalA] at hev
  | indexAddr t x i =>
    simp only [compOp, Option.bind_eq_bind, Option.pure_def, Option.bind_eq_some_iff] at hc
    obtain ⟨_, _, _, _, hc⟩ := hc
    cases hc; simp [evalA] at hev
  | index t x i =>
    simp only [compOp] at hc
    split at hc
    · cases hc; simp [evalA] at hev
    · cases hc
  | call c =>
    simp only [compOp] at hc
    unfold compCall at hc
    simp only at hc
    split at hc
    · split at hc
      · cases hc; simp [evalA] at hev
      · cases hc
    · cases hc; simp [evalA] at hev
    · split at hc
      · split at hc
        · cases hc; simp [evalA] at hev
        · cases hc; simp [evalA] at hev
        · cases hc; simp [evalA] at hev
        · cases hc
      · cases hc
    · split at hc
      · simp only [compAppend, Option.bind_eq_bind, Option.pure_def, Option.bind_eq_some_iff] at hc
        obtain ⟨_, _, _, _, _, _, hc⟩ := hc
        split at hc
        · cases hc; simp [evalA] at hev
        · cases hc
      · cases hc
    · cases hc
  | _ => simp [compOp] at hc
end
end Go.IM

set_option linter.unusedSimpArgs false
set_option linter.unusedVariables false
namespace Go.IM
open Go.RowKit (Below)
section
variable {P : Program} {B : Nat} {ρ : Rn} {s : St} {w : World} {a : Act} {e : Env}
def ActsOk (P : Program) (B : Nat) (ρ : Rn) (s : St) (w : World) (r : Result Next) (v : V) (s' : St) : Prop :=
  ∃ ρ' w', Sim B ρ' s' w' ∧ Step B ρ s w ρ' s' w' ∧ ((∃ v', r = .ok (.value v') w' ∧ VR ρ' v v') ∨ (r = .ok .skip w' ∧ v = .any))
theorem store_ok {t : TypeId} {n : Nat} (hn : sizeOfT P t = some n) (hs : Sim B ρ s w) {x y : V} {x' y' : Value} (hx : VR ρ x x') (hy : VR ρ y y') {s' : St}
    (h : storeI n x y s = some s') :
    ∃ w', (Instr.storeAt t x' y').run P w = .ok () w' ∧ Sim B ρ s' w' ∧ Step B ρ s w ρ s' w' := by
  unfold storeI at h
  split at h
  · rename_i ad
    split at h
    · rename_i hl
      have hw := h
      obtain ⟨c, rfl, hp⟩ := hx
      have hone : y.cells.all V.one = true := by
        unfold writeCells at hw
        split at hw
        · cases hw
        · split at hw
          · split at hw
            · rename_i hc; exact hc.2
            · cases hw
          · cases hw
      have hcells := VR_cells hy hone
      obtain ⟨C, el, hb, hsp, hfit, h1, hsim, hstep⟩ := hs.write hw hp hcells
      obtain ⟨cb, co, cs⟩ := c
      simp only at hsp hb hfit hsim hstep
      subst hsp
      obtain ⟨i, hi, rfl⟩ := Option.map_eq_some_iff.1 hn
      have hlen := VRs_length hcells
      have hr := run_storeCells_at P cb co el y'.cells.toList 0 C w hb (by simpa using hfit) h1
      simp only [Nat.add_zero] at hr
      refine ⟨_, ?_, hsim, hstep⟩
      have hsz : y'.cells.size = i.size := by simp at hlen; omega
      simp [Instr.storeAt, Instr.sureAddr, storeVar, sizeOf, typeInfo, hi, hsz, hr]
    · cases h
  · cases h
theorem ERs_append {es fs : List (V × V × Nat)} {M N : List MapEntry} (h : ERs ρ es M) (k : ERs ρ fs N) : ERs ρ (es ++ fs) (M ++ N) := by
  induction h with
  | nil => exact k
  | cons a _ ih => exact .cons a ih
theorem ERs_get {es : List (V × V × Nat)} {M : List MapEntry} (h : ERs ρ es M) : ∀ {i : Nat} {x}, es[i]? = some x → ∃ m, M[i]? = some m ∧ ER ρ x m := by
  induction h with
  | nil => intro i x h; simp at h
  | cons a _ ih =>
    intro i x h
    cases i with
    | zero => simp at h; subst h; exact ⟨_, rfl, a⟩
    | succ i => simpa using ih (by simpa using h)
theorem ERs_modify {es : List (V × V × Nat)} {M : List MapEntry} (h : ERs ρ es M) {f : V × V × Nat → V × V × Nat} {g : MapEntry → MapEntry} (hfg : ∀ x m, ER ρ x m → ER ρ (f x) (g m)) : ∀ i, ERs ρ (es.modify i f) (M.modify i g) := by
  induction h with
  | nil => intro i; cases i <;> exact .nil
  | cons a k ih =>
    intro i
    cases i with
    | zero => exact .cons (hfg _ _ a) k
    | succ i => exact .cons a (ih i)
theorem beq_bytes (a : ByteArray) : (a == a) = true := by
  obtain ⟨d⟩ := a
  exact beq_self_eq_true (α := Array UInt8) d
theorem cellEq_bits {k : CK} {x y : V} (h : cellEq k x y = some true) {x' y' : Value} (hx : VR ρ x x') (hy : VR ρ y y') (n : Nat) : x' = y' ∧ Instr.sameBits n y' x' = true := by
  unfold cellEq at h
  split at h
  · cases VR_bool hx; cases VR_bool hy
    simp only [Option.some.injEq, beq_iff_eq] at h; subst h
    exact ⟨rfl, by cases n <;> simp [Instr.sameBits]⟩
  · cases VR_int hx; cases VR_int hy
    split at h
    · rename_i hk; subst hk
      simp only [Option.some.injEq, beq_iff_eq] at h; subst h
      exact ⟨rfl, by cases n <;> simp [Instr.sameBits]⟩
    · cases h
  · rename_i a b
    cases VR_str hx; cases VR_str hy
    simp only [Option.some.injEq] at h
    have hab : a = b := by
      obtain ⟨a⟩ := a; obtain ⟨b⟩ := b
      have : (a == b) = true := h
      rw [eq_of_beq this]
    subst hab
    exact ⟨rfl, by cases n <;> simp [Instr.sameBits, beq_bytes]⟩
  · cases h
theorem cellsEq_bits : ∀ {ks : List CK} {xs ys : List V}, cellsEq ks xs ys = some true → ∀ {X Y : List Value}, VRs ρ xs X → VRs ρ ys Y → ∀ n, X = Y ∧ ((Y.zip X).all fun p => Instr.sameBits n p.1 p.2) = true
  | [], [], [], _, X, Y, hx, hy, n => by cases (show X = [] from hx); cases (show Y = [] from hy); exact ⟨rfl, rfl⟩
  | [], [], _ :: _, h, _, _, _, _, _ => by simp [cellsEq] at h
  | [], _ :: _, _, h, _, _, _, _, _ => by simp [cellsEq] at h
  | _ :: _, [], _, h, _, _, _, _, _ => by simp [cellsEq] at h
  | _ :: _, _ :: _, [], h, _, _, _, _, _ => by simp [cellsEq] at h
  | k :: ks, x :: xs, y :: ys, h, _, _, ⟨x', X, rfl, hx1, hx2⟩, ⟨y', Y, rfl, hy1, hy2⟩, n => by
    simp only [cellsEq, Option.bind_eq_some_iff] at h
    obtain ⟨c, hc, h⟩ := h
    cases c with
    | false => simp at h
    | true =>
      simp only [if_true] at h
      obtain ⟨h1, h2⟩ := cellEq_bits hc hx1 hy1 n
      obtain ⟨h3, h4⟩ := cellsEq_bits h hx2 hy2 n
      subst h1 h3
      exact ⟨rfl, by simp only [List.zip_cons_cons, List.all_cons, h2, h4, Bool.and_self]⟩
theorem keyEq_bits {kt : KT} {x y : V} (h : keyEq kt x y = some true) {x' y' : Value} (hx : VR ρ x x') (hy : VR ρ y y') (n : Nat) : x' = y' ∧ Instr.sameBits (n + 1) y' x' = true := by
  unfold keyEq at h
  split at h
  · exact cellEq_bits h hx hy (n + 1)
  · obtain ⟨X, rfl, hX⟩ := hx
    obtain ⟨Y, rfl, hY⟩ := hy
    obtain ⟨h1, h2⟩ := cellsEq_bits h hX hY n
    have : X = Y := Array.ext' h1
    subst this
    exact ⟨rfl, by simp only [Instr.sameBits, beq_self_eq_true, Bool.true_and]; exact h2⟩
  · cases h
theorem findI_key {kt : KT} {k : V} : ∀ {es : List (V × V × Nat)} {i j : Nat} {v : V}, findI kt k es i = some (some (j, v)) → i ≤ j ∧ ∃ x b, es[j - i]? = some (x, v, b) ∧ keyEq kt k x = some true
  | [], i, j, v, h => by simp [findI] at h
  | (x, u, b) :: es, i, j, v, h => by
    simp only [findI, Option.bind_eq_some_iff] at h
    obtain ⟨c, hc, h⟩ := h
    cases c with
    | true =>
      simp only [if_true, Option.some.injEq, Prod.mk.injEq] at h
      obtain ⟨rfl, rfl⟩ := h
      exact ⟨Nat.le_refl _, x, b, by simp, hc⟩
    | false =>
      simp only [Bool.false_eq_true, if_false] at h
      obtain ⟨h1, x', b', h2, h3⟩ := findI_key h
      refine ⟨by omega, x', b', ?_, h3⟩
      rw [show j - i = (j - (i + 1)) + 1 from by omega]
      simpa using h2
theorem setObj_ok {b : Nat} {M : Array MapEntry} {cl : Nat} (h : w.heap[b]? = some (.map M cl)) (o : Obj) : (setObj b o).run P w = .ok () { w with heap := w.heap.setIfInBounds b o } := by
  simp [setObj, Sem.run, h]
theorem Sim.setMap (hs : Sim B ρ s w) {k : Nat} {p : Pl} {es es' : List (V × V × Nat)} {cl cl' : Nat} (hk : ρ k = some p) (ho : s.new k = some (.map es cl)) {M' : Array MapEntry}
    (hM : ERs ρ es' M'.toList) : Sim B ρ (s.set k (.map es' cl')) { w with heap := w.heap.setIfInBounds p.blk (.map M' cl') } ∧
      Step B ρ s w ρ (s.set k (.map es' cl')) { w with heap := w.heap.setIfInBounds p.blk (.map M' cl') } := by
  obtain ⟨hkn, hB, hlt⟩ := hs.dom k p hk
  refine ⟨hs.upd hk ho (by simp) (fun j hj => ?_) ⟨M', ?_, hM⟩, Step.upd hk ⟨rfl, rfl, rfl, by simp, fun j hj => ?_⟩ (by simp) (fun j hj => by simp only [Array.getElem?_setIfInBounds]; rw [if_neg (by omega)])⟩
  · simp only [Array.getElem?_setIfInBounds]; rw [if_neg (by omega)]
  · simp only [Array.getElem?_setIfInBounds]; simp [hlt]
  · simp only [Array.getElem?_setIfInBounds]; rw [if_neg (by omega)]
theorem mapSet_ok {t kt0 el : TypeId} {kt : KT} (hu : P.underlying t = some (.map kt0 el)) (hkt : ktOf P kt0 = some kt) (hs : Sim B ρ s w) {m k v : V} {m' k' v' : Value}
    (hm : VR ρ m m') (hk : VR ρ k k') (hv : VR ρ v v') {s' : St} (h : mapSetI kt m k v s = some s') :
    ∃ w', (Instr.mapUpdate t m' k' v').run P w = .ok () w' ∧ Sim B ρ s' w' ∧ Step B ρ s w ρ s' w' := by
  unfold mapSetI at h
  split at h
  · rename_i b
    split at h
    · rename_i es cl hnew
      split at h
      · cases h
      · rename_i hkk
        obtain ⟨c0, hc0⟩ : ∃ b, keyEq kt k k = some b := by
          cases h : keyEq kt k k with
          | none => simp [h] at hkk
          | some b => exact ⟨b, rfl⟩
        obtain ⟨blk, rfl, hp⟩ := hm
        simp only [mplace, Option.map_eq_some_iff] at hp
        obtain ⟨p, hρ, rfl⟩ := hp
        obtain ⟨M, hheap, hER⟩ := hs.obj b p _ hρ hnew
        simp only [Option.map_eq_some_iff] at h
        obtain ⟨r, hr, h⟩ := h
        obtain ⟨r', hf, hrr⟩ := findKey_ok hkt hk hER hr w
        have hg : (getObj p.blk).run P w = .ok (.map M cl) w := by simp [getObj, Sem.run, hheap]
        have hck := checkKey_ok (P := P) hkt hc0 hk false 9998 w
        cases r with
        | none =>
          cases r' with
          | some _ => exact hrr.elim
          | none =>
            simp only at h; subst h
            obtain ⟨h1, h2⟩ := hs.setMap (cl' := cl + 1) hρ hnew (es' := es ++ [(k, v, cl)]) (M' := M.push { key := k', val := v', born := cl })
              (by rw [Array.toList_push]; exact ERs_append hER (.cons ⟨hk, hv, rfl⟩ .nil))
            refine ⟨_, ?_, h1, h2⟩
            have hso := setObj_ok (P := P) hheap (.map (M.push { key := k', val := v', born := cl }) (cl + 1))
            simp only [Instr.mapUpdate, Sem.run_bind, run_underlying hu, Result.andThen_ok, hg, hck, hf, hso]
        | some r =>
          cases r' with
          | none => exact hrr.elim
          | some r' =>
            obtain ⟨j, u⟩ := r
            obtain ⟨j', u'⟩ := r'
            obtain ⟨rfl, _, hjlt⟩ := hrr
            simp only at h; subst h
            obtain ⟨_, x, bn, hx, hkx⟩ := findI_key hr
            simp only [Nat.sub_zero] at hx
            obtain ⟨me, hme, hxe⟩ := ERs_get hER hx
            have hme' : M[j]? = some me := by simpa using hme
            obtain ⟨heq, hbits⟩ := keyEq_bits hkx hk hxe.1 9999
            have hks : (Instr.keyThatStays me.key k').run P w = .ok k' w := by
              simp [Instr.keyThatStays, hbits]
            obtain ⟨h1, h2⟩ := hs.setMap (cl' := cl) hρ hnew (es' := es.modify j fun e => (k, v, e.2.2)) (M' := M.modify j fun e => { e with key := k', val := v' })
              (by rw [Array.toList_modify]; exact ERs_modify (f := fun e => (k, v, e.2.2)) (g := fun e => { e with key := k', val := v' }) hER (fun x m hm => ⟨hk, hv, hm.2.2⟩) j)
            refine ⟨_, ?_, h1, h2⟩
            have hso := setObj_ok (P := P) hheap (.map (M.modify j fun e => { e with key := k', val := v' }) cl)
            simp only [Instr.mapUpdate, Sem.run_bind, run_underlying hu, Result.andThen_ok, hg, hck, hf, hme', Option.map_some, Option.getD_some, hks, hso]
    · cases h
  · cases h
theorem ERs_born {es : List (V × V × Nat)} {M : List MapEntry} (h : ERs ρ es M) : es.map (·.2.2) = M.map (·.born) := by
  induction h with
  | nil => rfl
  | cons a _ ih => simp only [List.map_cons, ih, a.2.2]
theorem mapEnt_ok {t kt0 el : TypeId} {kt : KT} {z : Value} (hu : P.underlying t = some (.map kt0 el)) (hkt : ktOf P kt0 = some kt) (hz : ∀ w, (zeroValue el).run P w = .ok z w) (hs : Sim B ρ s w) {m k : V} {m' k' : Value}
    (hm : VR ρ m m') (hk : VR ρ k k') {v : V} {s' : St} (h : mapEntI kt (ofVal z) m k s = some (v, s')) :
    ∃ w' v', (Instr.mapEntry t m' k').run P w = .ok v' w' ∧ Sim B ρ s' w' ∧ Step B ρ s w ρ s' w' ∧ VR ρ v v' := by
  unfold mapEntI at h
  split at h
  · rename_i b
    split at h
    · rename_i es cl hnew
      split at h
      · cases h
      · rename_i hkk
        obtain ⟨c0, hc0⟩ : ∃ b, keyEq kt k k = some b := by
          cases h : keyEq kt k k with
          | none => simp [h] at hkk
          | some b => exact ⟨b, rfl⟩
        obtain ⟨blk, rfl, hp⟩ := hm
        simp only [mplace, Option.map_eq_some_iff] at hp
        obtain ⟨p, hρ, rfl⟩ := hp
        obtain ⟨M, hheap, hER⟩ := hs.obj b p _ hρ hnew
        simp only [Option.map_eq_some_iff] at h
        obtain ⟨r, hr, h⟩ := h
        obtain ⟨r', hf, hrr⟩ := findKey_ok hkt hk hER hr w
        have hg : (getObj p.blk).run P w = .ok (.map M cl) w := by simp [getObj, Sem.run, hheap]
        have hck := checkKey_ok (P := P) hkt hc0 hk false 9998 w
        cases r with
        | none =>
          cases r' with
          | some _ => exact hrr.elim
          | none =>
            simp only [Prod.mk.injEq] at h
            obtain ⟨rfl, rfl⟩ := h
            obtain ⟨h1, h2⟩ := hs.setMap (cl' := cl + 1) hρ hnew (es' := es ++ [(k, ofVal z, cl)]) (M' := M.push { key := k', val := z, born := cl })
              (by rw [Array.toList_push]; exact ERs_append hER (.cons ⟨hk, ofVal_VR ρ z, rfl⟩ .nil))
            have hso := setObj_ok (P := P) hheap (.map (M.push { key := k', val := z, born := cl }) (cl + 1))
            refine ⟨_, .tuple #[z, goInt cl], ?_, h1, h2, ⟨_, rfl, VRs_cons (ofVal_VR ρ z) (VRs_cons rfl VRs_nil)⟩⟩
            simp only [Instr.mapEntry, Sem.run_bind, run_underlying hu, Result.andThen_ok, hg, hck, hf, hz, hso, Sem.run_pure]
        | some r =>
          cases r' with
          | none => exact hrr.elim
          | some r' =>
            obtain ⟨j, u⟩ := r
            obtain ⟨j', u'⟩ := r'
            obtain ⟨rfl, huv, hjlt⟩ := hrr
            simp only [Prod.mk.injEq] at h
            obtain ⟨rfl, rfl⟩ := h
            obtain ⟨_, x, bn, hx, hkx⟩ := findI_key hr
            simp only [Nat.sub_zero] at hx
            obtain ⟨me, hme, hxe⟩ := ERs_get hER hx
            have hme' : M[j]? = some me := by simpa using hme
            obtain ⟨heq, hbits⟩ := keyEq_bits hkx hk hxe.1 9999
            have hks : (Instr.keyThatStays me.key k').run P w = .ok k' w := by
              simp [Instr.keyThatStays, hbits]
            obtain ⟨h1, h2⟩ := hs.setMap (cl' := cl) hρ hnew (es' := es.modify j fun e => (k, e.2.1, e.2.2)) (M' := M.modify j fun e => { e with key := k' })
              (by rw [Array.toList_modify]; exact ERs_modify (f := fun e => (k, e.2.1, e.2.2)) (g := fun e => { e with key := k' }) hER (fun x m hm => ⟨hk, hm.2.1, hm.2.2⟩) j)
            have hso := setObj_ok (P := P) hheap (.map (M.modify j fun e => { e with key := k' }) cl)
            refine ⟨_, .tuple #[u', goInt me.born], ?_, h1, h2, ⟨_, rfl, VRs_cons huv (VRs_cons ?_ VRs_nil)⟩⟩
            · simp only [Instr.mapEntry, Sem.run_bind, run_underlying hu, Result.andThen_ok, hg, hck, hf, hme', Option.map_some, Option.getD_some, hks, hso, Sem.run_pure]
            · rw [hx]
              show goInt me.born = _
              rw [Option.map_some, Option.getD_some, ← hxe.2.2]
              rfl
    · cases h
  · cases h
theorem entSet_ok {t : TypeId} (hs : Sim B ρ s w) {m st v : V} {m' st' v' : Value} (hm : VR ρ m m') (hst : VR ρ st st') (hv : VR ρ v v') {s' : St} (h : entSetI m st v s = some s') :
    ∃ w', (Instr.entryStore t m' st' v').run P w = .ok () w' ∧ Sim B ρ s' w' ∧ Step B ρ s w ρ s' w' := by
  unfold entSetI at h
  split at h
  · rename_i b kd born
    split at h
    · rename_i es cl hnew
      obtain ⟨blk, rfl, hp⟩ := hm
      simp only [mplace, Option.map_eq_some_iff] at hp
      obtain ⟨p, hρ, rfl⟩ := hp
      obtain ⟨M, hheap, hER⟩ := hs.obj b p _ hρ hnew
      simp only [Option.map_eq_some_iff] at h
      obtain ⟨i, hi, rfl⟩ := h
      have hst' : st' = .int kd born := hst
      subst hst'
      have hg : (getObj p.blk).run P w = .ok (.map M cl) w := by simp [getObj, Sem.run, hheap]
      have hfi : M.findIdx? (fun e => (e.born : Int) == born) = some i := by
        have e1 : es.findIdx? (fun e => (e.2.2 : Int) == born) = (es.map (·.2.2)).findIdx? (fun n : Nat => (n : Int) == born) := by rw [List.findIdx?_map]; rfl
        have e2 : M.findIdx? (fun e => (e.born : Int) == born) = (M.toList.map (·.born)).findIdx? (fun n : Nat => (n : Int) == born) := by rw [List.findIdx?_map, ← List.findIdx?_toArray]; rfl
        rw [e2, ← ERs_born hER, ← e1]; exact hi
      obtain ⟨h1, h2⟩ := hs.setMap (cl' := cl) hρ hnew (es' := es.modify i fun e => (e.1, v, e.2.2)) (M' := M.modify i fun e => { e with val := v' })
        (by rw [Array.toList_modify]; exact ERs_modify (f := fun e => (e.1, v, e.2.2)) (g := fun e => { e with val := v' }) hER (fun x m hm => ⟨hm.1, hv, hm.2.2⟩) i)
      have hso := setObj_ok (P := P) hheap (.map (M.modify i fun e => { e with val := v' }) cl)
      refine ⟨_, ?_, h1, h2⟩
      simp only [Instr.entryStore, asInt, asIntOf, Sem.run_bind, Result.andThen_ok, hg, Sem.run_pure, hfi, hso]
    · cases h
  · cases h
theorem newCells_ok (hs : Sim B ρ s w) {sz : Nat} {y : V} {y' : Value} {r : List V × Nat} (h : newCells s sz y = some r) (hy : VR ρ y y') :
    ∃ N : List Value, VRs ρ r.1 N ∧ N.length = r.2 * sz ∧ (∀ w, (Builtin.lenOf y').run P w = .ok r.2 w) ∧
      ∀ w', w'.heap = w.heap → (Builtin.firstCells sz r.2 y').run P w' = .ok N.toArray w' := by
  unfold newCells at h
  split at h
  · cases h
    obtain ⟨_, _, rfl⟩ := hy
    exact ⟨[], rfl, by simp, fun w => rfl, fun w' _ => by simp [Builtin.firstCells]⟩
  · rename_i ad n cp
    obtain ⟨c, cap, rfl, hlc, _, hpl, _⟩ := hy
    split at h
    · rename_i h0
      subst h0
      cases h
      exact ⟨[], rfl, by simp, fun w => rfl, fun w' _ => by simp [Builtin.firstCells, loadCells, loadCellsFrom]⟩
    · rename_i h0
      simp only [Option.map_eq_some_iff] at h
      obtain ⟨l, hl, rfl⟩ := h
      have hp := (hpl (by omega)).1
      obtain ⟨hlen, L, hL, hcell⟩ := hs.read hl hp
      have hLl := VRs_length hL
      refine ⟨L, hL, by simp only; omega, fun w => rfl, fun w' hw' => ?_⟩
      exact run_firstCells_some (P := P) w' sz n c n cap L (by omega) (fun j v hj => by
        have := hcell j v hj
        unfold World.cell? at this ⊢
        rw [hw']; exact this)
  · rename_i b
    split at h
    · rename_i h1
      cases h
      cases VR_str hy
      subst h1
      refine ⟨b.data.toList.map (fun x => Value.int .u8 x.toNat), ?_, ?_, fun w => rfl, fun w' _ => ?_⟩
      · refine VRs_iff.2 ⟨by simp, fun i x y hx hy => ?_⟩
        simp only [List.getElem?_map, Option.map_eq_some_iff] at hx hy
        obtain ⟨u, hu, rfl⟩ := hx
        obtain ⟨v, hv, rfl⟩ := hy
        rw [hu] at hv; cases hv
        rfl
      · rw [List.length_map, Array.length_toList, Nat.mul_one]; rfl
      · simp only [Builtin.firstCells, Sem.run_pure]
        congr 1
        apply Array.ext'
        have : (b.extract 0 b.size).data = b.data := by
          rw [ByteArray.data_extract]
          exact Array.extract_size
        simp [this]
    · cases h
  · cases h
theorem appendsT_ok {u : TypeId} (h : appendsT P u = true) : (∃ e, P.underlying u = some (.slice e)) ∨ P.underlying u = some .string := by
  unfold appendsT at h
  split at h
  · exact .inl ⟨_, by assumption⟩
  · exact .inr (by assumption)
  · cases h
theorem run_append_in {t u ty el : TypeId} {i : TypeInfo} (ht : P.underlying t = some (.slice el)) (hi : P.info? el = some i) (hu : appendsT P u = true) {y' : Value} {n : Nat} {N : List Value}
    (hlen : ∀ w, (Builtin.lenOf y').run P w = .ok n w) (hf : (Builtin.firstCells i.size n y').run P w = .ok N.toArray w) {base : Option Addr} {l c : Nat} (hfit : l + n ≤ c) {w1 : World}
    (hst : ∀ b, base = some b → (storeCells (b.add (l * i.size)) N).run P w = .ok () w1) (hb : base = none → w1 = w) :
    (Builtin.append_ #[t, u] ty #[.slice base l c, y']).run P w = .ok (.slice base (l + n) c) w1 := by
  rcases appendsT_ok hu with ⟨d, hd⟩ | hd <;> cases base with
  | none =>
    cases hb rfl
    simp [Builtin.append_, run_underlying ht, run_underlying hd, sizeOf, typeInfo, hi, hlen, hfit, hf]
  | some b =>
    simp [Builtin.append_, run_underlying ht, run_underlying hd, sizeOf, typeInfo, hi, hlen, hfit, hf, hst b rfl]
theorem run_append_out {t u ty el : TypeId} {i : TypeInfo} {z : Value} (ht : P.underlying t = some (.slice el)) (hi : P.info? el = some i) (hz : i.zero = some z) (hu : appendsT P u = true) {y' : Value} {n : Nat} {N O : List Value}
    (hlen : ∀ w, (Builtin.lenOf y').run P w = .ok n w) (hf : ∀ w', w'.heap = w.heap → (Builtin.firstCells i.size n y').run P w' = .ok N.toArray w') {base : Option Addr} {l c : Nat} (hfit : c < l + n)
    (ho : ∀ w', w'.heap = w.heap → (Builtin.firstCells i.size l (.slice base l c)).run P w' = .ok O.toArray w') (h63 : l + n ≤ maxRow) (h48 : (l + n) * i.bytes ≤ maxRow) :
    ∃ C c', (Builtin.append_ #[t, u] ty #[.slice base l c, y']).run P w = .ok (.slice (some ⟨w.heap.size, 0, none⟩) (l + n) c') (w.drew.alloc (.cells (O ++ N ++ C).toArray el)) ∧
      l + n ≤ c' ∧ C.length = (c' - (l + n)) * z.cells.size := by
  unfold maxRow at h63 h48
  have hn : ¬ (l + n ≤ c) := by omega
  have h63' : ¬ (9223372036854775807 < ((l : Int) + (n : Int))) := by omega
  have hcap := nextslicecap_le hfit
  have h48' : ¬ (281474976710656 < Builtin.nextslicecap (l + n) c * i.bytes) := by
    have h1 : Builtin.nextslicecap (l + n) c * i.bytes ≤ 2 * (l + n) * i.bytes := Nat.mul_le_mul_right _ hcap
    have h2 : 2 * (l + n) * i.bytes = 2 * ((l + n) * i.bytes) := Nat.mul_assoc _ _ _
    omega
  have hf1 := hf w.drew rfl
  have ho1 := ho w.drew rfl
  refine ⟨(Builtin.zeroCells z.cells (grownCap w (l + n) c el - (l + n))).toList, grownCap w (l + n) c el, ?_, ?_, by simp [Builtin.zeroCells]⟩
  · rcases appendsT_ok hu with ⟨d, hd⟩ | hd
    all_goals
      simp [Builtin.append_, run_underlying ht, run_underlying hd, sizeOf, typeInfo, zeroValue, hi, hz, hlen, hn, h63', h48', Question.forced, hf1, ho1, newRow, grownCap]
      congr 2
      apply Array.ext'
      simp [List.append_assoc]
  · simp [grownCap, Question.cut]
theorem ObjR_grown {cs : List V} {L C : List Value} (h : VRs ρ cs L) (el : TypeId) (b sz : Nat) (h0 : 0 < sz) :
    ObjR ρ (.cells cs (some sz)) ⟨b, 0, sz, (L ++ C).length, none⟩ (some (.cells (L ++ C).toArray el)) := by
  have hl := VRs_length h
  refine ⟨_, el, rfl, by simp; omega, ?_, rfl, h0, by simp⟩
  simp only [List.drop_zero]
  rw [hl, List.take_left]
  exact h
theorem Sim.grown (hs : Sim B ρ s w) {cs : List V} {L C : List Value} (h : VRs ρ cs L) (el : TypeId) (sz : Nat) (h0 : 0 < sz) {l c' : Nat} (hc : l ≤ c') (hL : L.length = l * sz) (hC : C.length = (c' - l) * sz) :
    ∃ ρ', Sim B ρ' (s.alloc (.cells cs (some sz))) (w.drew.alloc (.cells (L ++ C).toArray el)) ∧ Step B ρ s w ρ' (s.alloc (.cells cs (some sz))) (w.drew.alloc (.cells (L ++ C).toArray el)) ∧
      VR ρ' (.slice (some ⟨.new s.next, 0⟩) l none) (.slice (some ⟨w.heap.size, 0, none⟩) l c') := by
  have hs' : Sim B ρ s w.drew := hs.heap rfl
  have ho := ObjR_grown (ρ := ρ) h (C := C) el w.heap.size sz h0
  have h1 := hs'.alloc (.cells cs (some sz)) (.cells (L ++ C).toArray el) ⟨w.heap.size, 0, sz, (L ++ C).length, none⟩ rfl ho
  have h2 := Step.alloc hs' (.cells cs (some sz)) (.cells (L ++ C).toArray el) ⟨w.heap.size, 0, sz, (L ++ C).length, none⟩ rfl
  refine ⟨_, h1, ⟨h2.le, ((Below.refl B w).drew).trans h2.below, h2.next, h2.old, h2.ghost, h2.keep, h2.size⟩, _, _, rfl, hc, fun m hm => by simp at hm, fun hc0 => ⟨?_, ?_⟩, ⟨w.heap.size, 0 + 0, none⟩, by simp [place, Rn.put]⟩
  · simp [place, Rn.put]
  · intro _ p hp _
    simp only [Rn.put, if_true] at hp
    cases hp
    simp only [List.length_append, hL, hC, ← Nat.add_mul]
    rw [Nat.zero_add]
    have e : l + (c' - l) = c' := by omega
    rw [e]
    exact ⟨Nat.le_refl _, fun _ => Nat.le_refl _⟩
theorem new_regrow (s : St) (k : Nat) (o : O) (j : Nat) : ((s.kill k).alloc o).new j = if j = s.next then some o else if j = k then none else s.new j := rfl
theorem Sim.regrow (hs : Sim B ρ s w) {k : Nat} {q : Pl} {cs new : List V} {sz : Nat} (hk : ρ k = some q) (ho : s.new k = some (.cells cs (some sz))) {N : List Value} (hN : VRs ρ new N)
    {C : Array Value} {el : TypeId} (hb : w.heap[q.blk]? = some (.cells C el (0, 0))) (hfit : q.off + cs.length + N.length ≤ C.size) :
    Sim B (ρ.put s.next ⟨q.blk, q.off, sz, q.cells, none⟩) ((s.kill k).alloc (.cells (cs ++ new) (some sz))) (w.setRow q.blk (C.toList.take (q.off + cs.length) ++ N ++ C.toList.drop (q.off + cs.length + N.length)).toArray) ∧
    Step B ρ s w (ρ.put s.next ⟨q.blk, q.off, sz, q.cells, none⟩) ((s.kill k).alloc (.cells (cs ++ new) (some sz))) (w.setRow q.blk (C.toList.take (q.off + cs.length) ++ N ++ C.toList.drop (q.off + cs.length + N.length)).toArray) := by
  have hn := hs.nextNone
  have hle := Rn.put_le (p := ⟨q.blk, q.off, sz, q.cells, none⟩) hn
  obtain ⟨hkn, hB, hlt⟩ := hs.dom k q hk
  obtain ⟨C1, el1, hb1, hsz1, hv1, hz1, hz2, hz3⟩ := hs.obj k q _ hk ho
  rw [hb] at hb1
  cases hb1
  have hcl : C.toList.length = C.size := by simp
  have hoth : ∀ j, j ≠ q.blk → (w.setRow q.blk (C.toList.take (q.off + cs.length) ++ N ++ C.toList.drop (q.off + cs.length + N.length)).toArray).heap[j]? = w.heap[j]? := fun j hj => setRow_other w q.blk j _ hj
  have hal : ∀ j, ((s.kill k).alloc (.cells (cs ++ new) (some sz))).new j ≠ none → j ≠ s.next → j ≠ k ∧ s.new j ≠ none ∧ ((s.kill k).alloc (.cells (cs ++ new) (some sz))).new j = s.new j := by
    intro j hj hjn
    rw [new_regrow] at hj ⊢
    rw [if_neg hjn] at hj ⊢
    by_cases hjk : j = k
    · rw [if_pos hjk] at hj; exact absurd rfl hj
    · rw [if_neg hjk] at hj ⊢; exact ⟨hjk, hj, rfl⟩
  refine ⟨⟨by simpa using hs.base, fun b o h => ?_, fun j p h => ?_, fun j p o h1 h2 => ?_, fun k1 k2 p1 p2 h1 h2 h3 h4 he => ?_, fun j hj => ?_⟩, hle, below_setRow (Below.refl B w) hB _, by simp [St.alloc, St.kill], rfl, fun j hj hjn => ?_, fun b hb' hnb => ⟨hoth b (fun e => hnb k q hk e.symm), fun j p h => by
    unfold Rn.put at h
    split at h
    · cases h; exact hnb k q hk
    · exact hnb j p h⟩, by simp⟩
  · obtain ⟨h1, h2⟩ := hs.old b o h
    exact ⟨h1, by rw [hoth b (by omega)]; exact h2⟩
  · unfold Rn.put at h
    split at h
    · cases h; rename_i e; subst e; exact ⟨by simp [St.alloc, St.kill], hB, by simpa using hlt⟩
    · obtain ⟨x, y, z⟩ := hs.dom j p h
      exact ⟨by simp only [St.alloc, St.kill]; omega, y, by simpa using z⟩
  · by_cases hj : j = s.next
    · subst hj
      simp only [Rn.put, if_true, Option.some.injEq] at h1; subst h1
      rw [new_regrow, if_pos rfl, Option.some.injEq] at h2; subst h2
      simp only
      rw [setRow_heap w q.blk C _ el (0, 0) hb]
      have hNl := VRs_length hN
      refine ⟨_, el, rfl, ?_, ?_, rfl, hz2, ?_⟩
      · simp only [List.size_toArray, List.length_append, List.length_take, List.length_drop, hcl]; omega
      · have e1 : ((C.toList.take (q.off + cs.length) ++ N ++ C.toList.drop (q.off + cs.length + N.length)).drop q.off).take (cs ++ new).length = (C.toList.drop q.off).take cs.length ++ N := by
          rw [List.append_assoc, List.drop_append_of_le_length (by simp only [List.length_take, hcl]; omega), List.drop_take, show q.off + cs.length - q.off = cs.length from by omega, ← List.append_assoc]
          have e2 : (cs ++ new).length = ((C.toList.drop q.off).take cs.length ++ N).length := by
            simp only [List.length_append, List.length_take, List.length_drop, hcl]; omega
          rw [e2, List.take_left]
        show VRs _ _ _
        simp only [List.toList_toArray]
        rw [e1]
        exact VRs_append (VRs_mono hle _ _ hv1) (VRs_mono hle _ _ hN)
      · simp only [List.size_toArray, List.length_append, List.length_take, List.length_drop, hcl]; omega
    · have h1' : ρ j = some p := by simpa [Rn.put, hj] using h1
      obtain ⟨hjk, hjn, heq⟩ := hal j (by rw [h2]; simp) hj
      rw [heq] at h2
      have hne : p.blk ≠ q.blk := fun he => hjk (hs.inj j k p q h1' hk hjn (by rw [ho]; simp) he)
      rw [hoth _ hne]
      exact ObjR_mono hle (hs.obj j p o h1' h2)
  · by_cases e1 : k1 = s.next <;> by_cases e2 : k2 = s.next
    · rw [e1, e2]
    · exfalso
      have h2' : ρ k2 = some p2 := by simpa [Rn.put, e2] using h2
      obtain ⟨hjk, hjn, _⟩ := hal k2 h4 e2
      simp only [Rn.put, e1, if_true, Option.some.injEq] at h1; subst h1
      exact hjk (hs.inj k2 k p2 q h2' hk hjn (by rw [ho]; simp) he.symm)
    · exfalso
      have h1' : ρ k1 = some p1 := by simpa [Rn.put, e1] using h1
      obtain ⟨hjk, hjn, _⟩ := hal k1 h3 e1
      simp only [Rn.put, e2, if_true, Option.some.injEq] at h2; subst h2
      exact hjk (hs.inj k1 k p1 q h1' hk hjn (by rw [ho]; simp) he)
    · have h1' : ρ k1 = some p1 := by simpa [Rn.put, e1] using h1
      have h2' : ρ k2 = some p2 := by simpa [Rn.put, e2] using h2
      exact hs.inj k1 k2 p1 p2 h1' h2' (hal k1 h3 e1).2.1 (hal k2 h4 e2).2.1 he
  · have hj' : s.next + 1 ≤ j := hj
    rw [new_regrow, if_neg (by omega)]
    split
    · rfl
    · exact hs.fresh j (by omega)
  · have h1 : j ≠ s.next := by omega
    have h2 : j ≠ k := by rintro rfl; rw [hk] at hjn; cases hjn
    exact ⟨by simp [Rn.put, h1, hjn], by rw [new_regrow, if_neg h1, if_neg h2]⟩
theorem newCells_len {sz : Nat} {y : V} {r : List V × Nat} (h : newCells s sz y = some r) : r.1.length = r.2 * sz := by
  unfold newCells at h
  split at h
  · cases h; simp
  · split at h
    · cases h; simp
    · simp only [Option.map_eq_some_iff] at h
      obtain ⟨l, hl, rfl⟩ := h
      unfold readCells at hl
      split at hl
      · exact (cut_some hl).2.2
      · cases hl
  · split at h
    · rename_i h1; cases h; subst h1; rw [List.length_map, Array.length_toList, Nat.mul_one]; rfl
    · cases h
  · cases h
theorem append_ok {t u ty el : TypeId} {i : TypeInfo} {z : Value} (ht : P.underlying t = some (.slice el)) (hi : P.info? el = some i) (hz : i.zero = some z) (hzs : z.cells.size = i.size) (hu : appendsT P u = true)
    (hs : Sim B ρ s w) {x y : V} {x' y' : Value} (hx : VR ρ x x') (hy : VR ρ y y') {v : V} {s' : St} (h : appendI i.size i.bytes x y s = some (v, s')) :
    ∃ ρ' w' v', (Builtin.append_ #[t, u] ty #[x', y']).run P w = .ok v' w' ∧ Sim B ρ' s' w' ∧ Step B ρ s w ρ' s' w' ∧ VR ρ' v v' := by
  unfold appendI at h
  simp only [Option.bind_eq_some_iff] at h
  obtain ⟨p, hp, h⟩ := h
  obtain ⟨N, hN, hNl, hlen, hfirst⟩ := newCells_ok (P := P) hs hp hy
  have hpl := newCells_len hp
  split at h
  · -- a nil slice
    obtain ⟨_, _, rfl⟩ := hx
    split at h
    · rename_i h0
      cases h
      refine ⟨ρ, w, _, run_append_in ht hi hu hlen (hfirst w rfl) (by omega) (fun b hb => by cases hb) (fun _ => rfl), hs, Step.refl _ _ _ _, ?_⟩
      rw [h0]; exact ⟨rfl, rfl, rfl⟩
    · rename_i h0
      split at h
      · rename_i hc
        obtain ⟨hb, hm, hsz⟩ := hc
        cases h
        obtain ⟨C, c', hr, hcc, hC⟩ := run_append_out (w := w) ht hi hz hu (ty := ty) (base := none) (l := 0) (c := 0) (O := []) hlen hfirst (by omega) (fun w' _ => by simp [Builtin.firstCells]) (by simpa using hm) (by simpa using hb)
        simp only [Nat.zero_add, List.nil_append] at hr hcc hC
        obtain ⟨ρ', h1, h2, h3⟩ := hs.grown hN el i.size hsz (C := C) hcc hNl (by rw [hC, hzs])
        exact ⟨ρ', _, _, hr, h1, h2, h3⟩
      · cases h
  · -- a slice whose capacity is known
    rename_i ad l cap
    obtain ⟨c, cap', rfl, hlc, hcap, hpl', cz, hcz⟩ := hx
    have := hcap cap rfl
    subst this
    split at h
    · rename_i h0
      cases h
      refine ⟨ρ, w, _, run_append_in ht hi hu hlen (hfirst w rfl) (by omega) (w1 := w) (fun b hb => ?_) (fun _ => rfl), hs, Step.refl _ _ _ _, ?_⟩
      · have : N = [] := List.eq_nil_of_length_eq_zero (by rw [hNl, h0]; simp)
        subst this; rfl
      · rw [h0]; exact ⟨c, _, rfl, hlc, hcap, hpl', cz, hcz⟩
    · rename_i h0
      split at h
      · rename_i hfit
        simp only [Option.map_eq_some_iff, Prod.mk.injEq] at h
        obtain ⟨s1, hw, rfl, rfl⟩ := h
        obtain ⟨hpc, hrc⟩ := hpl' (by omega)
        have hpo := place_off hpc (l * i.size)
        obtain ⟨C, el', hb, hsp, hfit', h1, hsim, hstep⟩ := hs.write hw hpo hN
        have hcs := place_spot hpc
        obtain ⟨cb, co, cs⟩ := c
        simp only at hcs; subst hcs
        rw [Addr.add_lit] at hb hfit' hsim hstep
        have hr := run_storeCells_at P cb (co + l * i.size) el' N 0 C w hb (by simpa using hfit') h1
        simp only [Nat.add_zero] at hr
        refine ⟨ρ, _, _, run_append_in ht hi hu hlen (hfirst w rfl) hfit (fun b hb => ?_) (fun hn => by cases hn), hsim, hstep, ?_⟩
        · cases hb; rw [Addr.add_lit]; exact hr
        · exact ⟨_, _, rfl, hfit, fun m hm => (Option.some.inj hm).symm, hpl', cz, hcz⟩
      · rename_i hfit
        split at h
        · rename_i hc
          obtain ⟨hb, hm, hsz⟩ := hc
          simp only [Option.map_eq_some_iff, Prod.mk.injEq] at h
          obtain ⟨was, hwas, rfl, rfl⟩ := h
          have hold : ∃ O, VRs ρ was O ∧ O.length = l * i.size ∧ ∀ w', w'.heap = w.heap → (Builtin.firstCells i.size l (.slice (some c) l cap)).run P w' = .ok O.toArray w' := by
            rcases Nat.eq_zero_or_pos l with h00 | h00
            · subst h00
              have hl0 : was = [] := by
                have : was.length = 0 := by
                  unfold readCells at hwas
                  split at hwas
                  · have := (cut_some hwas).2.2; simpa using this
                  · cases hwas
                exact List.eq_nil_of_length_eq_zero this
              subst hl0
              exact ⟨[], rfl, by simp, fun w' _ => by simp [Builtin.firstCells, loadCells, loadCellsFrom]⟩
            · obtain ⟨hlw, L, hL, hcell⟩ := hs.read hwas (hpl' (by omega)).1
              have hLl := VRs_length hL
              refine ⟨L, hL, by omega, fun w' hw' => ?_⟩
              exact run_firstCells_some (P := P) w' i.size l c l cap L (by omega) (fun j v hj => by
                have := hcell j v hj
                unfold World.cell? at this ⊢
                rw [hw']; exact this)
          obtain ⟨O, hO, hOl, hof⟩ := hold
          obtain ⟨C, c', hr, hcc, hC⟩ := run_append_out (w := w) ht hi hz hu (ty := ty) (base := some c) (l := l) (c := cap) (O := O) hlen hfirst (by omega) hof hm hb
          obtain ⟨ρ', h1, h2, h3⟩ := hs.grown (VRs_append hO hN) el i.size hsz (C := C) hcc (by simp [hOl, hNl, Nat.add_mul]) (by rw [hC, hzs])
          exact ⟨ρ', _, _, hr, h1, h2, h3⟩
        · cases h
  · -- a slice that goes on to its row's end
    rename_i ad l
    obtain ⟨c, cap', rfl, hlc, hcap, hpl', cz, hcz⟩ := hx
    split at h
    · rename_i h0
      cases h
      refine ⟨ρ, w, _, run_append_in ht hi hu hlen (hfirst w rfl) (by omega) (w1 := w) (fun b hb => ?_) (fun _ => rfl), hs, Step.refl _ _ _ _, ?_⟩
      · have : N = [] := List.eq_nil_of_length_eq_zero (by rw [hNl, h0]; simp)
        subst this; rfl
      · rw [h0]; exact ⟨c, _, rfl, hlc, hcap, hpl', cz, hcz⟩
    · rename_i h0
      split at h
      · cases h
      · rename_i k hid
        split at h
        · rename_i cs g hnew
          split at h
          · -- within what is known of the row
            rename_i hc
            obtain ⟨rfl, hoff, hl0, hin⟩ := hc
            simp only [Option.map_eq_some_iff, Prod.mk.injEq] at h
            obtain ⟨s1, hw, rfl, rfl⟩ := h
            obtain ⟨adi, ado⟩ := ad
            simp only at hid hoff
            subst hid hoff
            obtain ⟨hpc, hrc⟩ := hpl' (by omega)
            have hpc0 := hpc
            simp only [place, Option.map_eq_some_iff] at hpc0
            obtain ⟨q, hq, hqc⟩ := hpc0
            obtain ⟨C0, el0, hbq, hszq, hvq, hq1, hq2, hq3⟩ := hs.obj k q _ hq hnew
            obtain ⟨hr1, hr2⟩ := hrc rfl q hq (by omega)
            have hr2 := hr2 rfl
            have hfit : l + p.2 ≤ cap' := by
              have h5 : c.off = q.off := by rw [← hqc]; simp
              have h6 : (l + p.2) * i.size ≤ cap' * i.size := by rw [hq1] at hr2; omega
              exact Nat.le_of_mul_le_mul_right h6 hq2
            have hpo := place_off hpc (l * i.size)
            simp only [Nat.zero_add] at hpo
            obtain ⟨C, el', hb, hsp, hfit', h1, hsim, hstep⟩ := hs.write hw hpo hN
            have hcs := place_spot hpc
            obtain ⟨cb, co, cs'⟩ := c
            simp only at hcs; subst hcs
            rw [Addr.add_lit] at hb hfit' hsim hstep
            have hr := run_storeCells_at P cb (co + l * i.size) el' N 0 C w hb (by simpa using hfit') h1
            simp only [Nat.add_zero] at hr
            refine ⟨ρ, _, _, run_append_in ht hi hu hlen (hfirst w rfl) hfit (fun b hb => ?_) (fun hn => by cases hn), hsim, hstep, ?_⟩
            · cases hb; rw [Addr.add_lit]; exact hr
            · exact ⟨_, _, rfl, hfit, (fun m hm => by simp at hm), hpl', cz, hcz⟩
          split at h
          · rename_i hnin hc
            obtain ⟨rfl, hoff, hlcs, hb, hm, hone⟩ := hc
            cases h
            obtain ⟨adi, ado⟩ := ad
            simp only at hid hoff
            subst hid hoff
            have hq : ∃ q, ρ k = some q := by
              simp only [place, Option.map_eq_some_iff] at hcz
              obtain ⟨q, h1, _⟩ := hcz
              exact ⟨q, h1⟩
            obtain ⟨q, hq⟩ := hq
            obtain ⟨C, el', hbq, hszq, hvq, hq1, hq2, hq3⟩ := hs.obj k q _ hq hnew
            by_cases hfit : l + p.2 ≤ cap'
            · obtain ⟨hpc, hrc⟩ := hpl' (by omega)
              simp only [place, hq, Option.map_some, Option.some.injEq] at hpc
              subst hpc
              obtain ⟨hr1, hr2⟩ := hrc rfl q hq (by omega)
              have hr2 := hr2 rfl
              simp only at hr1
              have hmul : (l + p.2) * i.size ≤ cap' * q.sz := by rw [hq1]; exact Nat.mul_le_mul_right _ hfit
              rw [Nat.add_mul] at hmul
              have hfitN : q.off + cs.length + N.length ≤ C.size := by omega
              obtain ⟨h1, h2⟩ := hs.regrow hq hnew hN hbq hfitN
              have hr := run_storeCells_at P q.blk (q.off + cs.length) el' N 0 C w hbq (by simpa using hfitN) (VRs_one hN hone)
              simp only [Nat.add_zero] at hr
              refine ⟨_, _, _, run_append_in ht hi hu hlen (hfirst w rfl) hfit (fun b hb => ?_) (fun hn => by cases hn), h1, h2, ?_⟩
              · cases hb; rw [Addr.add_lit, Nat.add_zero, hlcs]; exact hr
              · refine ⟨_, _, rfl, hfit, (fun m hm => by simp at hm), (fun _ => ⟨?_, ?_⟩), ⟨⟨q.blk, q.off + 0, none⟩, ?_⟩⟩
                · simp [place, Rn.put]
                rotate_left
                · simp [place, Rn.put]
                intro _ p' hp' _
                simp only [Rn.put, if_true, Option.some.injEq] at hp'
                subst hp'
                simp only
                rw [← hq1]; exact ⟨hr1, fun _ => hr2⟩
            · have hold : ∃ O, VRs ρ cs O ∧ O.length = l * i.size ∧ ∀ w', w'.heap = w.heap → (Builtin.firstCells i.size l (.slice (some c) l cap')).run P w' = .ok O.toArray w' := by
                rcases Nat.eq_zero_or_pos l with h00 | h00
                · subst h00
                  have hl0 : cs = [] := List.eq_nil_of_length_eq_zero (by omega)
                  subst hl0
                  exact ⟨[], rfl, by simp, fun w' _ => by simp [Builtin.firstCells, loadCells, loadCellsFrom]⟩
                · have hrd : readCells s ⟨.new k, 0⟩ (l * i.size) = some cs := by
                    simp only [readCells, St.row, St.get, hnew, cut]
                    rw [hlcs]; simp
                  obtain ⟨hlw, L, hL, hcell⟩ := hs.read hrd (hpl' (by omega)).1
                  have hLl := VRs_length hL
                  refine ⟨L, hL, by omega, fun w' hw' => ?_⟩
                  exact run_firstCells_some (P := P) w' i.size l c l cap' L (by omega) (fun j v hj => by
                    have := hcell j v hj
                    unfold World.cell? at this ⊢
                    rw [hw']; exact this)
              obtain ⟨O, hO, hOl, hof⟩ := hold
              obtain ⟨C2, c', hr, hcc, hC⟩ := run_append_out (w := w) ht hi hz hu (ty := ty) (base := some c) (l := l) (c := cap') (O := O) hlen hfirst (by omega) hof hm hb
              obtain ⟨ρ', h1, h2, h3⟩ := (hs.kill (k := k)).grown (VRs_append hO hN) el i.size hq2 (C := C2) hcc (by simp [hOl, hNl, Nat.add_mul]) (by rw [hC, hzs])
              refine ⟨ρ', _, _, hr, h1, ⟨h2.le, h2.below, h2.next, h2.old, fun j hj hjn => ?_, h2.keep, h2.size⟩, h3⟩
              obtain ⟨g1, g2⟩ := h2.ghost j hj hjn
              refine ⟨g1, g2.trans ?_⟩
              simp only [St.kill]
              rw [if_neg]
              rintro rfl
              rw [hq] at hjn; cases hjn
          · cases h
        · cases h
  · cases h
theorem evalS_ok {o : Oper} {op : IOp} {v : V} {s' : St} (hc : compOp P o = some op) (hev : evalS op e s = some (v, s')) (he : VRs ρ e a.tmps.toList) (hs : Sim B ρ s w) :
    ActsOk P B ρ s w ((execOp a.eval o).run P w) v s' := by
  obtain ⟨dst, opp, ty, pos, after, guard⟩ := o
  cases opp with
  | store t x y =>
    simp only [compOp, Option.bind_eq_bind, Option.pure_def, Option.bind_eq_some_iff] at hc
    obtain ⟨n, hn, hc⟩ := hc
    cases hc
    simp only [evalS] at hev
    have hx := eval_VR he x
    have hy := eval_VR he y
    simp only [Option.map_eq_some_iff, Prod.mk.injEq] at hev
    obtain ⟨s1, hev, rfl, rfl⟩ := hev
    obtain ⟨w', h1, h2, h3⟩ := store_ok (P := P) hn hs hx hy hev
    exact ⟨ρ, w', h2, h3, .inr ⟨by simp [execOp, h1], rfl⟩⟩
  | mapEntry t m k =>
    simp only [compOp, Option.bind_eq_bind, Option.pure_def, Option.bind_eq_some_iff] at hc
    obtain ⟨⟨kt, el⟩, hm, k', hk', i, hi, z, hz, hc⟩ := hc
    cases hc
    simp only [evalS] at hev
    have zv : ∀ w, (zeroValue el).run P w = .ok z w := fun w => by simp [zeroValue, typeInfo, hi, hz]
    obtain ⟨w', v', h1, h2, h3, h4⟩ := mapEnt_ok (P := P) (mapOfT_ok hm) hk' zv hs (eval_VR he m) (eval_VR he k) hev
    exact ⟨ρ, w', h2, h3, .inl ⟨v', by simp [execOp, h1], h4⟩⟩
  | entryStore t m st u =>
    simp only [compOp] at hc
    cases hc
    simp only [evalS, Option.map_eq_some_iff, Prod.mk.injEq] at hev
    obtain ⟨s1, hev, rfl, rfl⟩ := hev
    obtain ⟨w', h1, h2, h3⟩ := entSet_ok (P := P) (t := t) hs (eval_VR he m) (eval_VR he st) (eval_VR he u) hev
    exact ⟨ρ, w', h2, h3, .inr ⟨by simp [execOp, h1], rfl⟩⟩
  | mapUpdate t m k u =>
    simp only [compOp, Option.bind_eq_bind, Option.pure_def, Option.bind_eq_some_iff] at hc
    obtain ⟨⟨kt, el⟩, hm, k', hk', hc⟩ := hc
    cases hc
    simp only [evalS, Option.map_eq_some_iff, Prod.mk.injEq] at hev
    obtain ⟨s1, hev, rfl, rfl⟩ := hev
    obtain ⟨w', h1, h2, h3⟩ := mapSet_ok (P := P) (mapOfT_ok hm) hk' hs (eval_VR he m) (eval_VR he k) (eval_VR he u) hev
    exact ⟨ρ, w', h2, h3, .inr ⟨by simp [execOp, h1], rfl⟩⟩
  | insert t m k u =>
    simp only [compOp, Option.bind_eq_bind, Option.pure_def, Option.bind_eq_some_iff] at hc
    obtain ⟨⟨kt, el⟩, hm, k', hk', hc⟩ := hc
    cases hc
    simp only [evalS, Option.map_eq_some_iff, Prod.mk.injEq] at hev
    obtain ⟨s1, hev, rfl, rfl⟩ := hev
    obtain ⟨w', h1, h2, h3⟩ := mapSet_ok (P := P) (mapOfT_ok hm) hk' hs (eval_VR he m) (eval_VR he k) (eval_VR he u) hev
    exact ⟨ρ, w', h2, h3, .inr ⟨by simp [execOp, h1], rfl⟩⟩
  | call c =>
    simp only [compOp] at hc
    unfold compCall at hc
    simp only at hc
    split at hc
    · split at hc
      · cases hc; simp [evalS] at hev
      · cases hc
    · cases hc; simp [evalS] at hev
    · split at hc
      · split at hc
        · cases hc; simp [evalS] at hev
        · cases hc; simp [evalS] at hev
        · cases hc; simp [evalS] at hev
        · cases hc
      · cases hc
    · rename_i hcal
      split at hc
      · rename_i t u x y hat hag
        have hargs : ∃ x1 y1, c.args = #[x1, y1] ∧ x = argOf x1 ∧ y = argOf y1 := by
          cases hl : c.args.toList with
          | nil => simp [hl] at hag
          | cons x1 r =>
            cases r with
            | nil => simp [hl] at hag
            | cons y1 r =>
              cases r with
              | nil => simp [hl] at hag; exact ⟨x1, y1, by rw [← Array.toArray_toList (xs := c.args), hl], hag.1.symm, hag.2.symm⟩
              | cons z zs => simp [hl] at hag
        obtain ⟨x1, y1, hargs, rfl, rfl⟩ := hargs
        have hat' : c.argTypes = #[t, u] := by rw [← Array.toArray_toList (xs := c.argTypes), hat]
        simp only [compAppend, Option.bind_eq_bind, Option.pure_def, Option.bind_eq_some_iff] at hc
        obtain ⟨el, hel, i, hi, z, hz, hc⟩ := hc
        split at hc
        · rename_i hcond
          cases hc
          simp only [evalS] at hev
          obtain ⟨ρ', w', v', h1, h2, h3, h4⟩ := append_ok (P := P) (ty := ty) (elemOfT_ok hel) hi hz hcond.1 hcond.2 hs (eval_VR he x1) (eval_VR he y1) hev
          exact ⟨ρ', w', h2, h3, .inl ⟨v', by simp [execOp, resolve, hcal, invoke, builtin, hargs, hat', h1], h4⟩⟩
        · cases hc
      · cases hc
    · cases hc
  | load t x => simp only [compOp, Option.bind_eq_bind, Option.pure_def, Option.bind_eq_some_iff] at hc; obtain ⟨n, _, hc⟩ := hc; cases hc; simp [evalS] at hev
  | move x => simp only [compOp] at hc; cases hc; simp [evalS] at hev
  | assign x => simp only [compOp] at hc; cases hc; simp [evalS] at hev
  | pick c x y => simp only [compOp] at hc; cases hc; simp [evalS] at hev
  | nilCheck x => simp only [compOp] at hc; cases hc; simp [evalS] at hev
  | unOp op t x => simp only [compOp] at hc; cases hc; simp [evalS] at hev
  | extract x i => simp only [compOp] at hc; cases hc; simp [evalS] at hev
  | box t x => simp only [compOp] at hc; cases hc; simp [evalS] at hev
  | alloc t => simp only [compOp, Option.map_eq_some_iff] at hc; obtain ⟨n, _, rfl⟩ := hc; simp [evalS] at hev
  | build t parts =>
    simp only [compOp, Option.bind_eq_bind, Option.pure_def, Option.bind_eq_some_iff] at hc
    obtain ⟨_, _, _, _, _, _, hc⟩ := hc; cases hc; simp [evalS] at hev
  | buildSlice t len parts =>
    simp only [compOp, Option.bind_eq_bind, Option.pure_def, Option.bind_eq_some_iff] at hc
    obtain ⟨_, _, _, _, _, _, hc⟩ := hc
    split at hc
    · cases hc
    · simp only [Option.bind_eq_some_iff] at hc; obtain ⟨_, _, hc⟩ := hc; cases hc; simp [evalS] at hev
  | makeMap t r =>
    simp only [compOp] at hc
    split at hc
    · cases hc; simp [evalS] at hev
    · cases hc
  | makeSlice t l c =>
    simp only [compOp, Option.bind_eq_bind, Option.pure_def, Option.bind_eq_some_iff] at hc
    obtain ⟨_, _, _, _, _, _, hc⟩ := hc
    split at hc
    · cases hc
    · cases hc; simp [evalS] at hev
  | lookup t m k ok =>
    simp only [compOp, Option.bind_eq_bind, Option.pure_def, Option.bind_eq_some_iff] at hc
    obtain ⟨_, _, _, _, _, _, _, _, hc⟩ := hc
    cases hc; simp [evalS] at hev
  | binOp op t x y yt =>
    simp only [compOp, compBin] at hc
    split at hc
    · cases hc; simp [evalS] at hev
    · cases hc; simp [evalS] at hev
    · simp only [Option.map_eq_some_iff] at hc; obtain ⟨_, _, rfl⟩ := hc; simp [evalS] at hev
    · simp only [Option.map_eq_some_iff] at hc; obtain ⟨_, _, rfl⟩ := hc; simp [evalS] at hev
    · cases hc
  | convert t u x =>
    simp only [compOp] at hc
    split at hc
    · cases hc; simp [evalS] at hev
    · cases hc
  | makeFunc f p c =>
    simp only [compOp] at hc
    cases f <;> simp at hc
    obtain ⟨_, rfl⟩ := hc; simp [evalS] at hev
  | slice t x lo hi mx =>
    simp only [compOp] at hc
    split at hc
    · split at hc
      · cases hc
      · cases hc; simp [evalS] at hev
    · simp only [Option.map_eq_some_iff] at hc; obtain ⟨_, _, rfl⟩ := hc; simp [evalS] at hev
    · cases hc
  | fieldAddr t x i =>
    simp only [compOp, Option.bind_eq_bind, Option.pure_def, Option.bind_eq_some_iff] at hc
    obtain ⟨_, _, _, _, hc⟩ := hc
    split at hc
    · cases hc
    · cases hc; simp [evalS] at hev
  | field t x i =>
    simp only [compOp, Option.bind_eq_bind, Option.pure_def, Option.bind_eq_some_iff] at hc
    obtain ⟨_, _, _, _, hc⟩ := hc
    cases hc; simp [evalS] at hev
  | indexAddr t x i =>
    simp only [compOp, Option.bind_eq_bind, Option.pure_def, Option.bind_eq_some_iff] at hc
    obtain ⟨_, _, _, _, hc⟩ := hc
    cases hc; simp [evalS] at hev
  | index t x i =>
    simp only [compOp] at hc
    split at hc
    · cases hc; simp [evalS] at hev
    · cases hc
  | _ => simp [compOp] at hc
end
end Go.IM

set_option linter.unusedSimpArgs false
set_option linter.unusedVariables false
namespace Go.IM
open Go.RowKit (Below)
section
variable {P : Program} {B : Nat} {ρ : Rn} {s : St} {w : World} {a : Act} {e : Env}
def Enters (P : Program) (f : FuncId) : Prop := ∃ fn, P.funcs[f]? = some fn ∧ (fn.name == "runtime.NumGoroutine") = false ∧ fn.body.isSome = true
def fen (ro : Option Nat) : Fence := { Fence.wide with round := ro }
def Left (B : Nat) (ρ : Rn) (s : St) (w : World) (v : V) (s' : St) (en : Ending) (w' : World) : Prop := ∃ ρ' v', en = .returned v' ∧ VR ρ' v v' ∧ Sim B ρ' s' w' ∧ Step B ρ s w ρ' s' w'
def CallsOk (P : Program) (B : Nat) (ρ0 : Rn) (C : CallT) : Prop := ∀ f args s v s', C f args s = some (v, s') →
  (f < yBase → Enters P f ∧ ∀ ρ w (cargs : Array Value), Le ρ0 ρ → VRs ρ args cargs.toList → Sim B ρ s w → CallsIn Fence.wide 0 P f cargs w (Left B ρ s w v s')) ∧
  (yBase ≤ f → ∀ ρ w (cargs : Array Value) p, Le ρ0 ρ → VRs ρ args cargs.toList → Sim B ρ s w → ρ (f - yBase) = some p →
    ∃ fn tmps assign body, (Instr.yield p.blk cargs).run P w = .ok (.round p.blk fn tmps assign body) w ∧ RoundIn Fence.wide 0 P p.blk fn tmps assign body w (Left B ρ s w v s'))
def runOps (C : CallT) : List II → Env → St → Option (Env × St)
  | [], e, s => some (e, s)
  | i :: r, e, s => (stepI C i e s).bind fun p => runOps C r p.1 p.2
theorem goOps_run (C : CallT) : ∀ (l : List II) (e : Env) (s : St) (K : Env → St → Res), goOps C l e s K = (runOps C l e s).bind fun p => K p.1 p.2
  | [], e, s, K => rfl
  | i :: r, e, s, K => by
    rw [goOps, runOps, Option.bind_assoc]
    congr 1
    funext p
    exact goOps_run C r p.1 p.2 K
theorem put_VRs (he : VRs ρ e a.tmps.toList) (dst : Option Nat) {v : V} {v' : Value} (hv : VR ρ v v') : VRs ρ (put e dst v) (a.put dst v').tmps.toList := by
  cases dst with
  | none => exact he
  | some d =>
    simp only [put, Act.put, Array.toList_setIfInBounds]
    exact VRs_set he d hv
theorem callFunc_enters {f : FuncId} (h : Enters P f) (args : Array Value) (w : World) : (callFunc f args).run P w = .ok (.enter f args) w := by
  obtain ⟨fn, h1, h2, h3⟩ := h
  have h3' : fn.body.isNone = false := by cases hb : fn.body <;> simp_all
  simp only [callFunc, Sem.run_bind, run_program, Result.andThen_ok, h1, h2, h3', Bool.false_eq_true, if_false, Sem.run_pure]
theorem wanted_ok {ops : Array Oper} {o : Oper} {i : II} (hc : compII P ops.toList o = some i) (he : VRs ρ e a.tmps.toList) {b : Bool} (hw : wantedI e i.guard = some b) :
    Region.wanted o (yielded ops a.tmps) = b := by
  simp only [compII, Option.bind_eq_bind, Option.pure_def, Option.bind_eq_some_iff] at hc
  obtain ⟨op, hop, hc⟩ := hc
  cases hg : o.guard with
  | none =>
    simp only [hg, Option.some.injEq] at hc
    subst hc
    simp only [wantedI, Option.some.injEq] at hw
    simp [Region.wanted, hg, hw]
  | some g =>
    obtain ⟨j, want⟩ := g
    simp only [hg, Option.bind_eq_some_iff, Option.some.injEq] at hc
    obtain ⟨t, ⟨oj, hoj, ht⟩, hc⟩ := hc
    subst hc
    simp only [wantedI] at hw
    cases hv : e[t]? with
    | none => simp [List.getD, hv] at hw
    | some v =>
      simp only [List.getD, hv, Option.getD_some] at hw
      split at hw
      · rename_i c
        cases hw
        obtain ⟨y, hy, hyv⟩ := VRs_get he hv
        have hyb := VR_bool hyv
        subst hyb
        have hy' : a.tmps[t]? = some (.bool c) := by simpa using hy
        have hoj' : ops[j]? = some oj := by simpa using hoj
        simp [Region.wanted, hg, yielded, hoj', ht, hy']
      · cases hw
        obtain ⟨y, hy, hyv⟩ := VRs_get he hv
        obtain ⟨c, rfl, -⟩ := hyv
        have hy' : a.tmps[t]? = some (.tuple c) := by simpa using hy
        have hoj' : ops[j]? = some oj := by simpa using hoj
        simp [Region.wanted, hg, yielded, hoj', ht, hy']
      · cases hw
def After (B : Nat) (ρ : Rn) (s : St) (w : World) (a : Act) (e' : Env) (s' : St) (a' : Act) (w' : World) : Prop :=
  ∃ ρ', VRs ρ' e' a'.tmps.toList ∧ Sim B ρ' s' w' ∧ Step B ρ s w ρ' s' w' ∧ a'.defers = a.defers
theorem After.trans {ρ1 : Rn} {s1 : St} {w1 : World} {a1 : Act} {e2 : Env} {s2 : St} {a2 : Act} {w2 : World} (h : Step B ρ s w ρ1 s1 w1) (hd : a1.defers = a.defers) (k : After B ρ1 s1 w1 a1 e2 s2 a2 w2) : After B ρ s w a e2 s2 a2 w2 := by
  obtain ⟨ρ', h1, h2, h3, h4⟩ := k
  exact ⟨ρ', h1, h2, h.trans h3, h4.trans hd⟩
theorem put_defers (dst : Option Nat) (v : Value) : (a.put dst v).defers = a.defers := by cases dst <;> rfl
theorem uponIn_mono {ro : Option Nat} {o : Oper} {r : Result Next} {next : Act → World → Prop} {Q : Exit → Act → World → Prop} (h : o.uponIn (fen ro) 0 P a next Q r) (hnd : ∀ c, o.op ≠ .defer c) (hr : (execOp a.eval o).run P w = r) :
    o.wpIn (fen ro) 0 P a w next Q := by
  refine ⟨fun _ _ => trivial, ?_⟩
  rw [Oper.semAt_eq _ _ _ hnd, hr]
  exact h
theorem call_ok {ρ0 : Rn} {C : CallT} (hC : CallsOk P B ρ0 C) (hle : Le ρ0 ρ) {ro : Option Nat} {o : Oper} (hnd : ∀ c, o.op ≠ .defer c) {f : FuncId} (h0 : f < yBase) {args : List V} {v : V} {s' : St} (hs : Sim B ρ s w) (hcall : C f args s = some (v, s')) {cargs : Array Value} (ha : VRs ρ args cargs.toList)
    (hrun : (execOp a.eval o).run P w = (callFunc f cargs).run P w) (he : VRs ρ e a.tmps.toList) {next : Act → World → Prop} {Q : Exit → Act → World → Prop}
    (hn : ∀ a' w', After B ρ s w a (put e o.dst v) s' a' w' → next a' w') : o.wpIn (fen ro) 0 P a w next Q := by
  obtain ⟨hent, hcs⟩ := (hC f args s v s' hcall).1 h0
  refine uponIn_mono ?_ hnd (hrun.trans (callFunc_enters hent _ _))
  rw [Oper.uponIn_enter]
  refine ⟨fun h => absurd h (by simp [fen, Fence.wide]), ?_⟩
  have hc : CallsIn (fen ro) 0 P f cargs w (Left B ρ s w v s') := hcs ρ w cargs hle ha hs
  refine hc.mono ?_
  rintro en w' ⟨ρ', v', rfl, hv, hsim, hstep⟩
  exact hn _ _ ⟨ρ', put_VRs (VRs_mono hstep.le _ _ he) _ hv, hsim, hstep, put_defers _ _⟩
theorem yield_ok {ρ0 : Rn} {C : CallT} (hC : CallsOk P B ρ0 C) (hle : Le ρ0 ρ) {ro : Option Nat} {o : Oper} (hnd : ∀ c, o.op ≠ .defer c) {f : FuncId} (h0 : yBase ≤ f) {p : Pl} (hp : ρ (f - yBase) = some p) {args : List V} {v : V} {s' : St} (hs : Sim B ρ s w) (hcall : C f args s = some (v, s')) {cargs : Array Value} (ha : VRs ρ args cargs.toList)
    (hrun : (execOp a.eval o).run P w = (Instr.yield p.blk cargs).run P w) (he : VRs ρ e a.tmps.toList) {next : Act → World → Prop} {Q : Exit → Act → World → Prop}
    (hn : ∀ a' w', After B ρ s w a (put e o.dst v) s' a' w' → next a' w') : o.wpIn (fen ro) 0 P a w next Q := by
  obtain ⟨fn, tmps, assign, body, h1, h2⟩ := (hC f args s v s' hcall).2 h0 ρ w cargs p hle ha hs hp
  refine uponIn_mono ?_ hnd (hrun.trans h1)
  rw [Oper.uponIn_round]
  refine ⟨fun h => absurd h (by simp [fen, Fence.wide]), ?_⟩
  have hc : RoundIn (fen ro) 0 P p.blk fn tmps assign body w (Left B ρ s w v s') := h2
  refine hc.mono ?_
  rintro en w' ⟨ρ', v', rfl, hv, hsim, hstep⟩
  exact hn _ _ ⟨ρ', put_VRs (VRs_mono hstep.le _ _ he) _ hv, hsim, hstep, put_defers _ _⟩
theorem compCall_kind {c : Call} {op : IOp} (hc : compCall P c = some op) :
    (∃ f, c.callee = .value (.func f) ∧ f < yBase ∧ op = .call f (c.args.toList.map argOf)) ∨ (∃ f, c.callee = .value f ∧ (∀ g, f ≠ .func g) ∧ op = .callv (argOf f) (c.args.toList.map argOf)) ∨
    ((∀ f l, op ≠ .call f l) ∧ (∀ f l, op ≠ .callv f l)) := by
  unfold compCall at hc
  simp only at hc
  split at hc
  · split at hc
    · cases hc; exact .inl ⟨_, by assumption, by assumption, rfl⟩
    · cases hc
  · rename_i f hf _
    cases hc
    exact .inr (.inl ⟨_, by assumption, by assumption, rfl⟩)
  · refine .inr (.inr ?_)
    split at hc
    · split at hc <;> first | (cases hc; exact ⟨by simp, by simp⟩) | cases hc
    · cases hc
  · refine .inr (.inr ?_)
    split at hc
    · simp only [compAppend, Option.bind_eq_bind, Option.pure_def, Option.bind_eq_some_iff] at hc
      obtain ⟨_, _, _, _, _, _, hc⟩ := hc
      split at hc
      · cases hc; exact ⟨by simp, by simp⟩
      · cases hc
    · cases hc
  · cases hc
def Shape (P : Program) (o : Oper) (op : IOp) : Prop :=
  (∀ t q, op ≠ .again t q) ∧ ((∃ c, o.op = .call c ∧ compCall P c = some op) ∨ ((∀ f l, op ≠ .call f l) ∧ (∀ f l, op ≠ .callv f l)))
theorem compCall_again {c : Call} {op : IOp} (hc : compCall P c = some op) : ∀ t q, op ≠ .again t q := by
  unfold compCall at hc
  simp only at hc
  split at hc
  · split at hc
    · cases hc; simp
    · cases hc
  · cases hc; simp
  · split at hc
    · split at hc <;> first | (cases hc; simp; done) | cases hc
    · cases hc
  · split at hc
    · simp only [compAppend, Option.bind_eq_bind, Option.pure_def, Option.bind_eq_some_iff] at hc
      obtain ⟨_, _, _, _, _, _, hc⟩ := hc
      split at hc
      · cases hc; simp
      · cases hc
    · cases hc
  · cases hc
theorem compOp_shape {o : Oper} {op : IOp} (hc : compOp P o = some op) : Shape P o op := by
  obtain ⟨dst, opp, ty, pos, after, guard⟩ := o
  cases opp with
  | call c => exact ⟨compCall_again hc, .inl ⟨c, rfl, hc⟩⟩
  | move x => simp only [compOp] at hc; cases hc; exact ⟨by simp, .inr ⟨by simp, by simp⟩⟩
  | assign x => simp only [compOp] at hc; cases hc; exact ⟨by simp, .inr ⟨by simp, by simp⟩⟩
  | pick c x y => simp only [compOp] at hc; cases hc; exact ⟨by simp, .inr ⟨by simp, by simp⟩⟩
  | nilCheck x => simp only [compOp] at hc; cases hc; exact ⟨by simp, .inr ⟨by simp, by simp⟩⟩
  | unOp op t x => simp only [compOp] at hc; cases hc; exact ⟨by simp, .inr ⟨by simp, by simp⟩⟩
  | extract x i => simp only [compOp] at hc; cases hc; exact ⟨by simp, .inr ⟨by simp, by simp⟩⟩
  | box t x => simp only [compOp] at hc; cases hc; exact ⟨by simp, .inr ⟨by simp, by simp⟩⟩
  | alloc t => simp only [compOp, Option.map_eq_some_iff] at hc; obtain ⟨n, _, rfl⟩ := hc; exact ⟨by simp, .inr ⟨by simp, by simp⟩⟩
  | load t x => simp only [compOp, Option.bind_eq_bind, Option.pure_def, Option.bind_eq_some_iff] at hc; obtain ⟨n, _, hc⟩ := hc; cases hc; exact ⟨by simp, .inr ⟨by simp, by simp⟩⟩
  | store t x y => simp only [compOp, Option.bind_eq_bind, Option.pure_def, Option.bind_eq_some_iff] at hc; obtain ⟨n, _, hc⟩ := hc; cases hc; exact ⟨by simp, .inr ⟨by simp, by simp⟩⟩
  | build t parts =>
    simp only [compOp, Option.bind_eq_bind, Option.pure_def, Option.bind_eq_some_iff] at hc
    obtain ⟨_, _, _, _, _, _, hc⟩ := hc; cases hc; exact ⟨by simp, .inr ⟨by simp, by simp⟩⟩
  | buildSlice t len parts =>
    simp only [compOp, Option.bind_eq_bind, Option.pure_def, Option.bind_eq_some_iff] at hc
    obtain ⟨_, _, _, _, _, _, hc⟩ := hc
    split at hc
    · cases hc
    · simp only [Option.bind_eq_some_iff] at hc; obtain ⟨_, _, hc⟩ := hc; cases hc; exact ⟨by simp, .inr ⟨by simp, by simp⟩⟩
  | makeMap t r =>
    simp only [compOp] at hc
    split at hc
    · cases hc; exact ⟨by simp, .inr ⟨by simp, by simp⟩⟩
    · cases hc
  | makeSlice t l c =>
    simp only [compOp, Option.bind_eq_bind, Option.pure_def, Option.bind_eq_some_iff] at hc
    obtain ⟨_, _, _, _, _, _, hc⟩ := hc
    split at hc
    · cases hc
    · cases hc; exact ⟨by simp, .inr ⟨by simp, by simp⟩⟩
  | lookup t m k ok =>
    simp only [compOp, Option.bind_eq_bind, Option.pure_def, Option.bind_eq_some_iff] at hc
    obtain ⟨_, _, _, _, _, _, _, _, hc⟩ := hc
    cases hc; exact ⟨by simp, .inr ⟨by simp, by simp⟩⟩
  | mapEntry t m k =>
    simp only [compOp, Option.bind_eq_bind, Option.pure_def, Option.bind_eq_some_iff] at hc
    obtain ⟨_, _, _, _, _, _, _, _, hc⟩ := hc
    cases hc; exact ⟨by simp, .inr ⟨by simp, by simp⟩⟩
  | entryStore t m st v => simp only [compOp] at hc; cases hc; exact ⟨by simp, .inr ⟨by simp, by simp⟩⟩
  | mapUpdate t m k v =>
    simp only [compOp, Option.bind_eq_bind, Option.pure_def, Option.bind_eq_some_iff] at hc
    obtain ⟨_, _, _, _, hc⟩ := hc
    cases hc; exact ⟨by simp, .inr ⟨by simp, by simp⟩⟩
  | insert t m k v =>
    simp only [compOp, Option.bind_eq_bind, Option.pure_def, Option.bind_eq_some_iff] at hc
    obtain ⟨_, _, _, _, hc⟩ := hc
    cases hc; exact ⟨by simp, .inr ⟨by simp, by simp⟩⟩
  | binOp op t x y yt =>
    simp only [compOp, compBin] at hc
    split at hc
    · cases hc; exact ⟨by simp, .inr ⟨by simp, by simp⟩⟩
    · cases hc; exact ⟨by simp, .inr ⟨by simp, by simp⟩⟩
    · simp only [Option.map_eq_some_iff] at hc; obtain ⟨_, _, rfl⟩ := hc; exact ⟨by simp, .inr ⟨by simp, by simp⟩⟩
    · simp only [Option.map_eq_some_iff] at hc; obtain ⟨_, _, rfl⟩ := hc; exact ⟨by simp, .inr ⟨by simp, by simp⟩⟩
    · cases hc
  | convert t u x =>
    simp only [compOp] at hc
    split at hc
    · cases hc; exact ⟨by simp, .inr ⟨by simp, by simp⟩⟩
    · cases hc
  | makeFunc f p c =>
    simp only [compOp] at hc
    cases f <;> simp at hc
    obtain ⟨_, rfl⟩ := hc; exact ⟨by simp, .inr ⟨by simp, by simp⟩⟩
  | slice t x lo hi mx =>
    simp only [compOp] at hc
    split at hc
    · split at hc
      · cases hc
      · cases hc; exact ⟨by simp, .inr ⟨by simp, by simp⟩⟩
    · simp only [Option.map_eq_some_iff] at hc; obtain ⟨_, _, rfl⟩ := hc; exact ⟨by simp, .inr ⟨by simp, by simp⟩⟩
    · cases hc
  | fieldAddr t x i =>
    simp only [compOp, Option.bind_eq_bind, Option.pure_def, Option.bind_eq_some_iff] at hc
    obtain ⟨_, _, _, _, hc⟩ := hc
    split at hc
    · cases hc
    · cases hc; exact ⟨by simp, .inr ⟨by simp, by simp⟩⟩
  | field t x i =>
    simp only [compOp, Option.bind_eq_bind, Option.pure_def, Option.bind_eq_some_iff] at hc
    obtain ⟨_, _, _, _, hc⟩ := hc
    cases hc; exact ⟨by simp, .inr ⟨by simp, by simp⟩⟩
  | indexAddr t x i =>
    simp only [compOp, Option.bind_eq_bind, Option.pure_def, Option.bind_eq_some_iff] at hc
    obtain ⟨_, _, _, _, hc⟩ := hc
    cases hc; exact ⟨by simp, .inr ⟨by simp, by simp⟩⟩
  | index t x i =>
    simp only [compOp] at hc
    split at hc
    · cases hc; exact ⟨by simp, .inr ⟨by simp, by simp⟩⟩
    · cases hc
  | _ => simp [compOp] at hc
theorem evalOp_ok {o : Oper} {op : IOp} {v : V} {s' : St} (hc : compOp P o = some op) (hev : evalOp op e s = some (v, s')) (he : VRs ρ e a.tmps.toList) (hs : Sim B ρ s w) :
    ActsOk P B ρ s w ((execOp a.eval o).run P w) v s' := by
  unfold evalOp at hev
  split at hev
  · rename_i hk
    simp only [Option.map_eq_some_iff, Prod.mk.injEq] at hev
    obtain ⟨v0, hev, rfl, rfl⟩ := hev
    obtain ⟨v', h1, h2⟩ := evalP_ok hc hk hev he
    exact ⟨ρ, w, hs, Step.refl _ _ _ _, .inl ⟨v', h1 w, h2⟩⟩
  · rename_i hk
    simp only [Option.map_eq_some_iff, Prod.mk.injEq] at hev
    obtain ⟨v0, hev, rfl, rfl⟩ := hev
    have hna := (compOp_shape hc).1
    have hlook : evalLook op e s = some v0 := by
      unfold evalL at hev
      split at hev
      · exact absurd rfl (hna _ _)
      · exact hev
    obtain ⟨v', h1, h2⟩ := evalLook_ok hc hlook he hs
    exact ⟨ρ, w, hs, Step.refl _ _ _ _, .inl ⟨v', h1, h2⟩⟩
  · rename_i hk
    simp only [Option.map_eq_some_iff, Prod.mk.injEq] at hev
    obtain ⟨x, hev, rfl, rfl⟩ := hev
    obtain ⟨ob, mk, h1, h2, h3⟩ := evalA_ok (ρ := ρ) hc hk hev he
    have hsim := hs.alloc x.1 ob ⟨w.heap.size, 0, 0, 0, none⟩ rfl (h2 _ _)
    exact ⟨_, _, hsim, Step.alloc hs x.1 ob _ rfl, .inl ⟨_, h1 w, h3 _ _ ⟨w.heap.size, 0, 0, 0, none⟩ (by simp [Rn.put]) rfl rfl⟩⟩
  · exact evalS_ok hc hev he hs
theorem upon_acts {ro : Option Nat} {o : Oper} {r : Result Next} {v : V} {s' : St} (h : ActsOk P B ρ s w r v s') (he : VRs ρ e a.tmps.toList) {next : Act → World → Prop} {Q : Exit → Act → World → Prop}
    (hn : ∀ a' w', After B ρ s w a (put e o.dst v) s' a' w' → next a' w') : o.uponIn (fen ro) 0 P a next Q r := by
  obtain ⟨ρ', w', hsim, hstep, h | h⟩ := h
  · obtain ⟨v', rfl, hv⟩ := h
    rw [Oper.uponIn_value]
    exact hn _ _ ⟨ρ', put_VRs (VRs_mono hstep.le _ _ he) _ hv, hsim, hstep, put_defers _ _⟩
  · obtain ⟨rfl, rfl⟩ := h
    rw [Oper.uponIn_skip]
    exact hn _ _ ⟨ρ', put_VRs (VRs_mono hstep.le _ _ he) _ trivial, hsim, hstep, put_defers _ _⟩
theorem compOp_defer {o : Oper} {op : IOp} (hc : compOp P o = some op) : ∀ c, o.op ≠ .defer c := by
  intro c h
  simp [compOp, h] at hc
theorem compII_op {ops : List Oper} {o : Oper} {i : II} (hc : compII P ops o = some i) : compOp P o = some i.op ∧ i.dst = o.dst := by
  simp only [compII, Option.bind_eq_bind, Option.pure_def, Option.bind_eq_some_iff] at hc
  obtain ⟨op, hop, hc⟩ := hc
  split at hc
  · cases hc; exact ⟨hop, rfl⟩
  · simp only [Option.bind_eq_some_iff, Option.some.injEq] at hc
    obtain ⟨t, _, rfl⟩ := hc
    exact ⟨hop, rfl⟩
theorem execI_ok {ρ0 : Rn} {C : CallT} (hC : CallsOk P B ρ0 C) (hle : Le ρ0 ρ) {ro : Option Nat} {o : Oper} {op : IOp} (hc : compOp P o = some op) {v : V} {s' : St} (hev : execI C op e s = some (v, s')) (he : VRs ρ e a.tmps.toList) (hs : Sim B ρ s w)
    {next : Act → World → Prop} {Q : Exit → Act → World → Prop} (hn : ∀ a' w', After B ρ s w a (put e o.dst v) s' a' w' → next a' w') : o.wpIn (fen ro) 0 P a w next Q := by
  have hnd := compOp_defer hc
  rcases (compOp_shape hc).2 with ⟨c, hoc, hcc⟩ | ⟨h1, h2⟩
  · have hargs : VRs ρ ((c.args.toList.map argOf).map (ev e)) (c.args.map a.eval).toList := by
      rw [Array.toList_map]; exact VRs_map he
    rcases compCall_kind hcc with ⟨f, hf, h0, rfl⟩ | ⟨f, hf, hnf, rfl⟩ | ⟨h1, h2⟩
    · simp only [execI] at hev
      refine call_ok hC hle hnd h0 hs hev hargs ?_ he hn
      simp only [execOp, hoc, resolve, hf, Act.eval, Deferred.ofValue, Sem.run_bind, Sem.run_pure, Result.andThen_ok, invoke]
      congr 2
      simp
    · simp only [execI] at hev
      have hfv := eval_VR he f
      split at hev
      · rename_i g pre caps hg
        rw [hg] at hfv
        rcases hfv with ⟨h0, p', c', hfe, hp, hcp⟩ | ⟨h0, rfl, rfl, p, hp, hfe⟩
        · refine call_ok hC hle hnd h0 hs hev (cargs := (p' ++ c.args.map a.eval) ++ c') ?_ ?_ he hn
          · simp only [Array.toList_append]
            exact VRs_append (VRs_append hp hargs) hcp
          · simp only [execOp, hoc, resolve, hf, hfe, Deferred.ofValue, Sem.run_bind, Sem.run_pure, Result.andThen_ok, invoke]
        · simp only [List.nil_append, List.append_nil] at hev
          refine yield_ok hC hle hnd h0 hp hs hev hargs ?_ he hn
          simp only [execOp, hoc, resolve, hf, hfe, Deferred.ofValue, Sem.run_bind, Sem.run_pure, Result.andThen_ok, invoke]
          simp
      · cases hev
    · have hev' : evalOp op e s = some (v, s') := by
        unfold execI at hev
        split at hev
        · exact absurd rfl (h1 _ _)
        · exact absurd rfl (h2 _ _)
        · exact hev
      exact uponIn_mono (upon_acts (evalOp_ok hc hev' he hs) he hn) hnd rfl
  · have hev' : evalOp op e s = some (v, s') := by
      unfold execI at hev
      split at hev
      · exact absurd rfl (h1 _ _)
      · exact absurd rfl (h2 _ _)
      · exact hev
    exact uponIn_mono (upon_acts (evalOp_ok hc hev' he hs) he hn) hnd rfl
theorem runOps_ok {ρ0 : Rn} {C : CallT} (hC : CallsOk P B ρ0 C) {ro : Option Nat} {ops : Array Oper} {Q : Exit → Act → World → Prop} : ∀ (l : List Oper) (il : List II), l.mapM (compII P ops.toList) = some il → ∀ {e : Env} {s : St} {e' : Env} {s' : St},
    runOps C il e s = some (e', s') → ∀ {ρ : Rn} {a : Act} {w : World}, Le ρ0 ρ → VRs ρ e a.tmps.toList → Sim B ρ s w → (∀ a' w', After B ρ s w a e' s' a' w' → Q .normal a' w') → wpListIn (fen ro) 0 P ops Q l a w
  | [], il, hl, e, s, e', s', hr, ρ, a, w, hle, he, hs, hq => by
    simp at hl; subst hl
    simp only [runOps, Option.some.injEq, Prod.mk.injEq] at hr
    obtain ⟨rfl, rfl⟩ := hr
    exact hq _ _ ⟨ρ, he, hs, Step.refl _ _ _ _, rfl⟩
  | o :: l, il, hl, e, s, e', s', hr, ρ, a, w, hle, he, hs, hq => by
    simp only [List.mapM_cons, Option.bind_eq_bind, Option.pure_def, Option.bind_eq_some_iff, Option.some.injEq] at hl
    obtain ⟨i, hi, il', hil, rfl⟩ := hl
    simp only [runOps, Option.bind_eq_some_iff] at hr
    obtain ⟨⟨e1, s1⟩, h1, hr⟩ := hr
    obtain ⟨hop, hdst⟩ := compII_op hi
    have step : ∀ a1 w1, After B ρ s w a e1 s1 a1 w1 → wpListIn (fen ro) 0 P ops Q l a1 w1 := by
      rintro a1 w1 ⟨ρ1, k1, k2, k3, k4⟩
      exact runOps_ok hC l il' hil hr (hle.trans k3.le) k1 k2 (fun a' w' hA => hq _ _ (After.trans k3 k4 hA))
    unfold stepI at h1
    unfold wpListIn
    split at h1
    · rename_i hw
      rw [wanted_ok hi he hw, if_pos rfl]
      simp only [Option.map_eq_some_iff, Prod.mk.injEq] at h1
      obtain ⟨⟨v, s2⟩, h2, rfl, rfl⟩ := h1
      rw [hdst] at step
      exact execI_ok hC hle hop h2 he hs step
    · rename_i hw
      rw [wanted_ok hi he hw]
      simp only [Option.some.injEq, Prod.mk.injEq] at h1
      obtain ⟨rfl, rfl⟩ := h1
      rw [hdst] at step
      simp only [Bool.false_eq_true, if_false]
      exact ⟨fun _ _ => trivial, step _ _ ⟨ρ, put_VRs he _ ⟨#[], rfl, rfl⟩, hs, Step.refl _ _ _ _, put_defers _ _⟩⟩
    · cases h1
end
end Go.IM