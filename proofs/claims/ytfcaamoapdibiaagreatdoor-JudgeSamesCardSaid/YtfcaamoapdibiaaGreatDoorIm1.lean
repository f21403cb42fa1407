/- From the program's code to the ideal machine's: a function that is reckoned; nothing is proved here of Go. -/
import Derived.Test.YtfcaamoapdibiaaGreatDoorIm0
set_option linter.unusedSimpArgs false
set_option linter.unusedVariables false
namespace Go.IM

mutual
def ofVal : Value → V
  | .bool b => .bool b
  | .int k n => .int k n
  | .string s => .str s
  | .pointer none => .ptr none
  | .pointer (some ⟨b, o, none⟩) => .ptr (some ⟨.old b, o⟩)
  | .slice none 0 0 => .slice none 0 (some 0)
  | .slice (some ⟨b, o, some _⟩) 0 0 => .slice (some ⟨.old b, o⟩) 0 (some 0)
  | .slice (some ⟨b, o, none⟩) n c => if n ≤ c then .slice (some ⟨.old b, o⟩) n (some c) else .junk (.slice (some ⟨b, o, none⟩) n c)
  | .map none => .map none
  | .map (some b) => .map (some (.old b))
  | .nilFunc => .nilFunc
  | .nilIface => .nilIface
  | .agg ⟨l⟩ => .agg (ofVals l)
  | .tuple ⟨l⟩ => .tuple (ofVals l)
  | v => .junk v
def ofVals : List Value → List V
  | [] => []
  | v :: l => ofVal v :: ofVals l
end

def argOf : Operand → Arg
  | .tmp t => .t t
  | .const v => .c (ofVal v)
  | .global g => .c (.ptr (some ⟨.old g, 0⟩))
  | .func f => .c (if f < yBase then .func f [] [] else .any)

def aggD : TypeDesc → Bool
  | .struct _ | .array _ _ => true
  | _ => false

section
variable (P : Program)

def zeroOf (t : TypeId) : Option (List V) := do
  let i ← P.info? t
  let z ← i.zero
  pure (ofVals z.cells.toList)

def sizeOfT (t : TypeId) : Option Nat := (P.info? t).map (·.size)

def isAggT (t : TypeId) : Option Bool := (P.underlying t).map aggD

/-- Of a value of a type: 'some n', if it is an aggregate of n cells. -/
def aggN (t : TypeId) : Option (Option Nat) := do
  let b ← isAggT P t
  let n ← sizeOfT P t
  pure (if b then some n else none)

def placesOf (t : TypeId) : Option (Nat → Option (Nat × Nat)) :=
  match P.underlying t with
  | some (.struct fields) => do
    let l ← fields.toList.mapM fun f => do pure (f.offset, ← sizeOfT P f.type)
    pure fun i => l[i]?
  | some (.array _ el) => do
    let n ← sizeOfT P el
    pure fun i => some (i * n, n)
  | _ => none

def partsOf (place : Nat → Option (Nat × Nat)) (parts : List (Nat × Operand)) : Option (List (Nat × Nat × Arg)) :=
  parts.mapM fun (i, x) => do let (o, n) ← place i; pure (o, n, argOf x)

def ckOf (t : TypeId) : Option CK :=
  match P.underlying t with
  | some (.int _) => some .i
  | some .bool => some .b
  | some .string => some .s
  | _ => none

/-- A type of plain cells: a number, a bool, a string; a struct of such fields, one cell each, none blank. -/
def ktOf (t : TypeId) : Option KT :=
  match P.underlying t with
  | some (.struct fields) =>
    if fields.toList.zipIdx.all (fun (f, i) => f.offset == i && f.name != "_") && !P.stoodInHeld t && !P.eqGuardType P.depth t
    then (fields.toList.mapM fun f => ckOf P f.type).map .agg else none
  | _ => (ckOf P t).map .one

def ekOf (t : TypeId) : Option EK :=
  match P.underlying t with
  | some (.pointer _) => some .ptr
  | some (.slice _) => some .slice
  | some (.map _ _) => some .map
  | some (.func _ _ _) => some .func
  | some (.array n el) =>
    if P.cellsOf el == 1 && (P.info? el).isSome && !P.eqGuardType P.depth t then (ckOf P el).map fun k => .key (.agg (List.replicate n k)) else none
  | _ => (ktOf P t).map .key

def compBin (op : BinOp) (t : TypeId) (x y : Operand) : Option IOp :=
  match op, P.underlying t with
  | _, some (.int _) => some (.bin op (argOf x) (argOf y))
  | _, some .string => some (.bin op (argOf x) (argOf y))
  | .eql, _ => (ekOf P t).map fun k => .eql false k (argOf x) (argOf y)
  | .neq, _ => (ekOf P t).map fun k => .eql true k (argOf x) (argOf y)
  | _, _ => none

def elemOfT (t : TypeId) : Option TypeId := match P.underlying t with | some (.slice el) => some el | _ => none
def fieldOfT (t : TypeId) (i : Nat) : Option Field := match P.underlying t with | some (.struct fields) => fields[i]? | _ => none
def mapOfT (t : TypeId) : Option (TypeId × TypeId) := match P.underlying t with | some (.map k el) => some (k, el) | _ => none

/-- Is it a slice or a string that is appended? -/
def appendsT (u : TypeId) : Bool := match P.underlying u with | some (.slice _) | some .string => true | _ => false

def compAppend (t u : TypeId) (x y : Arg) : Option IOp := do
  let el ← elemOfT P t
  let i ← P.info? el
  let z ← i.zero
  if z.cells.size = i.size ∧ appendsT P u = true then pure (.append i.size i.bytes x y) else none

def compAppendZ (t u : TypeId) (x y : Arg) : Option IOp := do
  let el ← elemOfT P t
  let i ← P.info? el
  let z ← i.zero
  match P.underlying u with
  | some (.int _) => if z.cells.size = i.size ∧ 0 < i.size then pure (.appendZ i.size i.bytes (ofVals z.cells.toList) x y) else none
  | _ => none

def compClear (t : TypeId) (x : Arg) : Option IOp := do
  let el ← elemOfT P t
  let i ← P.info? el
  let z ← i.zero
  if 0 < z.cells.size then pure (.clearSlice (ofVals z.cells.toList) x) else none

def compCall (c : Call) : Option IOp :=
  let args := c.args.toList.map argOf
  match c.callee with
  | .value (.func f) => if f < yBase then some (.call f args) else none
  | .value f => some (.callv (argOf f) args)
  | .builtin .len =>
    match c.argTypes.toList, args with
    | [t], [x] => (match P.underlying t with | some .string => some (.lenStr x) | some (.slice _) => some (.lenSlice x) | some (.map _ _) => some (.lenMap x) | _ => none)
    | _, _ => none
  | .builtin .append =>
    match c.argTypes.toList, args with
    | [t, u], [x, y] => (compAppend P t u x y).or (compAppendZ P t u x y)
    | _, _ => none
  | .builtin .cap =>
    match c.argTypes.toList, args with
    | [t], [x] => (match P.underlying t with | some (.slice _) => some (.capSlice x) | _ => none)
    | _, _ => none
  | .builtin .clear =>
    match c.argTypes.toList, args with
    | [t], [x] => compClear P t x
    | _, _ => none
  | .builtin .max =>
    match args with
    | [x, y] => some (.minmax true x y)
    | _ => none
  | .builtin .min =>
    match args with
    | [x, y] => some (.minmax false x y)
    | _ => none
  | _ => none

def compOp (o : Oper) : Option IOp :=
  match o.op with
  | .move x | .assign x => some (.mov (argOf x))
  | .pick c a b => some (.pick (argOf c) (argOf a) (argOf b))
  | .alloc t => (zeroOf P t).map .alloc
  | .box _ x => some (.box (argOf x))
  | .build t parts => do
    let z ← zeroOf P t
    let pl ← placesOf P t
    let ps ← partsOf pl parts.toList
    pure (.build z ps)
  | .buildSlice t len parts => do
    let el ← elemOfT P t
    let n ← sizeOfT P el
    let z ← zeroOf P el
    if len * n > 2 ^ 24 ∨ z.length ≠ n then none
    let ps ← partsOf (fun i => some (i * n, n)) parts.toList
    pure (.buildSlice len (zeros z len) ps)
  | .load t a => do let n ← aggN P t; pure (.load n (argOf a))
  | .store t a v => do let n ← sizeOfT P t; pure (.store n (argOf a) (argOf v))
  | .nilCheck x => some (.nilCheck (argOf x))
  | .binOp op t x y _ => compBin P op t x y
  | .unOp op _ x => some (.un op (argOf x))
  | .convert src dst x =>
    match P.underlying src, P.underlying dst with
    | some (.int _), some (.int k) => some (.conv k (argOf x))
    | _, _ => none
  | .makeFunc (.func f) pre caps => if f < yBase then some (.mkFunc f (pre.toList.map argOf) (caps.toList.map argOf)) else none
  | .makeMap t r =>
    match r with
    | none => some .mkMap
    | some _ => none
  | .makeSlice t l c => do
    let el ← elemOfT P t
    let i ← P.info? el
    let z ← zeroOf P el
    if z.length ≠ i.size then none
    pure (.mkSlice i.bytes z (argOf l) (argOf c))
  | .slice t x lo hi mx =>
    match P.underlying t with
    | some .string => if mx.isSome then none else some (.sliceStr (argOf x) (lo.map argOf) (hi.map argOf))
    | some (.slice el) => (sizeOfT P el).map fun n => .slice n (argOf x) (lo.map argOf) (hi.map argOf) (mx.map argOf)
    | _ => none
  | .fieldAddr t x i => do
    let f ← fieldOfT P t i
    let n ← sizeOfT P f.type
    if n = 0 then none
    pure (.fieldAddr f.offset (argOf x))
  | .field t x i => do
    let f ← fieldOfT P t i
    let n ← aggN P f.type
    pure (.field f.offset n (argOf x))
  | .indexAddr t x i => do
    let el ← elemOfT P t
    let n ← sizeOfT P el
    pure (.indexAddr n (argOf x) (argOf i))
  | .index t x i =>
    match P.underlying t with
    | some .string => some (.indexStr (argOf x) (argOf i))
    | _ => none
  | .lookup t m k ok => do
    let (kt, el) ← mapOfT P t
    let k' ← ktOf P kt
    let i ← P.info? el
    let z ← i.zero
    pure (.lookup k' (ofVal z) ok (argOf m) (argOf k))
  | .mapUpdate t m k v | .insert t m k v => do
    let (kt, _) ← mapOfT P t
    let k' ← ktOf P kt
    pure (.mapSet k' (argOf m) (argOf k) (argOf v))
  | .mapEntry t m k => do
    let (kt, el) ← mapOfT P t
    let k' ← ktOf P kt
    let i ← P.info? el
    let z ← i.zero
    pure (.mapEnt k' (ofVal z) (argOf m) (argOf k))
  | .entryStore _ m st v => some (.entSet (argOf m) (argOf st) (argOf v))
  | .extract x i => some (.extract (argOf x) i)
  | .call c => compCall P c
  | .range t x => match P.underlying t with
    | some (.map _ _) => some (.rangeMap (argOf x))
    | _ => none
  | .next it str => if str then none else some (.nextMap (argOf it))
  | _ => none

/-- An operation that the machine lacks stops it, if it is met. -/
def compOpD (o : Oper) : Option IOp :=
  match o.op with
  | .defer _ => none
  | _ => (compOp P o).or (some .dead)

def compII (ops : List Oper) (o : Oper) : Option II := do
  let op ← compOpD P o
  match o.guard with
  | none => pure { dst := o.dst, op, guard := none }
  | some (j, want) => do
    let t ← (ops[j]?).bind (·.dst)
    pure { dst := o.dst, op, guard := some (t, want) }

def IOp.acts (o : IOp) : Bool := decide (o.kind = .s)
def IOp.looks (o : IOp) : Bool := decide (o.kind = .l)

def depsOf (o : Oper) : List Nat := (o.after.toList.filter (Region.binds .any)).map (·.on)

/-- Of each operation all that must come ahead of it. -/
def ancs (ops : List Oper) : List (List Nat) :=
  ops.foldl (fun acc o => acc ++ [((depsOf o).flatMap fun d => d :: acc.getD d []).eraseDups]) []

/-- A region whose order is open, as it is reckoned: its operations; what must come ahead of each; the order in which the machine runs it. -/
structure Drawn where
  iis : List II
  deps : List (List Nat)
  an : List (List Nat)
  ord : List Nat

namespace Drawn
variable (d : Drawn)
def n : Nat := d.iis.length
def acts (i : Nat) : Bool := ((d.iis[i]?).map (·.op.acts)).getD false
def looks (i : Nat) : Bool := ((d.iis[i]?).map (·.op.looks)).getD false
def before (i j : Nat) : Bool := (d.an.getD j []).contains i
def dst (i : Nat) : Option Nat := (d.iis[i]?).bind (·.dst)
def reads (i t : Nat) : Bool := ((d.iis[i]?).map fun x => x.reads.contains t).getD false
/-- What may come behind an act although it looks, and is run ahead of it. -/
def open_ (i j : Nat) : Bool := d.looks i && d.acts j && !d.before i j && !d.before j i

def okPair (i j : Nat) : Bool :=
  (!d.open_ j i || (d.dst j).isSome) &&
  (match d.dst i with
   | some t => (i == j || d.dst j != some t) && (!d.reads j t || d.before i j || (d.before j i && !(List.range d.n).any (d.open_ j)))
   | none => true)

def okOrd : List Nat → Bool
  | [] => true
  | i :: l => decide (i < d.n) && !l.contains i && l.all (fun j => !d.before j i && (!d.acts i || d.before i j)) && okOrd l

def ok : Bool :=
  (List.range d.n).all (fun i => (d.deps.getD i []).all (fun x => d.before x i) &&
    (d.an.getD i []).all (fun x => decide (x < i) && ((d.an.getD x []).all fun y => d.before y i) && ((d.deps.getD i []).contains x || (d.deps.getD i []).any (d.before x))) && d.ord.contains i && (List.range d.n).all (d.okPair i)) && d.okOrd d.ord

/-- What is looked at again behind an act. -/
def rechecks (i : Nat) : List II :=
  ((List.range d.n).filter fun j => d.open_ j i).filterMap fun j => (d.iis[j]?).bind fun x => x.dst.map fun t => { dst := none, op := .again t x.op, guard := x.guard }

def items (i : Nat) : List II := (d.iis[i]?).toList ++ (if d.acts i then d.rechecks i else [])

def canon : List II := d.ord.flatMap d.items
end Drawn

def insertBy (key : Nat → Nat) (i : Nat) : List Nat → List Nat
  | [] => [i]
  | j :: l => if key i < key j then i :: j :: l else j :: insertBy key i l

def drawnOf (ops : List Oper) (iis : List II) : Drawn :=
  let an := ancs ops
  let acts (i : Nat) : Bool := ((iis[i]?).map (·.op.acts)).getD false
  let key (i : Nat) : Nat := 2 * ((an.getD i []).filter acts).length + (if acts i then 1 else 0)
  ⟨iis, ops.map depsOf, an, (List.range iis.length).foldl (fun l i => insertBy key i l) []⟩

def bitOf (t : Nat) : Nat := 1 <<< t
def clr (m t : Nat) : Nat := m ^^^ (m &&& bitOf t)
def bits (l : List Nat) : Nat := l.foldl (fun m t => m ||| bitOf t) 0
/-- What is still looked at ahead of an operation. -/
def liveII (i : II) (m : Nat) : Nat := (match i.dst with | some d => clr m d | none => m) ||| bits i.reads
def liveOps (l : List II) (m : Nat) : Nat := l.foldr liveII m
def liveArg : Arg → Nat
  | .t t => bitOf t
  | .c _ => 0
def keepOf (nt m : Nat) : List Bool := (List.range nt).map fun i => m.testBit i

/-- Code; 'out': what is looked at behind it, 'ex': where it may go off to, and what is looked at there, 'rt': what is looked at when it returns; 'rg': may it hold a loop over a function? -/
def compC (nt : Nat) (rg : Bool) (ex : List (Nat × Nat)) (rt out : Nat) : Code → Option (IC × Nat)
  | .skip => some (.region [] (keepOf nt out), out)
  | .region _ ops draw => do
    let iis ← ops.toList.mapM (compII P ops.toList)
    if draw then
      let d := drawnOf ops.toList iis
      if d.ok then pure (.region d.canon (keepOf nt out), liveOps d.canon out) else pure (.dead, 0)
    else pure (.region iis (keepOf nt out), liveOps iis out)
  | .seq a b => do
    let y ← compC nt rg ex rt out b
    let x ← compC nt rg ex rt y.2 a
    pure (.seq x.1 y.1, x.2)
  | .cond c a b => do
    let x ← compC nt rg ex rt out a
    let y ← compC nt rg ex rt out b
    pure (.cond (argOf c) x.1 y.1, x.2 ||| y.2 ||| liveArg (argOf c))
  | .block id a => do
    let x ← compC nt rg ((id, out) :: ex) rt out a
    pure (.block id x.1, x.2)
  | .loop a => do
    let x ← compC nt rg ex rt 0 a
    let y ← compC nt rg ex rt x.2 a
    pure (.seq (.region [] (keepOf nt x.2)) (.loop (.seq y.1 (.region [] (keepOf nt x.2)))), x.2)
  | .rangeFunc g ps a b =>
    if rg then do
      let y ← compC nt false (ex.map fun p => (p.1, 0)) 0 0 b
      let x ← compC nt false (ex.map fun p => (p.1, 0)) 0 y.2 a
      let m := ps.toList.foldl clr x.2 ||| liveArg (argOf g) ||| out ||| rt ||| ex.foldl (fun m p => m ||| p.2) 0
      pure (.seq (.region [] (keepOf nt m)) (.seq (.range (argOf g) ps.toList x.1 y.1) (.region [] (keepOf nt out))), m)
    else pure (.dead, 0)
  | .exit id =>
    let m := ((ex.find? fun p => p.1 == id).map (·.2)).getD (2 ^ nt - 1)
    some (.seq (.region [] (keepOf nt m)) (.exit id), m)
  | .ret => some (.seq (.region [] (keepOf nt rt)) .ret, rt)
  | _ => some (.dead, 0)

/-- A call that is put off, at a region's end. -/
def deferOf (ops : List Oper) : Option (List Oper × Call) :=
  match ops.getLast? with
  | some o => match o.op, o.guard, o.dst with
    | .defer c, none, none => some (ops.dropLast, c)
    | _, _, _ => none
  | none => none

/-- A function's code: calls may be put off on the way. -/
def compTop (nt : Nat) (rt : Nat) : Code → Option (IC × Nat)
  | .seq a b => do
    let y ← compTop nt rt b
    match a with
    | .region id ops draw =>
      match draw, deferOf ops.toList with
      | false, some (l, c) =>
        match c.callee with
        | .value f => do
          let iis ← l.mapM (compII P ops.toList)
          let m := y.2 ||| liveArg (argOf f) ||| (c.args.toList.map fun x => liveArg (argOf x)).foldl (· ||| ·) 0
          pure (.seq (.region iis (keepOf nt m)) (.dfr (argOf f) (c.args.toList.map argOf) y.1), liveOps iis m)
        | _ => none
      | _, _ => do
        let x ← compC P nt true [] rt y.2 (.region id ops draw)
        pure (.seq x.1 y.1, x.2)
    | a => do
      let x ← compC P nt true [] rt y.2 a
      pure (.seq x.1 y.1, x.2)
  | c => compC P nt true [] rt rt c

def resOf : ResultVar → Option (Nat × Option (Option Nat))
  | .tmp t => some (t, none)
  | .cell t ty => (aggN P ty).map fun n => (t, some n)

def compF (f : Nat) : Option IFn := do
  let fn ← P.funcs[f]?
  if fn.name == "runtime.NumGoroutine" then none
  let c ← fn.body
  let rs ← fn.results.toList.mapM (resOf P)
  let rt := bits (rs.map (·.1))
  let b ← compTop P fn.ntmps rt c
  pure { ntmps := fn.ntmps, results := rs, body := b.1 }
end
end Go.IM
