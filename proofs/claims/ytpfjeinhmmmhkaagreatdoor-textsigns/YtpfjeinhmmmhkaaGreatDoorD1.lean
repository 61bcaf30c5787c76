/- TextSigns: whatever three signs come in, the law answers true and its input reads as it did (the tied card): part 1 of the texts behind it: DetA, DetB, DetC, DetD, DetE, DetF, DetG, DetH, DetI, DetJ, DetK, DetL, DetM, DetN, DetO, DetP. No premise of its own. -/
import Derived.Calls
import Derived.Scope
import Derived.ScopeJumps
import Derived.LoopN
import Derived.Deep.AppendSrc
import Derived.Laws.IdiomCopy
import Derived.Laws.BytesString
import Derived.Laws.MakeOwn
import Derived.Laws.StructEq
import Derived.Laws.Tables
import Derived.Lib.Strings
import Derived.Lib.ConvBytes
import Derived.Deep.Upon
set_option linter.all false
section
set_option linter.unusedVariables false
namespace Go.Det

/-! Values of the deterministic reading. -/
inductive DV where
  | any
  | unk
  | bool (b : Bool)
  | int (k : IntKind) (n : Int)
  | str (s : List UInt8)
  | nilptr
  | ptr (b n i off : Nat)
  | eptr (n : Nat) (es : List DV) (i off : Nat)
  | gptr (g off : Nat)
  | nilsl
  | rsl (b n off len : Nat)
  | psl (n : Nat) (es : List DV)
  | fn (f : Fn) (first captured : List DV)
  | nilfn
  | iface (t : TypeId) (v : DV)
  | niliface
  | map (b : Nat)
  | nilmap
  | agg (cs : List DV)
  | tup (vs : List DV)
  deriving Inhabited

def DV.cells : DV → List DV
  | .agg cs => cs
  | .unk => []
  | .tup _ => []
  | v => [v]

/-- Blocks: a variable (its cells may hold references); a row of pure elements, n cells each; an iterator over a text. -/
inductive Blk where
  | box (cs : List DV)
  | row (n : Nat) (es : List DV)
  | iter (s : List UInt8) (pos : Nat)
  deriving Inhabited

abbrev Heap := List (Option Blk)

structure St where
  t : List DV
  h : Heap
  deriving Inhabited

inductive Td where
  | bool | int (k : IntKind) | str | ptr (e : TypeId) | sl (e : TypeId) | arr (n : Nat) (e : TypeId) | map (k e : TypeId)
  | st (fs : List (Nat × TypeId)) | fn | ifc | other
  deriving Inhabited

structure Ti where
  d : Td
  size : Nat
  bytes : Nat
  zero : List DV
  deriving Inhabited

structure Fi where
  nt : Nat
  res : List ResultVar
  code : Code
  deriving Inhabited

inductive Ex where
  | normal | exit (id : Nat) | goto (l : Nat) | ret
  deriving Inhabited

structure Cfg where
  T : Nat → Option Ti
  F : Nat → Option Fi
  prim : Nat → Option (List DV → Option DV)
  glob : Nat → Option (List DV)
  live : Nat → Nat → Option (List Nat)
  scal : Nat → Bool
  own : Nat → Bool
  keep : Nat → Nat → Bool     -- function, slot: a buildSlice there makes a row of its own (else sealed memory)
  sem : Nat → Nat → Code → St → Ex → St → Prop := fun _ _ _ _ _ _ => False     -- pieces of code whose runs are known otherwise

def hget (h : Heap) (b : Nat) : Option Blk := (h[b]?).getD none
def sget (t : List DV) (i : Nat) : DV := t.getD i (.tup [])

/-! Mentions. -/
mutual
def DV.ments : DV → List Nat
  | .ptr b _ _ _ => [b]
  | .rsl b _ _ _ => [b]
  | .map b => [b]
  | .fn _ a c => mentsL a ++ mentsL c
  | .iface _ v => v.ments
  | .agg cs => mentsL cs
  | .tup vs => mentsL vs
  | _ => []
def mentsL : List DV → List Nat
  | [] => []
  | v :: l => v.ments ++ mentsL l
end
/-- No references to memory that may change. -/
def DV.pure (v : DV) : Bool := v.ments.isEmpty
def pureL (l : List DV) : Bool := (mentsL l).isEmpty

def inter (a b : List Nat) : Bool := a.any fun x => b.contains x
mutual
def DV.forget (φ : List Nat) : DV → DV
  | .ptr b n i o => if φ.contains b then .any else .ptr b n i o
  | .rsl b n i o => if φ.contains b then .any else .rsl b n i o
  | .map b => if φ.contains b then .any else .map b
  | .fn f a c => .fn f (forgetL φ a) (forgetL φ c)
  | .iface t v => .iface t (v.forget φ)
  | .agg cs => .agg (forgetL φ cs)
  | .tup vs => .tup (forgetL φ vs)
  | v => v
def forgetL (φ : List Nat) : List DV → List DV
  | [] => []
  | v :: l => v.forget φ :: forgetL φ l
end
def Blk.forget (φ : List Nat) : Blk → Blk
  | .box cs => .box (forgetL φ cs)
  | b => b

/-! Constants and operands. -/
def ofCell : Value → Option DV
  | .bool b => some (.bool b)
  | .int k n => some (.int k n)
  | .string s => some (.str s.data.toList)
  | .pointer none => some .nilptr
  | .slice none 0 0 => some .nilsl
  | .map none => some .nilmap
  | .nilFunc => some .nilfn
  | .nilIface => some .niliface
  | _ => none
def ofCells : List Value → Option (List DV)
  | [] => some []
  | v :: l => match ofCell v, ofCells l with
    | some x, some y => some (x :: y)
    | _, _ => none
def ofConst : Value → Option DV
  | .agg cs => (ofCells cs.toList).map .agg
  | .tuple vs => if vs.size = 0 then some (.tup []) else none
  | v => ofCell v

def opnd (t : List DV) : Operand → DV
  | .tmp i => sget t i
  | .const v => (ofConst v).getD .unk
  | .global g => .gptr g 0
  | .func f => .fn (.func f) [] []

/-! Pure operations. -/
def bytesLess : List UInt8 → List UInt8 → Bool := Op.bytesLess

def intOp (op : BinOp) (k : IntKind) (x y : Int) : Option DV :=
  match op with
  | .add => some (.int k (k.wrap (x + y)))
  | .sub => some (.int k (k.wrap (x - y)))
  | .mul => some (.int k (k.wrap (x * y)))
  | .quo => if y = 0 then none else some (.int k (k.wrap (x.tdiv y)))
  | .rem => if y = 0 then none else some (.int k (x.tmod y))
  | .and => some (.int k (k.wrap (BitVec.ofInt k.bits x &&& BitVec.ofInt k.bits y).toNat))
  | .or => some (.int k (k.wrap (BitVec.ofInt k.bits x ||| BitVec.ofInt k.bits y).toNat))
  | .xor => some (.int k (k.wrap (BitVec.ofInt k.bits x ^^^ BitVec.ofInt k.bits y).toNat))
  | .andNot => some (.int k (k.wrap (BitVec.ofInt k.bits x &&& ~~~ BitVec.ofInt k.bits y).toNat))
  | .eql => some (.bool (x == y))
  | .neq => some (.bool (x != y))
  | .lss => some (.bool (x < y))
  | .leq => some (.bool (x ≤ y))
  | .gtr => some (.bool (x > y))
  | .geq => some (.bool (x ≥ y))
  | _ => none

def shiftOp (op : BinOp) (k : IntKind) (x y : Int) : Option DV :=
  if y < 0 then none else
  match op with
  | .shl => some (.int k (k.wrap (x * 2 ^ (min y.toNat k.bits))))
  | .shr => some (.int k (x.fdiv (2 ^ (min y.toNat k.bits))))
  | _ => none

def strOp (op : BinOp) (x y : List UInt8) : Option DV :=
  match op with
  | .add => if x.length + y.length ≤ 2 ^ 32 then some (.str (x ++ y)) else none
  | .eql => some (.bool (x == y))
  | .neq => some (.bool (!(x == y)))
  | .lss => some (.bool (bytesLess x y))
  | .leq => some (.bool (bytesLess x y || x == y))
  | .gtr => some (.bool (!(bytesLess x y || x == y)))
  | .geq => some (.bool (!bytesLess x y))
  | _ => none


def isAggT (T : Nat → Option Ti) (t : Nat) : Option Bool :=
  match T t with
  | some ti => some (match ti.d with | .st _ => true | .arr _ _ => true | _ => false)
  | none => none
def sizeOfT (T : Nat → Option Ti) (t : Nat) : Option Nat := (T t).map (·.size)

/-- Some cells of a whole as a value of a type. -/
def partT (T : Nat → Option Ti) (t : Nat) (cs : List DV) (off : Nat) : Option DV :=
  match T t with
  | some ti =>
    match ti.d with
    | .st _ => some (.agg ((cs.drop off).take ti.size))
    | .arr _ _ => some (.agg ((cs.drop off).take ti.size))
    | _ => cs[off]?
  | none => none

def eqF (T : Nat → Option Ti) (f : Nat → DV → DV → Option Bool) : List (Nat × Nat) → List DV → List DV → Option Bool
  | [], _, _ => some true
  | (off, ft) :: fs, xs, ys =>
    match partT T ft xs off, partT T ft ys off with
    | some a, some b =>
      match f ft a b with
      | some true => eqF T f fs xs ys
      | some false => some false
      | none => none
    | _, _ => none
def eqT (T : Nat → Option Ti) : Nat → Nat → DV → DV → Option Bool
  | 0, _, _, _ => none
  | d + 1, t, x, y =>
    match T t with
    | none => none
    | some ti =>
      match ti.d, x, y with
      | .bool, .bool a, .bool b => some (a == b)
      | .int _, .int k a, .int k' b => if k = k' then some (a == b) else none
      | .str, .str a, .str b => some (a == b)
      | .sl _, .nilsl, .nilsl => some true
      | .sl _, .nilsl, .rsl .. => some false
      | .sl _, .rsl .., .nilsl => some false
      | .sl _, .nilsl, .psl _ (_ :: _) => some false
      | .sl _, .psl _ (_ :: _), .nilsl => some false
      | .ifc, .niliface, .niliface => some true
      | .ifc, .niliface, .iface _ _ => some false
      | .ifc, .iface _ _, .niliface => some false
      | .st fs, .agg xs, .agg ys => eqF T (eqT T d) fs xs ys
      | _, _, _ => none

def binOp (T : Nat → Option Ti) (op : BinOp) (t : Nat) (x y : DV) : Option DV :=
  match x, y with
  | .int k a, .int k' b =>
    match op with
    | .shl => shiftOp .shl k a b
    | .shr => shiftOp .shr k a b
    | op => if k = k' then intOp op k a b else none
  | .str a, .str b => strOp op a b
  | x, y =>
    match op with
    | .eql => (eqT T 20 t x y).map .bool
    | .neq => (eqT T 20 t x y).map fun b => .bool (!b)
    | _ => none

def unOp (op : UnOp) (x : DV) : Option DV :=
  match op, x with
  | .neg, .int k n => intOp .sub k 0 n
  | .xor, .int k n => intOp .xor k (if k.signed then -1 else k.max) n
  | .not, .bool b => some (.bool !b)
  | _, _ => none

def asNat : DV → Option Nat
  | .int _ n => if 0 ≤ n then some n.toNat else none
  | _ => none
/-- A bound of a slice expression: from 0 to y. -/
def bound (x : Option DV) (dflt y : Nat) : Option Nat :=
  match x with
  | none => some dflt
  | some v => match asNat v with
    | some n => if n ≤ y then some n else none
    | none => none

def sliceOp (T : Nat → Option Ti) (t : Nat) (x : DV) (lo hi : Option DV) : Option DV :=
  match T t with
  | none => none
  | some ti =>
    match ti.d, x with
    | .str, .str s =>
      match bound hi s.length s.length with
      | some h => match bound lo 0 h with
        | some l => some (.str ((s.take h).drop l))
        | none => none
      | none => none
    | .sl e, .nilsl =>
      match T e with
      | none => none
      | some _ =>
        match bound hi 0 0 with
        | some h => match bound lo 0 h with
          | some l => some .nilsl
          | none => none
        | none => none
    | .sl e, .psl n es =>
      match T e with
      | none => none
      | some te =>
        if te.size ≠ n then none else
        match bound hi es.length es.length with
        | some h => match bound lo 0 h with
          | some l => some (.psl n ((es.take h).drop l))
          | none => none
        | none => none
    | .sl e, .rsl b n off len =>
      match T e with
      | none => none
      | some te =>
        if te.size ≠ n then none else
        match bound hi len len with
        | some h => match bound lo 0 h with
          | some l => if l = 0 ∨ l < h then some (.rsl b n (off + l) (h - l)) else some (.psl n [])
          | none => none
        | none => none
    | _, _ => none

def indexOp (T : Nat → Option Ti) (t : Nat) (x i : DV) : Option DV :=
  match asNat i, T t with
  | some i, some ti =>
    match ti.d, x with
    | .str, .str s => (s[i]?).map fun b => .int .u8 b.toNat
    | .arr n e, .agg cs => if i < n then (match T e with | some te => partT T e cs (i * te.size) | none => none) else none
    | _, _ => none
  | _, _ => none

def fieldOp (T : Nat → Option Ti) (t : Nat) (x : DV) (f : Nat) : Option DV :=
  match T t, x with
  | some ti, .agg cs =>
    match ti.d with
    | .st fs => match fs[f]? with
      | some (off, ft) => partT T ft cs off
      | none => none
    | _ => none
  | _, _ => none

def shiftPtr (x : DV) (o : Nat) : Option DV :=
  match x with
  | .ptr b n i off => if off + o < n then some (.ptr b n i (off + o)) else none
  | .eptr n es i off => if off + o < n then some (.eptr n es i (off + o)) else none
  | .gptr g off => some (.gptr g (off + o))
  | _ => none

def fieldAddrOp (T : Nat → Option Ti) (t : Nat) (x : DV) (f : Nat) : Option DV :=
  match T t with
  | some ti =>
    match ti.d with
    | .st fs => match fs[f]? with
      | some (off, ft) => match T ft with
        | some tf => if tf.size = 0 then none else shiftPtr x off
        | none => none
      | none => none
    | _ => none
  | none => none

def indexAddrOp (T : Nat → Option Ti) (t : Nat) (x i : DV) : Option DV :=
  match asNat i, x with
  | some i, .psl n es =>
    match T t with
    | some ti => match ti.d with
      | .sl e => match T e with
        | some te => if te.size = n ∧ i < es.length then some (.eptr n es i 0) else none
        | none => none
      | _ => none
    | none => none
  | some i, .rsl b n off len =>
    match T t with
    | some ti => match ti.d with
      | .sl e => match T e with
        | some te => if te.size = n ∧ i < len then some (.ptr b n (off + i) 0) else none
        | none => none
      | _ => none
    | none => none
  | some i, x =>
    match T t with
    | some ti => match ti.d with
      | .arr n e => match T e with
        | some te => if i < n ∧ te.size ≠ 0 then shiftPtr x (i * te.size) else none
        | none => none
      | _ => none
    | none => none
  | none, _ => none

/-! Literals: parts laid over zero cells. -/
def over (cs : List DV) (off : Nat) : List DV → List DV
  | [] => cs
  | v :: l => over (cs.set off v) (off + 1) l
def fill (place : Nat → Option (Nat × Nat)) : List DV → List (Nat × DV) → Option (List DV)
  | cs, [] => some cs
  | cs, (i, v) :: rest =>
    match place i with
    | none => none
    | some (off, size) => if v.cells.length = size ∧ size ≠ 0 ∧ off + size ≤ cs.length then fill place (over cs off v.cells) rest else none
def placeOf (T : Nat → Option Ti) (fs : List (Nat × Nat)) (i : Nat) : Option (Nat × Nat) :=
  match fs[i]? with
  | some (off, ft) => match T ft with
    | some tf => some (off, tf.size)
    | none => none
  | none => none
def buildOp (T : Nat → Option Ti) (t : Nat) (parts : List (Nat × DV)) : Option DV :=
  match T t with
  | some ti =>
    match ti.d with
    | .st fs => if ti.zero = [] then none else (fill (placeOf T fs) ti.zero parts).map .agg
    | .arr _ e => match T e with
      | some te => if ti.zero = [] then none else (fill (fun i => some (i * te.size, te.size)) ti.zero parts).map .agg
      | none => none
    | _ => none
  | none => none

/-- A row's elements out of its cells. -/
def whole (agg : Bool) (cs : List DV) : DV := if agg then .agg cs else cs.headD .any
def rowOf (agg : Bool) (n : Nat) : Nat → List DV → List DV
  | 0, _ => []
  | k + 1, cs => whole agg (cs.take n) :: rowOf agg n k (cs.drop n)
def zeros (k : Nat) (z : List DV) : List DV := (List.replicate k z).flatten

/-! Memory. -/
def agD : Td → Bool
  | .st _ => true
  | .arr _ _ => true
  | _ => false
/-- Part of an element, as a value of a type. -/
def loadIn (ti : Ti) (n : Nat) (e : DV) (off : Nat) : Option DV :=
  if off = 0 ∧ ti.size = n ∧ n ≠ 0 then
    if agD ti.d then (match e with | .agg cs => some (.agg cs) | _ => none)
    else (match e with | .agg (c :: _) => some c | .agg [] => none | .unk => none | .tup _ => none | e => some e)
  else if off + ti.size ≤ e.cells.length ∧ ti.size ≠ 0 then
    if agD ti.d then some (.agg ((e.cells.drop off).take ti.size)) else e.cells[off]?
  else none

def loadOp (C : Cfg) (h : Heap) (t : Nat) (a : DV) : Option DV :=
  match C.T t with
  | none => none
  | some ti =>
    match a with
    | .ptr b n i off =>
      match hget h b with
      | some (.box cs) => if i = 0 ∧ n = cs.length ∧ off + ti.size ≤ n ∧ ti.size ≠ 0 then
          (if agD ti.d then some (.agg ((cs.drop off).take ti.size)) else cs[off]?) else none
      | some (.row m es) =>
        if n = m then
          match es[i]? with
          | some e => loadIn ti n e off
          | none => none
        else none
      | _ => none
    | .eptr n es i off =>
      match es[i]? with
      | some e => loadIn ti n e off
      | none => none
    | .gptr g off =>
      match C.glob g with
      | some cs => if off + ti.size ≤ cs.length ∧ ti.size ≠ 0 then
          (if agD ti.d then some (.agg ((cs.drop off).take ti.size)) else cs[off]?) else none
      | none => none
    | _ => none

structure Out where
  v : DV
  δ : List (Nat × Option Blk) := []
  φ : List Nat := []
  deriving Inhabited

def storeOp (C : Cfg) (h : Heap) (t : Nat) (a v : DV) : Option Out :=
  match C.T t with
  | none => none
  | some ti =>
    if v.cells.length ≠ ti.size ∨ ti.size = 0 then none else
    match a with
    | .ptr b n i off =>
      match hget h b with
      | some (.box cs) => if i = 0 ∧ n = cs.length ∧ off + ti.size ≤ n then some { v := .tup [], δ := [(b, some (.box (over cs off v.cells)))] } else none
      | some (.row m es) =>
        if n = m ∧ v.pure then
          match es[i]? with
          | some e =>
            if off = 0 ∧ ti.size = n then some { v := .tup [], δ := [(b, some (.row m (es.set i v)))] }
            else match e with
              | .agg cs => if off + ti.size ≤ n then some { v := .tup [], δ := [(b, some (.row m (es.set i (.agg (over cs off v.cells)))))] } else none
              | _ => none
          | none => none
        else none
      | _ => none
    | _ => none

/-- What a slice or a text has, as pure elements of n cells. -/
def elems (h : Heap) (n : Nat) (x : DV) : Option (List DV) :=
  match x with
  | .nilsl => some []
  | .psl m es => if m = n ∨ es = [] then some es else none
  | .rsl b m off len =>
    match hget h b with
    | some (.row m' es) => if m = n ∧ m' = n ∧ off + len ≤ es.length then some ((es.drop off).take len) else none
    | _ => none
  | .str s => if n = 1 then some (s.map fun c => .int .u8 c.toNat) else none
  | _ => none

def roomy (bytes k : Nat) : Bool := decide (k ≤ 2 ^ 32) && decide (bytes * k ≤ 2 ^ 32)

def appendOp (C : Cfg) (h : Heap) (dst : Nat) (t : Nat) (s x : DV) : Option Out :=
  match C.T t with
  | some ti =>
    match ti.d with
    | .sl e =>
      match C.T e with
      | some te =>
        if te.size = 0 ∨ te.zero.length ≠ te.size then none else
        match elems h te.size x with
        | none => none
        | some xs =>
          match s with
          | .nilsl =>
            match xs with
            | [] => some { v := .nilsl }
            | _ => if roomy te.bytes xs.length then some { v := .rsl dst te.size 0 xs.length, δ := [(dst, some (.row te.size xs))], φ := [dst] } else none
          | .rsl b n off len =>
            match hget h b with
            | some (.row m es) =>
              if n = te.size ∧ m = n ∧ off + len ≤ es.length ∧ roomy te.bytes (len + xs.length) then
                some { v := .rsl dst n 0 (len + xs.length), δ := [(b, none), (dst, some (.row n ((es.drop off).take len ++ xs)))], φ := [b, dst] }
              else none
            | _ => none
          | _ => none
      | none => none
    | _ => none
  | none => none

def copyOp (C : Cfg) (h : Heap) (t : Nat) (d s : DV) : Option Out :=
  match C.T t with
  | some ti =>
    match ti.d with
    | .sl e =>
      match C.T e with
      | some te =>
        if te.size = 0 then none else
        match elems h te.size s with
        | none => none
        | some xs =>
          match d with
          | .nilsl => some { v := .int .i64 0 }
          | .rsl b n off len =>
            match hget h b with
            | some (.row m es) =>
              if n = te.size ∧ m = n ∧ off + len ≤ es.length then
                let ys := xs.take len
                some { v := .int .i64 ys.length, δ := [(b, some (.row n (es.take off ++ ys ++ es.drop (off + ys.length))))] }
              else none
            | _ => none
          | _ => none
      | none => none
    | _ => none
  | none => none

def lenOp (T : Nat → Option Ti) (t : Nat) (x : DV) : Option DV :=
  match T t with
  | none => none
  | some ti =>
    match ti.d, x with
    | .str, .str s => some (.int .i64 s.length)
    | .sl _, .nilsl => some (.int .i64 0)
    | .sl _, .psl _ es => some (.int .i64 es.length)
    | .sl _, .rsl _ _ _ len => some (.int .i64 len)
    | .map _ _, .nilmap => some (.int .i64 0)
    | _, _ => none

def mm2 (mx : Bool) : DV → DV → Option DV
  | .int k x, .int _ y => some (.int k (if mx then (if y > x then y else x) else (if y < x then y else x)))
  | _, _ => none
def mmL (mx : Bool) : DV → List DV → Option DV
  | x, [] => some x
  | x, y :: l => match mm2 mx x y with | some z => mmL mx z l | none => none

def bytesOf : List DV → Option (List UInt8)
  | [] => some []
  | .int .u8 n :: l => match bytesOf l with
    | some r => some (UInt8.ofNat n.toNat :: r)
    | none => none
  | _ => none

def convertOp (C : Cfg) (h : Heap) (dst : Nat) (a b : Nat) (x : DV) : Option Out :=
  match C.T a, C.T b with
  | some ta, some tb =>
    match ta.d, tb.d, x with
    | _, .int k, .int _ n => some { v := .int k (k.wrap n) }
    | _, .str, .int _ n => some { v := .str (Utf8.encode n).data.toList }
    | _, .str, .str s => some { v := .str s }
    | _, .sl e, .str s =>
      match C.T e with
      | some te => match te.d with
        | .int .u8 => if te.size = 1 ∧ roomy 1 s.length then some { v := .rsl dst 1 0 s.length, δ := [(dst, some (.row 1 (s.map fun c => .int .u8 c.toNat)))], φ := [dst] } else none
        | _ => none
      | none => none
    | .sl e, .str, x =>
      match C.T e with
      | some te => match te.d with
        | .int .u8 => if te.size = 1 then (match (elems h 1 x).bind bytesOf with
          | some s => some { v := .str s }
          | none => none) else none
        | _ => none
      | none => none
    | _, _, _ => none
  | _, _ => none


/-! Operations that are no calls. -/
def nilPair : DV → DV → Bool
  | .niliface, .niliface => true
  | _, _ => false
def isC : Operand → Bool
  | .const _ => true
  | _ => false
def parts (t : List DV) (ps : Array (Nat × Operand)) : List (Nat × DV) := ps.toList.map fun p => (p.1, opnd t p.2)
def sliceLit (C : Cfg) (own : Bool) (dst : Nat) (t len : Nat) (ps : List (Nat × DV)) : Option Out :=
  match C.T t with
  | some ti =>
    match ti.d with
    | .sl e =>
      match C.T e, isAggT C.T e with
      | some te, some ag =>
        if te.size = 0 ∨ 2 ^ 20 < len * te.size ∨ (ag = false ∧ te.size ≠ 1) ∨ te.zero.length ≠ te.size then none else
        match fill (fun i => some (i * te.size, te.size)) (zeros len te.zero) ps with
        | some cs =>
          let es := rowOf ag te.size len cs
          if pureL es then
            if own then some { v := .rsl dst te.size 0 len, δ := [(dst, some (.row te.size es))], φ := [dst] }
            else some { v := .psl te.size es }
          else none
        | none => none
      | _, _ => none
    | _ => none
  | none => none

def makeSliceOp (C : Cfg) (dst : Nat) (t : Nat) (l c : DV) : Option Out :=
  match C.T t, asNat l, asNat c with
  | some ti, some l, some c =>
    match ti.d with
    | .sl e =>
      match C.T e, isAggT C.T e with
      | some te, some ag =>
        if te.size = 0 ∨ c < l ∨ roomy te.bytes c = false ∨ 2 ^ 32 < c ∨ (ag = false ∧ te.size ≠ 1) ∨ te.zero.length ≠ te.size then none else
        some { v := .rsl dst te.size 0 l, δ := [(dst, some (.row te.size (List.replicate c (whole ag te.zero))))], φ := [dst] }
      | _, _ => none
    | _ => none
  | _, _, _ => none

def pv (v : Option DV) : Option Out := v.map fun v => { v := v }

def act (C : Cfg) (f : Nat) (t : List DV) (h : Heap) (dst : Option Nat) (op : Op) : Option Out :=
  match op with
  | .move x => some { v := opnd t x }
  | .assign x => some { v := opnd t x }
  | .pick c a b => match opnd t c with | .bool b' => some { v := if b' then opnd t a else opnd t b } | _ => none
  | .alloc e => match C.T e, dst with
    | some te, some d => if te.zero.length = te.size ∧ te.size ≠ 0 then some { v := .ptr d te.size 0 0, δ := [(d, some (.box te.zero))], φ := [d] } else none
    | _, _ => none
  | .box e x => match C.T e, dst with
    | some te, some d => if (opnd t x).cells.length = te.size ∧ te.size ≠ 0 then some { v := .ptr d te.size 0 0, δ := [(d, some (.box (forgetL [d] (opnd t x).cells)))], φ := [d] } else none
    | _, _ => none
  | .build ty ps => pv (buildOp C.T ty (parts t ps))
  | .buildSlice ty len ps => match dst with | some d => sliceLit C (C.keep f d) d ty len (parts t ps) | none => none
  | .load ty a => pv (loadOp C h ty (opnd t a))
  | .store ty a v => storeOp C h ty (opnd t a) (opnd t v)
  | .nilCheck x => match opnd t x with
    | .ptr b n i off => some { v := .ptr b n i off }
    | .eptr n es i off => some { v := .eptr n es i off }
    | _ => none
  | .binOp op ty x y _ => if nilPair (opnd t x) (opnd t y) && !(isC x || isC y) then none else pv (binOp C.T op ty (opnd t x) (opnd t y))
  | .unOp op _ x => pv (unOp op (opnd t x))
  | .convert a b x => match dst with | some d => convertOp C h d a b (opnd t x) | none => none
  | .makeInterface ty x => match C.T ty with
    | some ti => match ti.d with | .ifc => none | _ => some { v := .iface ty (opnd t x) }
    | none => none
  | .makeFunc fn first cap => some { v := .fn fn (first.toList.map (opnd t)) (cap.toList.map (opnd t)) }
  | .makeSlice ty l c => match dst with | some d => makeSliceOp C d ty (opnd t l) (opnd t c) | none => none
  | .slice ty x lo hi mx => match mx with | none => pv (sliceOp C.T ty (opnd t x) (lo.map (opnd t)) (hi.map (opnd t))) | some _ => none
  | .fieldAddr ty x fi => pv (fieldAddrOp C.T ty (opnd t x) fi)
  | .field ty x fi => pv (fieldOp C.T ty (opnd t x) fi)
  | .indexAddr ty x i => pv (indexAddrOp C.T ty (opnd t x) (opnd t i))
  | .index ty x i => pv (indexOp C.T ty (opnd t x) (opnd t i))
  | .range ty x => match C.T ty, dst with
    | some ti, some d => match ti.d, opnd t x with
      | .str, .str s => some { v := .ptr d 0 0 0, δ := [(d, some (.iter s 0))], φ := [d] }
      | _, _ => none
    | _, _ => none
  | .next it true => match opnd t it with
    | .ptr b 0 0 0 => match hget h b with
      | some (.iter s pos) =>
        if pos < s.length then

          some { v := .tup [.bool true, .int .i64 pos, .int .i32 (Utf8.decode ⟨s.toArray⟩ pos).1], δ := [(b, some (.iter s (pos + (Utf8.decode ⟨s.toArray⟩ pos).2)))] }
        else some { v := .tup [.bool false] }
      | _ => none
    | _ => none
  | .extract x ix => match opnd t x with | .tup vs => pv vs[ix]? | _ => none
  | .call { callee := .builtin b, args := as1, argTypes := ts } =>
    match b, as1.toList, ts.toList with
    | .append, [s, x], [ty, tx] => match dst, C.T tx with | some d, some ux => (match ux.d with | .sl _ => appendOp C h d ty (opnd t s) (opnd t x) | .str => appendOp C h d ty (opnd t s) (opnd t x) | _ => none) | _, _ => none
    | .copy, [a, b], ty :: _ => copyOp C h ty (opnd t a) (opnd t b)
    | .len, [x], ty :: _ => pv (lenOp C.T ty (opnd t x))
    | .max, x :: l, _ => pv (mmL true (opnd t x) (l.map (opnd t)))
    | .min, x :: l, _ => pv (mmL false (opnd t x) (l.map (opnd t)))
    | _, _, _ => none
  | _ => none

/-! Calls: what goes in, what comes back. -/
structure Imp where
  exts : List Nat := []
  views : List Nat := []

def Imp.ext (s : Imp) (b : Nat) : Nat × Imp :=
  match s.exts.findIdx? (· == b) with
  | some j => (j, s)
  | none => (s.exts.length, { s with exts := s.exts ++ [b] })

/-- A row seen as sealed memory. -/
def viewRow (h : Heap) (b n off len : Nat) : Option DV :=
  match hget h b with
  | some (.row m es) => if m = n ∧ off + len ≤ es.length then some (.psl n ((es.drop off).take len)) else none
  | _ => none

mutual
def imp (h : Heap) (base : Nat) : DV → Imp → Option (DV × Imp)
  | .ptr b n i off, s => if i = 0 ∧ off = 0 then some (.ptr (base + (s.ext b).1) n 0 0, (s.ext b).2) else none
  | .map b, s => some (.map (base + (s.ext b).1), (s.ext b).2)
  | .rsl b n off len, s => (viewRow h b n off len).map fun v => (v, { s with views := b :: s.views })
  | .fn f a c, s => match impL h base a s with
    | some (a', s1) => (impL h base c s1).map fun (c', s2) => (.fn f a' c', s2)
    | none => none
  | .iface t v, s => (imp h base v s).map fun (v', s1) => (.iface t v', s1)
  | .agg cs, s => (impL h base cs s).map fun (cs', s1) => (.agg cs', s1)
  | .tup vs, s => (impL h base vs s).map fun (vs', s1) => (.tup vs', s1)
  | .any, _ => none
  | .unk, _ => none
  | v, s => some (v, s)
def impL (h : Heap) (base : Nat) : List DV → Imp → Option (List DV × Imp)
  | [], s => some ([], s)
  | v :: l, s => match imp h base v s with
    | some (v', s1) => (impL h base l s1).map fun (l', s2) => (v' :: l', s2)
    | none => none
end

mutual
/-- Sealed: rows become lists; no references are left. -/
def sealV (h : Heap) : DV → Option DV
  | .rsl b n off len => viewRow h b n off len
  | .ptr .. => none
  | .map _ => none
  | .any => none
  | .unk => none
  | .fn f a c => match sealL h a, sealL h c with
    | some a', some c' => some (.fn f a' c')
    | _, _ => none
  | .iface t v => (sealV h v).map fun v' => .iface t v'
  | .agg cs => (sealL h cs).map .agg
  | .tup vs => (sealL h vs).map .tup
  | v => some v
def sealL (h : Heap) : List DV → Option (List DV)
  | [] => some []
  | v :: l => match sealV h v, sealL h l with
    | some v', some l' => some (v' :: l')
    | _, _ => none
end
def sealB (h : Heap) : Blk → Option Blk
  | .box cs => (sealL h cs).map .box
  | b => some b
def sealBs (h : Heap) : List (Option Blk) → Option (List Blk)
  | [] => some []
  | some b :: l => match sealB h b, sealBs h l with
    | some b', some l' => some (b' :: l')
    | _, _ => none
  | none :: _ => none

mutual
def DV.noPsl : DV → Bool
  | .psl _ _ => false
  | .eptr _ _ _ _ => false
  | .fn _ a c => noPslL a && noPslL c
  | .iface _ v => v.noPsl
  | .agg cs => noPslL cs
  | .tup vs => noPslL vs
  | _ => true
def noPslL : List DV → Bool
  | [] => true
  | v :: l => v.noPsl && noPslL l
end

/-- The blocks that are handed over, sealed; the rows that they show. -/
def outB (h : Heap) : List Nat → Option (List Blk × List Nat)
  | [] => some ([], [])
  | b :: l =>
    match hget h b with
    | some (.box cs) => match sealL h cs, outB h l with
      | some cs', some (r, vs) => some (.box cs' :: r, mentsL cs ++ vs)
      | _, _ => none
    | _ => none

abbrev CallF := Nat → List DV → List Blk → Option (DV × List Blk)

def backs : List Nat → List Blk → List (Nat × Option Blk)
  | b :: l, x :: r => (b, some x) :: backs l r
  | _, _ => []

def baseOf (C : Cfg) (g : Nat) : Nat := match C.F g with | some fi => fi.nt | none => 0

def callOp (C : Cfg) (call : CallF) (h : Heap) (dst : Option Nat) (g : Nat) (args : List DV) : Option Out :=
  match impL h (baseOf C g) args {} with
  | none => none
  | some (args', s) =>
    match outB h s.exts with
    | none => none
    | some (ex, vs) =>
      match call g args' ex with
      | none => none
      | some (r, ex') =>
        if ex'.length ≠ s.exts.length then none else
        if C.scal g then
          if r.noPsl ∧ s.exts = [] then some { v := r } else none
        else
          let δ := (s.views ++ vs).map (fun b => (b, none)) ++ backs s.exts ex'
          if C.own g then
            if s.exts ≠ [] then none else
            match r, dst with
            | .psl n [], _ => some { v := .psl n [], δ := δ, φ := s.views ++ vs }
            | .psl n es, some d => some { v := .rsl d n 0 es.length, δ := δ ++ [(d, some (.row n es))], φ := d :: (s.views ++ vs) }
            | .nilsl, _ => some { v := .nilsl, δ := δ, φ := s.views ++ vs }
            | _, _ => none
          else some { v := r, δ := δ, φ := s.views ++ vs }

def calleeOf : DV → Option (Nat × List DV × List DV)
  | .fn (.func g) first cap => some (g, first, cap)
  | _ => none

def operOut (C : Cfg) (call : CallF) (f : Nat) (t : List DV) (h : Heap) (o : Oper) : Option Out :=
  match o.op with
  | .call { callee := .value x, args := as1, .. } =>
    match calleeOf (opnd t x) with
    | some (g, first, cap) => callOp C call h o.dst g (first ++ as1.toList.map (opnd t) ++ cap)
    | none => none
  | op => act C f t h o.dst op

def setAll : Heap → List (Nat × Option Blk) → Heap
  | h, [] => h
  | h, (b, x) :: l => setAll (h.set b x) l

def apply (st : St) (dst : Option Nat) (o : Out) : St :=
  match o.φ with
  | [] => { t := (match dst with | some d => st.t.set d o.v | none => st.t), h := setAll st.h o.δ }
  | φ => { t := (match dst with | some d => (forgetL φ st.t).set d o.v | none => forgetL φ st.t),
           h := setAll (st.h.map fun b => b.map (Blk.forget φ)) o.δ }

/-- Is the operation wanted? none: it can't be told. -/
def wants (ops : List Oper) (t : List DV) (o : Oper) : Option Bool :=
  match o.guard with
  | none => some true
  | some (j, want) =>
    match (ops[j]?).bind (·.dst) with
    | some d => match sget t d with
      | .bool b => some (b == want)
      | .tup [] => some false
      | _ => none
    | none => none

def stepOp (C : Cfg) (call : CallF) (f : Nat) (ops : List Oper) (st : St) (o : Oper) : Option St :=
  match wants ops st.t o with
  | some true => (operOut C call f st.t st.h o).map fun out => apply st o.dst out
  | some false => some (apply st o.dst { v := .tup [] })
  | none => none

def runOps (C : Cfg) (call : CallF) (f : Nat) (ops : List Oper) : List Oper → St → Option St
  | [], st => some st
  | o :: l, st => match stepOp C call f ops st o with
    | some st' => runOps C call f ops l st'
    | none => none

/-- What isn't live is forgotten. -/
def tidyT (live : List Nat) : Nat → List DV → List DV
  | _, [] => []
  | i, v :: l => (if live.contains i then v else .unk) :: tidyT live (i + 1) l
def boxMents : Option Blk → List Nat
  | some (.box cs) => mentsL cs
  | _ => []
def reach (h : Heap) : Nat → List Nat → List Nat
  | 0, l => l
  | n + 1, l => reach h n (l ++ l.flatMap fun b => boxMents (hget h b))
def tidyH (keep : List Nat) (base : Nat) : Nat → Heap → Heap
  | _, [] => []
  | i, b :: l => (if base ≤ i ∨ keep.contains i then b else none) :: tidyH keep base (i + 1) l
def tidy (nt : Nat) (live : List Nat) (st : St) : St :=
  let t := tidyT live 0 st.t
  { t := t, h := tidyH (reach st.h 2 (mentsL t)) nt 0 st.h }
def tidied (C : Cfg) (f nt id : Nat) (st : St) : St :=
  match C.live f id with
  | some live => tidy nt live st
  | none => st

def loopN (C : Cfg) (f nt bid : Nat) (body : St → Option (Ex × St)) : Nat → St → Option (Ex × St)
  | 0, _ => none
  | k + 1, st =>
    match body (tidied C f nt bid st) with
    | some (.normal, st') => loopN C f nt bid body k st'
    | r => r

/-- A scope: from its begin, or from a label on. -/
def scopeN (C : Cfg) (f nt : Nat) (body : Option Nat → St → Option (Ex × St)) (has : Nat → Bool) : Nat → Option Nat → St → Option (Ex × St)
  | 0, _, _ => none
  | k + 1, l, st =>
    match body l (match l with | some l => tidied C f nt (1000 + l) st | none => st) with
    | some (.goto l', st') => if has l' then scopeN C f nt body has k (some l') st' else some (.goto l', st')
    | r => r

mutual
def exec (C : Cfg) (call : CallF) (f nt k : Nat) : Code → Nat → St → Option (Ex × St)
  | .skip, _, st => some (.normal, st)
  | .label _, _, st => some (.normal, st)
  | .region _ ops draw, _, st =>
    match runOps C call f ops.toList ops.toList st with
    | some st' => some (.normal, st')
    | none => none
  | .seq a b, bid, st =>
    match exec C call f nt k a bid st with
    | some (.normal, st') => exec C call f nt k b bid st'
    | r => r
  | .cond c a b, bid, st =>
    match opnd st.t c with
    | .bool true => exec C call f nt k a bid st
    | .bool false => exec C call f nt k b bid st
    | _ => none
  | .block id c, _, st =>
    match exec C call f nt k c id st with
    | some (.exit id', st') => if id' = id then some (.normal, st') else some (.exit id', st')
    | r => r
  | .loop c, bid, st => loopN C f nt bid (fun st => exec C call f nt k c bid st) k st
  | .exit id, _, st => some (.exit id, st)
  | .goto l, _, st => some (.goto l, st)
  | .ret, _, st => some (.ret, st)
  | .scope c, bid, st =>
    scopeN C f nt (fun l st => match l with
      | none => exec C call f nt k c bid st
      | some l => execFrom C call f nt k l c bid st) (fun l => (findLabel c l).isSome) k none st
  | .rangeFunc .., _, _ => none
  | .refuse _, _, _ => none
/-- From a label on. -/
def execFrom (C : Cfg) (call : CallF) (f nt k : Nat) (l : Nat) : Code → Nat → St → Option (Ex × St)
  | .seq a b, bid, st =>
    if (findLabel a l).isSome then
      match execFrom C call f nt k l a bid st with
      | some (.normal, st') => exec C call f nt k b bid st'
      | r => r
    else execFrom C call f nt k l b bid st
  | .label _, _, st => some (.normal, st)
  | _, _, _ => none
end

def resOf (C : Cfg) (st : St) : ResultVar → Option DV
  | .tmp i => some (sget st.t i)
  | .cell a t => loadOp C st.h t (sget st.t a)
def resL (C : Cfg) (st : St) : List ResultVar → Option (List DV)
  | [] => some []
  | r :: l => match resOf C st r, resL C st l with
    | some v, some vs => some (v :: vs)
    | _, _ => none
def one : List DV → DV
  | [v] => v
  | vs => .tup vs

def callD (C : Cfg) : Nat → CallF
  | 0, _, _, _ => none
  | k + 1, g, args, ex =>
    match C.prim g with
    | some p => match ex with
      | [] => (p args).map fun v => (v, [])
      | _ => none
    | none =>
      match C.F g with
      | none => none
      | some fi =>
        match exec C (callD C k) g fi.nt k fi.code 0 { t := args ++ List.replicate (fi.nt - args.length) (.tup []), h := List.replicate fi.nt none ++ ex.map some } with
        | some (.normal, st) | some (.ret, st) =>
          match resL C st fi.res with
          | some vs => match sealL st.h vs, sealBs st.h (st.h.drop fi.nt) with
            | some vs', some ex' => some (one vs', ex')
            | _, _ => none
          | none => none
        | _ => none

end Go.Det
end

section
set_option linter.unusedVariables false
set_option linter.unusedSimpArgs false
namespace Go.Det

/-! What the values stand for. -/
structure Loc where
  blk : Nat
  base : Nat
  size : Nat
abbrev Rho := Nat → Option Loc
/-- Sealed memory: cells that stay as they are; and objects that are no cells, and stay. -/
structure Ro where
  c : Nat → Option (Array Value)
  o : Nat → Option Obj
instance : CoeFun Ro (fun _ => Nat → Option (Array Value)) := ⟨Ro.c⟩
def Ro.none : Ro := ⟨fun _ => .none, fun _ => .none⟩
def isCellsO : Obj → Bool
  | .cells .. => true
  | .stringIter .. => true
  | _ => false
def SubO (m m' : Ro) : Prop := ∀ r x, m.o r = some x → m'.o r = some x

mutual
def VR (ρ : Rho) (m : Ro) : DV → Value → Prop
  | .any, v => v.oneCell' = true
  | .unk, _ => True
  | .bool b, v => v = .bool b
  | .int k n, v => v = .int k n
  | .str s, v => v = .string ⟨s.toArray⟩
  | .nilptr, v => v = .pointer none
  | .ptr b n i off, v => ∃ p, ρ b = some p ∧ v = .pointer (some ⟨p.blk, p.base + i * n + off, none⟩)
  | .eptr n es i off, v => ∃ r base c, m r = some c ∧ mentsL es = [] ∧ VRE ρ m n es c base ∧ i < es.length ∧ v = .pointer (some ⟨r, base + i * n + off, none⟩)
  | .gptr g off, v => v = .pointer (some ⟨g, off, none⟩)
  | .nilsl, v => v = .slice none 0 0
  | .rsl b n off len, v => ∃ p cap, ρ b = some p ∧ len ≤ cap ∧ p.base + (off + cap) * n ≤ p.size ∧ v = .slice (some ⟨p.blk, p.base + off * n, none⟩) len cap
  | .psl n es, v => ∃ a cap, es.length ≤ cap ∧ v = .slice a es.length cap ∧ mentsL es = [] ∧
      (es = [] ∨ ∃ r base c, m r = some c ∧ a = some ⟨r, base, none⟩ ∧ VRE ρ m n es c base)
  | .fn f a c, v => ∃ a' c', v = .func f a' c' ∧ VRL ρ m a a'.toList ∧ VRL ρ m c c'.toList
  | .nilfn, v => v = .nilFunc
  | .iface t x, v => ∃ x', v = .iface t x' ∧ VR ρ m x x'
  | .niliface, v => v = .nilIface
  | .map b, v => ∃ p, ρ b = some p ∧ v = .map (some p.blk)
  | .nilmap, v => v = .map none
  | .agg cs, v => ∃ vs, v = .agg vs ∧ VRL ρ m cs vs.toList ∧ ∀ u ∈ vs.toList, u.oneCell' = true
  | .tup cs, v => ∃ vs, v = .tuple vs ∧ VRL ρ m cs vs.toList
/-- Value by value. -/
def VRL (ρ : Rho) (m : Ro) : List DV → List Value → Prop
  | [], vs => vs = []
  | x :: l, vs => ∃ v r, vs = v :: r ∧ VR ρ m x v ∧ VRL ρ m l r
/-- Elements in cells, n each. -/
def VRE (ρ : Rho) (m : Ro) (n : Nat) : List DV → Array Value → Nat → Prop
  | [], _, _ => True
  | x :: l, c, o => (∃ v, VR ρ m x v ∧ v.cells.size = n ∧ (∀ u ∈ v.cells.toList, u.oneCell' = true) ∧ (∀ j u, v.cells[j]? = some u → c[o + j]? = some u)) ∧ VRE ρ m n l c (o + n)
end

def Sub (m m' : Ro) : Prop := ∀ r c, m r = some c → m' r = some c
theorem Sub.refl (m : Ro) : Sub m m := fun _ _ h => h
def Blk.isRow : Blk → Bool
  | .row _ _ => true
  | _ => false
theorem Blk.isRow_forget (φ : List Nat) (b : Blk) : (b.forget φ).isRow = b.isRow := by cases b <;> rfl
/-- Sealed memory grows, but among new blocks alone. -/
structure Grows (N : Nat) (m m' : Ro) : Prop where
  sub : Sub m m'
  old : ∀ r, r < N → m' r = m r
  oth : SubO m m'
theorem Grows.refl (N : Nat) (m : Ro) : Grows N m m := ⟨Sub.refl m, fun _ _ => rfl, fun _ _ h => h⟩
theorem Sub.trans {a b c : Ro} (h : Sub a b) (k : Sub b c) : Sub a c := fun r x hx => k r x (h r x hx)

mutual
theorem VR.mono {ρ : Rho} {m m' : Ro} (hm : Sub m m') : ∀ (x : DV) {v : Value}, VR ρ m x v → VR ρ m' x v
  | .any, _, h => h
  | .unk, _, h => h
  | .bool _, _, h => h
  | .int _ _, _, h => h
  | .str _, _, h => h
  | .nilptr, _, h => h
  | .ptr _ _ _ _, _, h => h
  | .eptr n es i off, _, h => by
    simp only [VR] at h ⊢
    obtain ⟨r, base, c, h1, h2, h3, h4, h5⟩ := h
    exact ⟨r, base, c, hm _ _ h1, h2, VRE.mono hm es h3, h4, h5⟩
  | .gptr _ _, _, h => h
  | .nilsl, _, h => h
  | .rsl _ _ _ _, _, h => h
  | .psl n es, _, h => by
    simp only [VR] at h ⊢
    obtain ⟨a, cap, h1, h2, h3, h4⟩ := h
    refine ⟨a, cap, h1, h2, h3, ?_⟩
    rcases h4 with h4 | ⟨r, base, c, h4, h5, h6⟩
    · exact .inl h4
    · exact .inr ⟨r, base, c, hm _ _ h4, h5, VRE.mono hm es h6⟩
  | .fn f a c, _, h => by
    simp only [VR] at h ⊢
    obtain ⟨a', c', h1, h2, h3⟩ := h
    exact ⟨a', c', h1, VRL.mono hm a h2, VRL.mono hm c h3⟩
  | .nilfn, _, h => h
  | .iface t x, _, h => by
    simp only [VR] at h ⊢
    obtain ⟨x', h1, h2⟩ := h
    exact ⟨x', h1, VR.mono hm x h2⟩
  | .niliface, _, h => h
  | .map _, _, h => h
  | .nilmap, _, h => h
  | .agg cs, _, h => by
    simp only [VR] at h ⊢
    obtain ⟨vs, h1, h2, h3⟩ := h
    exact ⟨vs, h1, VRL.mono hm cs h2, h3⟩
  | .tup cs, _, h => by
    simp only [VR] at h ⊢
    obtain ⟨vs, h1, h2⟩ := h
    exact ⟨vs, h1, VRL.mono hm cs h2⟩
theorem VRL.mono {ρ : Rho} {m m' : Ro} (hm : Sub m m') : ∀ (l : List DV) {vs : List Value}, VRL ρ m l vs → VRL ρ m' l vs
  | [], _, h => h
  | x :: l, _, h => by
    simp only [VRL] at h ⊢
    obtain ⟨v, r, h1, h2, h3⟩ := h
    exact ⟨v, r, h1, VR.mono hm x h2, VRL.mono hm l h3⟩
theorem VRE.mono {ρ : Rho} {m m' : Ro} (hm : Sub m m') {n : Nat} : ∀ (l : List DV) {c : Array Value} {o : Nat}, VRE ρ m n l c o → VRE ρ m' n l c o
  | [], _, _, h => h
  | x :: l, _, _, h => by
    simp only [VRE] at h ⊢
    obtain ⟨⟨v, h1, h2⟩, h3⟩ := h
    exact ⟨⟨v, VR.mono hm x h1, h2⟩, VRE.mono hm l h3⟩
end

mutual
theorem VR.rho {ρ ρ' : Rho} {m : Ro} : ∀ (x : DV) {v : Value}, (∀ b ∈ x.ments, ρ b = ρ' b) → VR ρ m x v → VR ρ' m x v
  | .any, _, _, h => h
  | .unk, _, _, h => h
  | .bool _, _, _, h => h
  | .int _ _, _, _, h => h
  | .str _, _, _, h => h
  | .nilptr, _, _, h => h
  | .ptr b n i off, _, hr, h => by
    simp only [VR] at h ⊢
    rw [← hr b (by simp [DV.ments])]; exact h
  | .eptr n es i off, _, hr, h => by
    simp only [VR] at h ⊢
    obtain ⟨r, base, c, h1, h2, h3, h4, h5⟩ := h
    exact ⟨r, base, c, h1, h2, VRE.rho es (by rw [h2]; simp) h3, h4, h5⟩
  | .gptr _ _, _, _, h => h
  | .nilsl, _, _, h => h
  | .rsl b n off len, _, hr, h => by
    simp only [VR] at h ⊢
    rw [← hr b (by simp [DV.ments])]; exact h
  | .psl n es, _, hr, h => by
    simp only [VR] at h ⊢
    obtain ⟨a, cap, h1, h2, h3, h4⟩ := h
    refine ⟨a, cap, h1, h2, h3, ?_⟩
    rcases h4 with h4 | ⟨r, base, c, h4, h5, h6⟩
    · exact .inl h4
    · exact .inr ⟨r, base, c, h4, h5, VRE.rho es (by rw [h3]; simp) h6⟩
  | .fn f a c, _, hr, h => by
    simp only [VR] at h ⊢
    obtain ⟨a', c', h1, h2, h3⟩ := h
    exact ⟨a', c', h1, VRL.rho a (fun b hb => hr b (by simp [DV.ments, hb])) h2, VRL.rho c (fun b hb => hr b (by simp [DV.ments, hb])) h3⟩
  | .nilfn, _, _, h => h
  | .iface t x, _, hr, h => by
    simp only [VR] at h ⊢
    obtain ⟨x', h1, h2⟩ := h
    exact ⟨x', h1, VR.rho x (fun b hb => hr b (by simp [DV.ments, hb])) h2⟩
  | .niliface, _, _, h => h
  | .map b, _, hr, h => by
    simp only [VR] at h ⊢
    rw [← hr b (by simp [DV.ments])]; exact h
  | .nilmap, _, _, h => h
  | .agg cs, _, hr, h => by
    simp only [VR] at h ⊢
    obtain ⟨vs, h1, h2, h3⟩ := h
    exact ⟨vs, h1, VRL.rho cs (fun b hb => hr b (by simp [DV.ments, hb])) h2, h3⟩
  | .tup cs, _, hr, h => by
    simp only [VR] at h ⊢
    obtain ⟨vs, h1, h2⟩ := h
    exact ⟨vs, h1, VRL.rho cs (fun b hb => hr b (by simp [DV.ments, hb])) h2⟩
theorem VRL.rho {ρ ρ' : Rho} {m : Ro} : ∀ (l : List DV) {vs : List Value}, (∀ b ∈ mentsL l, ρ b = ρ' b) → VRL ρ m l vs → VRL ρ' m l vs
  | [], _, _, h => h
  | x :: l, _, hr, h => by
    simp only [VRL] at h ⊢
    obtain ⟨v, r, h1, h2, h3⟩ := h
    exact ⟨v, r, h1, VR.rho x (fun b hb => hr b (by simp [mentsL, hb])) h2, VRL.rho l (fun b hb => hr b (by simp [mentsL, hb])) h3⟩
theorem VRE.rho {ρ ρ' : Rho} {m : Ro} {n : Nat} : ∀ (l : List DV) {c : Array Value} {o : Nat}, (∀ b ∈ mentsL l, ρ b = ρ' b) → VRE ρ m n l c o → VRE ρ' m n l c o
  | [], _, _, _, h => h
  | x :: l, _, _, hr, h => by
    simp only [VRE] at h ⊢
    obtain ⟨⟨v, h1, h2⟩, h3⟩ := h
    exact ⟨⟨v, VR.rho x (fun b hb => hr b (by simp [mentsL, hb])) h1, h2⟩, VRE.rho l (fun b hb => hr b (by simp [mentsL, hb])) h3⟩
end

/-- One value in one cell. -/
def DV.scal : DV → Bool
  | .agg _ | .tup _ | .unk => false
  | _ => true
theorem VR.one {ρ : Rho} {m : Ro} {x : DV} {v : Value} (h : VR ρ m x v) (hs : x.scal = true) : v.oneCell' = true := by
  cases x <;> simp only [DV.scal] at hs <;> first | (exact absurd hs (by decide)) | skip
  all_goals simp only [VR] at h
  all_goals first
    | exact h
    | (subst h; rfl)
    | (obtain ⟨_, _, rfl⟩ := h; rfl)
    | (obtain ⟨_, rfl, _⟩ := h; rfl)
    | (obtain ⟨_, _, _, _, _, _, _, rfl⟩ := h; rfl)
    | (obtain ⟨_, _, _, _, _, rfl⟩ := h; rfl)
    | (obtain ⟨_, _, _, rfl, _⟩ := h; rfl)
    | (obtain ⟨_, _, rfl, _⟩ := h; rfl)
theorem oneCells {v : Value} (h : v.oneCell' = true) : v.cells = #[v] := by
  cases v <;> first | rfl | (simp [Value.oneCell'] at h)

mutual
theorem VR.forget {ρ : Rho} {m : Ro} (φ : List Nat) : ∀ (x : DV) {v : Value}, VR ρ m x v → VR ρ m (x.forget φ) v
  | .any, _, h => h
  | .unk, _, h => h
  | .bool _, _, h => h
  | .int _ _, _, h => h
  | .str _, _, h => h
  | .nilptr, _, h => h
  | .ptr b n i off, v, h => by
    simp only [DV.forget]
    split
    · simp only [VR] at h ⊢
      obtain ⟨_, _, rfl⟩ := h; rfl
    · exact h
  | .eptr n es i off, _, h => h
  | .gptr _ _, _, h => h
  | .nilsl, _, h => h
  | .rsl b n off len, _, h => by
    simp only [DV.forget]
    split
    · simp only [VR] at h ⊢
      obtain ⟨_, _, _, _, _, rfl⟩ := h; rfl
    · exact h
  | .psl n es, _, h => h
  | .fn f a c, _, h => by
    simp only [VR, DV.forget] at h ⊢
    obtain ⟨a', c', h1, h2, h3⟩ := h
    exact ⟨a', c', h1, VRL.forget φ a h2, VRL.forget φ c h3⟩
  | .nilfn, _, h => h
  | .iface t x, _, h => by
    simp only [VR, DV.forget] at h ⊢
    obtain ⟨x', h1, h2⟩ := h
    exact ⟨x', h1, VR.forget φ x h2⟩
  | .niliface, _, h => h
  | .map b, _, h => by
    simp only [DV.forget]
    split
    · simp only [VR] at h ⊢
      obtain ⟨_, _, rfl⟩ := h; rfl
    · exact h
  | .nilmap, _, h => h
  | .agg cs, _, h => by
    simp only [VR, DV.forget] at h ⊢
    obtain ⟨vs, h1, h2, h3⟩ := h
    exact ⟨vs, h1, VRL.forget φ cs h2, h3⟩
  | .tup cs, _, h => by
    simp only [VR, DV.forget] at h ⊢
    obtain ⟨vs, h1, h2⟩ := h
    exact ⟨vs, h1, VRL.forget φ cs h2⟩
theorem VRL.forget {ρ : Rho} {m : Ro} (φ : List Nat) : ∀ (l : List DV) {vs : List Value}, VRL ρ m l vs → VRL ρ m (forgetL φ l) vs
  | [], _, h => h
  | x :: l, _, h => by
    simp only [VRL, forgetL] at h ⊢
    obtain ⟨v, r, h1, h2, h3⟩ := h
    exact ⟨v, r, h1, VR.forget φ x h2, VRL.forget φ l h3⟩
end

mutual
theorem ments_forget (φ : List Nat) : ∀ (x : DV) (b : Nat), b ∈ (x.forget φ).ments → b ∈ x.ments ∧ b ∉ φ
  | .any, _, h => by simp [DV.forget, DV.ments] at h
  | .unk, _, h => by simp [DV.forget, DV.ments] at h
  | .bool _, _, h => by simp [DV.forget, DV.ments] at h
  | .int _ _, _, h => by simp [DV.forget, DV.ments] at h
  | .str _, _, h => by simp [DV.forget, DV.ments] at h
  | .nilptr, _, h => by simp [DV.forget, DV.ments] at h
  | .ptr b' n i off, b, h => by
    simp only [DV.forget] at h
    split at h
    · simp [DV.ments] at h
    · rename_i hc
      simp only [DV.ments, List.mem_singleton] at h ⊢
      subst h; exact ⟨rfl, by simpa using hc⟩
  | .eptr n es i off, _, h => by simp [DV.forget, DV.ments] at h
  | .gptr _ _, _, h => by simp [DV.forget, DV.ments] at h
  | .nilsl, _, h => by simp [DV.forget, DV.ments] at h
  | .rsl b' n off len, b, h => by
    simp only [DV.forget] at h
    split at h
    · simp [DV.ments] at h
    · rename_i hc
      simp only [DV.ments, List.mem_singleton] at h ⊢
      subst h; exact ⟨rfl, by simpa using hc⟩
  | .psl n es, _, h => by simp [DV.forget, DV.ments] at h
  | .fn f a c, b, h => by
    simp only [DV.forget, DV.ments, List.mem_append] at h ⊢
    rcases h with h | h
    · exact ⟨.inl (mentsL_forget φ a b h).1, (mentsL_forget φ a b h).2⟩
    · exact ⟨.inr (mentsL_forget φ c b h).1, (mentsL_forget φ c b h).2⟩
  | .nilfn, _, h => by simp [DV.forget, DV.ments] at h
  | .iface t x, b, h => by
    simp only [DV.forget, DV.ments] at h ⊢
    exact ments_forget φ x b h
  | .niliface, _, h => by simp [DV.forget, DV.ments] at h
  | .map b', b, h => by
    simp only [DV.forget] at h
    split at h
    · simp [DV.ments] at h
    · rename_i hc
      simp only [DV.ments, List.mem_singleton] at h ⊢
      subst h; exact ⟨rfl, by simpa using hc⟩
  | .nilmap, _, h => by simp [DV.forget, DV.ments] at h
  | .agg cs, b, h => by
    simp only [DV.forget, DV.ments] at h ⊢
    exact mentsL_forget φ cs b h
  | .tup cs, b, h => by
    simp only [DV.forget, DV.ments] at h ⊢
    exact mentsL_forget φ cs b h
theorem mentsL_forget (φ : List Nat) : ∀ (l : List DV) (b : Nat), b ∈ mentsL (forgetL φ l) → b ∈ mentsL l ∧ b ∉ φ
  | [], _, h => by simp [forgetL, mentsL] at h
  | x :: l, b, h => by
    simp only [forgetL, mentsL, List.mem_append] at h ⊢
    rcases h with h | h
    · exact ⟨.inl (ments_forget φ x b h).1, (ments_forget φ x b h).2⟩
    · exact ⟨.inr (mentsL_forget φ l b h).1, (mentsL_forget φ l b h).2⟩
end

/-- Where the map of blocks has changed at forgotten ones alone. -/
theorem VR.step {ρ ρ' : Rho} {m m' : Ro} (hm : Sub m m') (φ : List Nat) (hr : ∀ b, b ∉ φ → ρ b = ρ' b) (x : DV) {v : Value} (h : VR ρ m x v) : VR ρ' m' (x.forget φ) v :=
  VR.rho _ (fun b hb => hr b (ments_forget φ x b hb).2) (VR.forget φ x (VR.mono hm x h))
theorem VRL.step {ρ ρ' : Rho} {m m' : Ro} (hm : Sub m m') (φ : List Nat) (hr : ∀ b, b ∉ φ → ρ b = ρ' b) (x : List DV) {v : List Value} (h : VRL ρ m x v) : VRL ρ' m' (forgetL φ x) v :=
  VRL.rho _ (fun b hb => hr b (mentsL_forget φ x b hb).2) (VRL.forget φ x (VRL.mono hm x h))
theorem forget_nil_aux : True := trivial

/-! Lists. -/
theorem VRL.length {ρ : Rho} {m : Ro} : ∀ {l : List DV} {vs : List Value}, VRL ρ m l vs → vs.length = l.length
  | [], _, h => by simp only [VRL] at h; simp [h]
  | x :: l, _, h => by
    simp only [VRL] at h
    obtain ⟨v, r, rfl, _, h3⟩ := h
    simp [VRL.length h3]
theorem VRL.get {ρ : Rho} {m : Ro} : ∀ {l : List DV} {vs : List Value}, VRL ρ m l vs → ∀ (i : Nat) (x : DV), l[i]? = some x → ∃ v, vs[i]? = some v ∧ VR ρ m x v
  | [], _, _, i, x, hx => by simp at hx
  | y :: l, _, h, i, x, hx => by
    simp only [VRL] at h
    obtain ⟨v, r, rfl, h2, h3⟩ := h
    cases i with
    | zero => simp at hx; subst hx; exact ⟨v, rfl, h2⟩
    | succ i => simp at hx ⊢; exact VRL.get h3 i x hx
theorem VRL.cons {ρ : Rho} {m : Ro} {x : DV} {v : Value} {l : List DV} {vs : List Value} (h : VR ρ m x v) (k : VRL ρ m l vs) : VRL ρ m (x :: l) (v :: vs) := by
  simp only [VRL]; exact ⟨v, vs, rfl, h, k⟩
theorem VRL.append {ρ : Rho} {m : Ro} : ∀ {l l' : List DV} {vs vs' : List Value}, VRL ρ m l vs → VRL ρ m l' vs' → VRL ρ m (l ++ l') (vs ++ vs')
  | [], l', vs, vs', h, k => by simp only [VRL] at h; subst h; exact k
  | x :: l, l', vs, vs', h, k => by
    simp only [VRL] at h
    obtain ⟨v, r, rfl, h2, h3⟩ := h
    exact VRL.cons h2 (VRL.append h3 k)
theorem VRL.take {ρ : Rho} {m : Ro} : ∀ (n : Nat) {l : List DV} {vs : List Value}, VRL ρ m l vs → VRL ρ m (l.take n) (vs.take n)
  | 0, _, _, _ => by simp [VRL]
  | n + 1, [], _, h => by simp only [VRL] at h; subst h; simp [VRL]
  | n + 1, x :: l, _, h => by
    simp only [VRL] at h
    obtain ⟨v, r, rfl, h2, h3⟩ := h
    exact VRL.cons h2 (VRL.take n h3)
theorem VRL.drop {ρ : Rho} {m : Ro} : ∀ (n : Nat) {l : List DV} {vs : List Value}, VRL ρ m l vs → VRL ρ m (l.drop n) (vs.drop n)
  | 0, _, _, h => h
  | n + 1, [], _, h => by simp only [VRL] at h; subst h; simp [VRL]
  | n + 1, x :: l, _, h => by
    simp only [VRL] at h
    obtain ⟨v, r, rfl, h2, h3⟩ := h
    exact VRL.drop n h3
theorem VRL.set {ρ : Rho} {m : Ro} {x : DV} {v : Value} (hx : VR ρ m x v) : ∀ (i : Nat) {l : List DV} {vs : List Value}, VRL ρ m l vs → VRL ρ m (l.set i x) (vs.set i v)
  | _, [], _, h => by simp only [VRL] at h; subst h; simp [VRL]
  | 0, y :: l, _, h => by
    simp only [VRL] at h
    obtain ⟨w, r, rfl, h2, h3⟩ := h
    exact VRL.cons hx h3
  | i + 1, y :: l, _, h => by
    simp only [VRL] at h
    obtain ⟨w, r, rfl, h2, h3⟩ := h
    exact VRL.cons h2 (VRL.set hx i h3)
theorem VRL.map {ρ : Rho} {m : Ro} {α : Type} (f : α → DV) (g : α → Value) : ∀ (l : List α), (∀ a ∈ l, VR ρ m (f a) (g a)) → VRL ρ m (l.map f) (l.map g)
  | [], _ => by simp [VRL]
  | a :: l, h => VRL.cons (h a (by simp)) (VRL.map f g l fun b hb => h b (by simp [hb]))

/-- A value's cells. -/
theorem VR.cells {ρ : Rho} {m : Ro} {x : DV} {v : Value} (h : VR ρ m x v) (hn : x.cells ≠ []) : VRL ρ m x.cells v.cells.toList ∧ ∀ u ∈ v.cells.toList, u.oneCell' = true := by
  by_cases hs : x.scal = true
  · have h1 := h.one hs
    have hc : x.cells = [x] := by cases x <;> first | rfl | (simp [DV.scal] at hs)
    rw [hc, oneCells h1]
    exact ⟨VRL.cons h (by simp [VRL]), by simpa using h1⟩
  · cases x <;> first | (simp [DV.scal] at hs; done) | skip
    · exact absurd rfl hn
    · simp only [VR] at h
      obtain ⟨vs, rfl, h2, h3⟩ := h
      exact ⟨h2, h3⟩
    · exact absurd rfl hn

theorem VRE.get {ρ : Rho} {m : Ro} {n : Nat} : ∀ {l : List DV} {c : Array Value} {o : Nat}, VRE ρ m n l c o → ∀ (i : Nat) (x : DV), l[i]? = some x →
    ∃ v, VR ρ m x v ∧ v.cells.size = n ∧ (∀ u ∈ v.cells.toList, u.oneCell' = true) ∧ (∀ j u, v.cells[j]? = some u → c[o + i * n + j]? = some u)
  | [], _, _, _, i, x, hx => by simp at hx
  | y :: l, c, o, h, i, x, hx => by
    simp only [VRE] at h
    obtain ⟨h1, h2⟩ := h
    cases i with
    | zero => simp at hx; subst hx; simpa using h1
    | succ i =>
      obtain ⟨v, k1, k2, k3, k4⟩ := VRE.get h2 i x (by simpa using hx)
      exact ⟨v, k1, k2, k3, fun j u hu => by rw [show o + (i + 1) * n + j = o + n + i * n + j by rw [Nat.succ_mul]; omega]; exact k4 j u hu⟩
theorem VRE.of_get {ρ : Rho} {m : Ro} {n : Nat} : ∀ {l : List DV} {c : Array Value} {o : Nat},
    (∀ (i : Nat) (x : DV), l[i]? = some x → ∃ v, VR ρ m x v ∧ v.cells.size = n ∧ (∀ u ∈ v.cells.toList, u.oneCell' = true) ∧ (∀ j u, v.cells[j]? = some u → c[o + i * n + j]? = some u)) → VRE ρ m n l c o
  | [], _, _, _ => by simp [VRE]
  | y :: l, c, o, h => by
    simp only [VRE]
    refine ⟨by simpa using h 0 y rfl, VRE.of_get fun i x hx => ?_⟩
    obtain ⟨v, k1, k2, k3, k4⟩ := h (i + 1) x (by simpa using hx)
    exact ⟨v, k1, k2, k3, fun j u hu => by rw [show o + n + i * n + j = o + (i + 1) * n + j by rw [Nat.succ_mul]; omega]; exact k4 j u hu⟩

theorem mentsL_append (l l' : List DV) : mentsL (l ++ l') = mentsL l ++ mentsL l' := by
  induction l with
  | nil => rfl
  | cons x l ih => simp [mentsL, ih]
theorem mentsL_mem {l : List DV} {x : DV} (h : x ∈ l) {b : Nat} (hb : b ∈ x.ments) : b ∈ mentsL l := by
  induction l with
  | nil => cases h
  | cons y l ih =>
    simp only [mentsL, List.mem_append]
    rcases List.mem_cons.1 h with rfl | h
    · exact .inl hb
    · exact .inr (ih h)
theorem of_mentsL {l : List DV} {b : Nat} (h : b ∈ mentsL l) : ∃ x ∈ l, b ∈ x.ments := by
  induction l with
  | nil => simp [mentsL] at h
  | cons y l ih =>
    simp only [mentsL, List.mem_append] at h
    rcases h with h | h
    · exact ⟨y, by simp, h⟩
    · obtain ⟨x, h1, h2⟩ := ih h
      exact ⟨x, by simp [h1], h2⟩
theorem mentsL_nil_iff {l : List DV} : mentsL l = [] ↔ ∀ x ∈ l, x.ments = [] := by
  constructor
  · intro h x hx
    refine List.eq_nil_iff_forall_not_mem.2 fun b hb => ?_
    have := mentsL_mem hx hb
    rw [h] at this; cases this
  · intro h
    refine List.eq_nil_iff_forall_not_mem.2 fun b hb => ?_
    obtain ⟨x, h1, h2⟩ := of_mentsL hb
    rw [h x h1] at h2; cases h2

theorem Grows.trans {N : Nat} {a b c : Ro} (h : Grows N a b) (k : Grows N b c) : Grows N a c := ⟨h.1.trans k.1, fun r hr => (k.2 r hr).trans (h.2 r hr), fun r x hx => k.3 r x (h.3 r x hx)⟩
end Go.Det
end

section
set_option linter.unusedVariables false
set_option linter.unusedSimpArgs false
namespace Go.Det

/-! Blocks in memory. -/
def nf (c : Array Value) (fr : Nat × Nat) : Prop := ∀ o, o < c.size → ¬ (fr.1 ≤ o ∧ o < fr.2)

def BR (ρ : Rho) (m : Ro) (w : World) (p : Loc) : Blk → Prop
  | .box cs => ∃ c el fr, w.heap[p.blk]? = some (.cells c el fr) ∧ p.base = 0 ∧ c.size = p.size ∧ nf c fr ∧ VRL ρ m cs c.toList ∧ ∀ u ∈ c.toList, u.oneCell' = true
  | .row n es => ∃ c el fr, w.heap[p.blk]? = some (.cells c el fr) ∧ c.size = p.size ∧ nf c fr ∧ 0 < n ∧ p.base + es.length * n ≤ p.size ∧ mentsL es = [] ∧ VRE ρ m n es c p.base
  | .iter s pos => w.heap[p.blk]? = some (.stringIter ⟨s.toArray⟩ pos) ∧ p.base = 0

theorem BR.lt {ρ : Rho} {m : Ro} {w : World} {p : Loc} {x : Blk} (h : BR ρ m w p x) : p.blk < w.heap.size := by
  cases x <;> simp only [BR] at h
  · obtain ⟨c, el, fr, h1, _⟩ := h; exact (Array.getElem?_eq_some_iff.1 h1).1
  · obtain ⟨c, el, fr, h1, _⟩ := h; exact (Array.getElem?_eq_some_iff.1 h1).1
  · exact (Array.getElem?_eq_some_iff.1 h.1).1

theorem BR.step {ρ ρ' : Rho} {m m' : Ro} {w w' : World} {p : Loc} {x : Blk} (hm : Sub m m') (φ : List Nat) (hr : ∀ b, b ∉ φ → ρ b = ρ' b) (hw : w'.heap[p.blk]? = w.heap[p.blk]?) (h : BR ρ m w p x) :
    BR ρ' m' w' p (x.forget φ) := by
  cases x <;> simp only [BR, Blk.forget] at h ⊢
  · obtain ⟨c, el, fr, h1, h2, h3, h4, h5, h6⟩ := h
    exact ⟨c, el, fr, hw.trans h1, h2, h3, h4, VRL.step hm φ hr _ h5, h6⟩
  · obtain ⟨c, el, fr, h1, h2, h3, h4, h5, h6, h7⟩ := h
    exact ⟨c, el, fr, hw.trans h1, h2, h3, h4, h5, h6, VRE.rho _ (by rw [h6]; simp) (VRE.mono hm _ h7)⟩
  · exact ⟨hw.trans h.1, h.2⟩

structure Evo (L : List Nat) (w w' : World) : Prop where
  os : w'.os = w.os
  tape : w'.tape = w.tape
  output : w'.output = w.output
  size : w.heap.size ≤ w'.heap.size
  keep : ∀ r, r < w.heap.size → r ∉ L → w'.heap[r]? = w.heap[r]?
theorem Evo.refl (L : List Nat) (w : World) : Evo L w w := ⟨rfl, rfl, rfl, Nat.le_refl _, fun _ _ _ => rfl⟩

/-- The blocks of a state in memory. -/
structure Inv (ρ : Rho) (m : Ro) (L : List Nat) (N : Nat) (h : Heap) (w : World) : Prop where
  blk : ∀ b x, hget h b = some x → ∃ p, ρ b = some p ∧ BR ρ m w p x ∧ m p.blk = none ∧ (p.blk ∈ L ∨ N ≤ p.blk) ∧ (x.isRow = true → N ≤ p.blk)
  inj : ∀ b b' x x' p p', hget h b = some x → hget h b' = some x' → ρ b = some p → ρ b' = some p' → p.blk = p'.blk → b = b'
  ro : ∀ r c, m r = some c → ∃ el fr, w.heap[r]? = some (.cells c el fr)
  oth : ∀ r x, m.o r = some x → w.heap[r]? = some x ∧ isCellsO x = false

def upd (ρ : Rho) (d : Nat) (p : Loc) : Rho := fun b => if b = d then some p else ρ b
theorem upd_same (ρ : Rho) (d : Nat) (p : Loc) : upd ρ d p d = some p := by simp [upd]
theorem upd_other (ρ : Rho) (d : Nat) (p : Loc) {b : Nat} (h : b ≠ d) : upd ρ d p b = ρ b := by simp [upd, h]

def forgetH (φ : List Nat) (h : Heap) : Heap := h.map fun b => b.map (Blk.forget φ)

theorem hget_set (h : Heap) (b b' : Nat) (x : Option Blk) : hget (h.set b x) b' = if b' = b then (if b < h.length then x else none) else hget h b' := by
  unfold hget
  by_cases hb : b' = b
  · subst hb
    by_cases hl : b' < h.length
    · simp [hl]
    · simp [hl, List.getElem?_eq_none_iff.2 (show (h.set b' x).length ≤ b' by simp; omega)]
  · rw [List.getElem?_set]
    simp [hb, Ne.symm hb]
theorem hget_forget (φ : List Nat) (h : Heap) (b : Nat) : hget (forgetH φ h) b = (hget h b).map (Blk.forget φ) := by
  unfold hget forgetH
  rw [List.getElem?_map]
  cases h[b]? with
  | none => rfl
  | some x => cases x <;> rfl
theorem forgetH_length (φ : List Nat) (h : Heap) : (forgetH φ h).length = h.length := by simp [forgetH]

mutual
theorem forget_nil : ∀ (x : DV), x.forget [] = x
  | .any => rfl
  | .unk => rfl
  | .bool _ => rfl
  | .int _ _ => rfl
  | .str _ => rfl
  | .nilptr => rfl
  | .ptr .. => by simp [DV.forget]
  | .eptr .. => rfl
  | .gptr .. => rfl
  | .nilsl => rfl
  | .rsl .. => by simp [DV.forget]
  | .psl .. => rfl
  | .fn f a c => by simp [DV.forget, forgetL_nil a, forgetL_nil c]
  | .nilfn => rfl
  | .iface t v => by simp [DV.forget, forget_nil v]
  | .niliface => rfl
  | .map _ => by simp [DV.forget]
  | .nilmap => rfl
  | .agg cs => by simp [DV.forget, forgetL_nil cs]
  | .tup cs => by simp [DV.forget, forgetL_nil cs]
theorem forgetL_nil : ∀ (l : List DV), forgetL [] l = l
  | [] => rfl
  | x :: l => by simp [forgetL, forget_nil x, forgetL_nil l]
end
theorem Blk.forget_nil (b : Blk) : b.forget [] = b := by
  cases b <;> simp [Blk.forget, forgetL_nil]
theorem forgetH_nil (h : Heap) : forgetH [] h = h := by
  unfold forgetH
  have : (fun b : Option Blk => b.map (Blk.forget [])) = id := by
    funext b; cases b <;> simp [Blk.forget_nil]
  rw [this, List.map_id]
theorem apply_eq (st : St) (dst : Option Nat) (o : Out) : apply st dst o =
    { t := (match dst with | some d => (forgetL o.φ st.t).set d o.v | none => forgetL o.φ st.t), h := setAll (forgetH o.φ st.h) o.δ } := by
  unfold apply
  cases hφ : o.φ with
  | nil => simp [forgetL_nil, forgetH_nil] <;> (cases dst <;> rfl)
  | cons b l => simp [forgetH] <;> (cases dst <;> rfl)

/-- What an operation leaves. -/
structure Post (L : List Nat) (N : Nat) (h : Heap) (w0 w : World) (ρ : Rho) (m : Ro) (out : Out) (v' : Value) (w' : World) (ρ' : Rho) (m' : Ro) : Prop where
  val : VR ρ' m' out.v v'
  sub : Grows N m m'
  rho : ∀ b, b ∉ out.φ → ρ b = ρ' b
  inv : Inv ρ' m' L N (setAll (forgetH out.φ h) out.δ) w'
  evo : Evo L w0 w'

/-- Marks among the deferred calls (each loop over a function leaves one). -/
structure Marks (N : Nat) (m : Ro) (ds : List Deferred) : Prop where
  mark : ∀ d ∈ ds, ∃ D, d = { target := .collected D, args := #[] } ∧ m.o D = some (.deferred (some [])) ∧ N ≤ D
  nodup : ds.Nodup
theorem Marks.nil (N : Nat) (m : Ro) : Marks N m [] := ⟨by simp, List.nodup_nil⟩
theorem Marks.mono {N : Nat} {m m' : Ro} {ds : List Deferred} (h : Marks N m ds) (hs : SubO m m') : Marks N m' ds :=
  ⟨fun d hd => by obtain ⟨D, h1, h2, h3⟩ := h.mark d hd; exact ⟨D, h1, hs _ _ h2, h3⟩, h.nodup⟩

structure Rel (w0 : World) (L : List Nat) (m0 : Ro) (st : St) (a : Act) (w : World) (ρ : Rho) (m : Ro) : Prop where
  slots : VRL ρ m st.t a.tmps.toList
  defers : Marks w0.heap.size m a.defers
  inv : Inv ρ m L w0.heap.size st.h w
  evo : Evo L w0 w
  sub : Grows w0.heap.size m0 m

theorem Rel.apply {w0 : World} {L : List Nat} {m0 : Ro} {st : St} {a : Act} {w : World} {ρ : Rho} {m : Ro} (r : Rel w0 L m0 st a w ρ m) {out : Out} {v' : Value} {w' : World} {ρ' : Rho} {m' : Ro}
    (p : Post L w0.heap.size st.h w0 w ρ m out v' w' ρ' m') (dst : Option Nat) : Rel w0 L m0 (apply st dst out) (a.put dst v') w' ρ' m' := by
  have hs : VRL ρ' m' (forgetL out.φ st.t) a.tmps.toList := VRL.step p.sub.1 _ p.rho _ r.slots
  refine ⟨?_, ?_, ?_, p.evo, r.sub.trans p.sub⟩
  · rw [apply_eq]
    cases dst with
    | none => exact hs
    | some d =>
      simp only [Act.put, Array.toList_setIfInBounds]
      exact VRL.set p.val d hs
  · cases dst <;> exact r.defers.mono p.sub.3
  · rw [apply_eq]; exact p.inv

theorem Rel.sget {w0 : World} {L : List Nat} {m0 : Ro} {st : St} {a : Act} {w : World} {ρ : Rho} {m : Ro} (r : Rel w0 L m0 st a w ρ m) (i : Nat) : VR ρ m (sget st.t i) (a.tmps.getD i undef) := by
  unfold Det.sget
  rw [List.getD_eq_getElem?_getD]
  cases hx : st.t[i]? with
  | some x =>
    obtain ⟨v, hv, h⟩ := r.slots.get i x hx
    have : a.tmps.getD i undef = v := by
      rw [Array.getD_eq_getD_getElem?]
      simp at hv
      simp [hv]
    rw [this]; exact h
  | none =>
    have hl := r.slots.length
    have : a.tmps[i]? = none := by
      have h1 := List.getElem?_eq_none_iff.1 hx
      simp only [Array.length_toList] at hl
      rw [Array.getElem?_eq_none_iff]; omega
    rw [Array.getD_eq_getD_getElem?, this]
    simp only [Option.getD_none]
    simp only [VR, VRL, undef]
    exact ⟨#[], rfl, rfl⟩

/-! Constants. -/
theorem ofCell_ok {ρ : Rho} {m : Ro} {v : Value} {x : DV} (h : ofCell v = some x) : VR ρ m x v ∧ v.oneCell' = true ∧ x.ments = [] := by
  unfold ofCell at h
  split at h <;> first
    | (simp at h; done)
    | (simp only [Option.some.injEq] at h; subst h; exact ⟨by simp [VR], rfl, rfl⟩)
theorem ofCells_ok {ρ : Rho} {m : Ro} : ∀ {vs : List Value} {l : List DV}, ofCells vs = some l → VRL ρ m l vs ∧ (∀ u ∈ vs, u.oneCell' = true) ∧ mentsL l = []
  | [], l, h => by simp [ofCells] at h; subst h; exact ⟨by simp [VRL], by simp, rfl⟩
  | v :: vs, l, h => by
    unfold ofCells at h
    split at h
    · rename_i x y hx hy
      simp only [Option.some.injEq] at h; subst h
      obtain ⟨a1, a2, a3⟩ := ofCell_ok (ρ := ρ) (m := m) hx
      obtain ⟨b1, b2, b3⟩ := ofCells_ok (ρ := ρ) (m := m) hy
      exact ⟨VRL.cons a1 b1, by simpa using ⟨a2, b2⟩, by simp [mentsL, a3, b3]⟩
    · simp at h
theorem ofConst_ok {ρ : Rho} {m : Ro} {v : Value} {x : DV} (h : ofConst v = some x) : VR ρ m x v := by
  unfold ofConst at h
  split at h
  · rename_i cs
    simp only [Option.map_eq_some_iff] at h
    obtain ⟨l, hl, rfl⟩ := h
    obtain ⟨b1, b2, b3⟩ := ofCells_ok (ρ := ρ) (m := m) hl
    simp only [VR]
    exact ⟨cs, rfl, b1, b2⟩
  · rename_i vs
    split at h
    · rename_i hz
      simp only [Option.some.injEq] at h; subst h
      simp only [VR, VRL]
      exact ⟨vs, rfl, by simpa using hz⟩
    · simp at h
  · exact (ofCell_ok h).1

theorem Rel.opnd {w0 : World} {L : List Nat} {m0 : Ro} {st : St} {a : Act} {w : World} {ρ : Rho} {m : Ro} (r : Rel w0 L m0 st a w ρ m) (x : Operand) : VR ρ m (opnd st.t x) (a.eval x) := by
  cases x with
  | tmp i => exact r.sget i
  | const v =>
    simp only [Det.opnd, Act.eval]
    cases h : ofConst v with
    | some y => exact ofConst_ok h
    | none => simp [VR]
  | global g => simp [Det.opnd, Act.eval, VR]
  | func f => simp [Det.opnd, Act.eval, VR, VRL]

end Go.Det
end

section
set_option linter.unusedVariables false
set_option linter.unusedSimpArgs false
namespace Go.Det

/-! Changes of memory. -/
section
variable {ρ : Rho} {m : Ro} {L : List Nat} {N : Nat} {h : Heap} {w : World}

theorem alloc_get (w : World) (o : Obj) (r : Nat) : (w.alloc o).heap[r]? = if r = w.heap.size then some o else w.heap[r]? := by
  simp only [World.alloc, Array.getElem?_push]
theorem alloc_get_lt (w : World) (o : Obj) {r : Nat} (hr : r < w.heap.size) : (w.alloc o).heap[r]? = w.heap[r]? := by
  rw [alloc_get, if_neg (by omega)]
theorem alloc_get_new (w : World) (o : Obj) : (w.alloc o).heap[w.heap.size]? = some o := by
  rw [alloc_get, if_pos rfl]

theorem Evo.alloc {w0 : World} (e : Evo L w0 w) (o : Obj) : Evo L w0 (w.alloc o) :=
  ⟨e.os, e.tape, e.output, by rw [World.size_alloc]; have := e.size; omega, fun r hr hL => (alloc_get_lt w o (by have := e.size; omega)).trans (e.keep r hr hL)⟩
theorem Evo.drew {w0 : World} (e : Evo L w0 w) : Evo L w0 w.drew := ⟨e.os, e.tape, e.output, e.size, e.keep⟩

theorem Inv.ro_lt (i : Inv ρ m L N h w) {r : Nat} {c : Array Value} (hm : m r = some c) : r < w.heap.size := by
  obtain ⟨_, _, hc⟩ := i.ro r c hm
  exact (Array.getElem?_eq_some_iff.1 hc).1
theorem Inv.oth_lt (i : Inv ρ m L N h w) {r : Nat} {x : Obj} (hm : m.o r = some x) : r < w.heap.size :=
  (Array.getElem?_eq_some_iff.1 (i.oth r x hm).1).1
theorem Inv.oth_ne (i : Inv ρ m L N h w) {p : Loc} {y : Blk} (hB : BR ρ m w p y) {r : Nat} {z : Obj} (hz : m.o r = some z) : r ≠ p.blk := by
  rintro rfl
  obtain ⟨h1, h2⟩ := i.oth _ _ hz
  cases y <;> simp only [BR] at hB
  · obtain ⟨c, el, fr, k, _⟩ := hB; rw [h1] at k; cases k; simp [isCellsO] at h2
  · obtain ⟨c, el, fr, k, _⟩ := hB; rw [h1] at k; cases k; simp [isCellsO] at h2
  · rw [h1] at hB; obtain ⟨k, _⟩ := hB; cases k; simp [isCellsO] at h2
theorem Inv.new_ro (i : Inv ρ m L N h w) : m w.heap.size = none := by
  cases hm : m w.heap.size with
  | none => rfl
  | some c => exact absurd (i.ro_lt hm) (by omega)

theorem Inv.drew (i : Inv ρ m L N h w) : Inv ρ m L N h w.drew :=
  ⟨fun b x hx => by
    obtain ⟨p, h1, h2, h3⟩ := i.blk b x hx
    refine ⟨p, h1, ?_, h3⟩
    have := BR.step (Sub.refl m) [] (fun _ _ => rfl) (w' := w.drew) rfl h2
    rwa [Blk.forget_nil] at this, i.inj, i.ro, i.oth⟩

/-- Blocks forgotten: the rest stands. -/
theorem Inv.forget (i : Inv ρ m L N h w) (φ : List Nat) : Inv ρ m L N (forgetH φ h) w :=
  ⟨fun b x hx => by
    rw [hget_forget] at hx
    simp only [Option.map_eq_some_iff] at hx
    obtain ⟨y, hy, rfl⟩ := hx
    obtain ⟨p, h1, h2, h3⟩ := i.blk b y hy
    exact ⟨p, h1, BR.step (Sub.refl m) φ (fun _ _ => rfl) rfl h2, h3.1, h3.2.1, fun hr => h3.2.2 (by rwa [Blk.isRow_forget] at hr)⟩,
   fun b b' x x' p p' hx hx' => by
    rw [hget_forget] at hx hx'
    simp only [Option.map_eq_some_iff] at hx hx'
    obtain ⟨y, hy, _⟩ := hx
    obtain ⟨y', hy', _⟩ := hx'
    exact i.inj b b' y y' p p' hy hy', i.ro, i.oth⟩

/-- A new block. -/
theorem Inv.grow (i : Inv ρ m L N h w) (hN : N ≤ w.heap.size) {w' : World} (hold : ∀ r, r < w.heap.size → w'.heap[r]? = w.heap[r]?) (φ : List Nat) (d : Nat) (hd : d ∈ φ) (x : Blk) (sz : Nat) (hx : BR (upd ρ d ⟨w.heap.size, 0, sz⟩) m w' ⟨w.heap.size, 0, sz⟩ x) :
    Inv (upd ρ d ⟨w.heap.size, 0, sz⟩) m L N ((forgetH φ h).set d (some x)) w' := by
  refine ⟨fun b y hy => ?_, fun b b' y y' p p' hy hy' hp hp' he => ?_, fun r c hc => ?_, fun r x hx => ⟨(hold _ (i.oth_lt hx)).trans (i.oth r x hx).1, (i.oth r x hx).2⟩⟩
  · rw [hget_set] at hy
    split at hy
    · rename_i hb; subst hb
      split at hy
      · simp only [Option.some.injEq] at hy; subst hy
        exact ⟨_, upd_same .., hx, i.new_ro, .inr hN, fun _ => hN⟩
      · simp at hy
    · rename_i hb
      rw [hget_forget] at hy
      simp only [Option.map_eq_some_iff] at hy
      obtain ⟨z, hz, rfl⟩ := hy
      obtain ⟨p, h1, h2, h3⟩ := i.blk b z hz
      refine ⟨p, by rw [upd_other _ _ _ hb]; exact h1, BR.step (Sub.refl m) φ (fun b' hb' => (upd_other _ _ _ (fun e => hb' (by rw [e]; exact hd))).symm) ?_ h2, h3.1, h3.2.1, fun hr => h3.2.2 (by rwa [Blk.isRow_forget] at hr)⟩
      exact hold _ h2.lt
  · rw [hget_set] at hy hy'
    by_cases hb : b = d
    · by_cases hb' : b' = d
      · rw [hb, hb']
      · rw [if_neg hb', hget_forget] at hy'
        simp only [Option.map_eq_some_iff] at hy'
        obtain ⟨z, hz, _⟩ := hy'
        obtain ⟨q, h1, h2, h3⟩ := i.blk b' z hz
        rw [upd_other _ _ _ hb', h1] at hp'
        rw [hb, upd_same] at hp
        simp only [Option.some.injEq] at hp hp'
        subst hp hp'
        have := h2.lt
        simp at he; omega
    · by_cases hb' : b' = d
      · rw [if_neg hb, hget_forget] at hy
        simp only [Option.map_eq_some_iff] at hy
        obtain ⟨z, hz, _⟩ := hy
        obtain ⟨q, h1, h2, h3⟩ := i.blk b z hz
        rw [upd_other _ _ _ hb, h1] at hp
        rw [hb', upd_same] at hp'
        simp only [Option.some.injEq] at hp hp'
        subst hp hp'
        have := h2.lt
        simp at he; omega
      · rw [if_neg hb, hget_forget] at hy
        rw [if_neg hb', hget_forget] at hy'
        simp only [Option.map_eq_some_iff] at hy hy'
        obtain ⟨z, hz, _⟩ := hy
        obtain ⟨z', hz', _⟩ := hy'
        rw [upd_other _ _ _ hb] at hp
        rw [upd_other _ _ _ hb'] at hp'
        exact i.inj b b' z z' p p' hz hz' hp hp' he
  · obtain ⟨el, fr, hh⟩ := i.ro r c hc
    exact ⟨el, fr, (hold _ (i.ro_lt hc)).trans hh⟩

/-- Fewer blocks. -/
theorem Inv.less (i : Inv ρ m L N h w) {h' : Heap} (hs : ∀ b x, hget h' b = some x → hget h b = some x) : Inv ρ m L N h' w :=
  ⟨fun b x hx => i.blk b x (hs b x hx), fun b b' x x' p p' hx hx' => i.inj b b' x x' p p' (hs b x hx) (hs b' x' hx'), i.ro, i.oth⟩
theorem set_none_less (H : Heap) (b d : Nat) (y : Blk) (b' : Nat) (x : Blk) (hx : hget (setAll H [(b, none), (d, some y)]) b' = some x) : hget (H.set d (some y)) b' = some x := by
  simp only [setAll] at hx
  rw [hget_set] at hx ⊢
  by_cases e : b' = d
  · rw [if_pos e] at hx ⊢
    simpa using hx
  · rw [if_neg e] at hx ⊢
    rw [hget_set] at hx
    split at hx
    · split at hx <;> simp at hx
    · exact hx

theorem Evo.grow {w0 w' : World} (e : Evo L w0 w) (hold : ∀ r, r < w.heap.size → w'.heap[r]? = w.heap[r]?) (h1 : w'.os = w.os) (h2 : w'.tape = w.tape) (h3 : w'.output = w.output) (h4 : w.heap.size ≤ w'.heap.size) : Evo L w0 w' :=
  ⟨h1.trans e.os, h2.trans e.tape, h3.trans e.output, Nat.le_trans e.size h4, fun r hr hL => (hold r (by have := e.size; omega)).trans (e.keep r hr hL)⟩

/-- A new block that is sealed at once. -/
def seal1 (m : Ro) (r : Nat) (c : Array Value) : Ro := ⟨fun r' => if r' = r then some c else m r', m.o⟩
theorem sub_seal1 {m : Ro} {r : Nat} (c : Array Value) (hr : m r = none) : Sub m (seal1 m r c) := by
  intro r' c' h'
  show (if r' = r then some c else m r') = some c'
  by_cases e : r' = r
  · subst e; rw [hr] at h'; cases h'
  · rw [if_neg e]; exact h'
theorem Inv.allocSealed (i : Inv ρ m L N h w) (c : Array Value) (el : TypeId) (fr : Nat × Nat) :
    Inv ρ (seal1 m w.heap.size c) L N h (w.alloc (.cells c el fr)) := by
  have hs := sub_seal1 c i.new_ro
  refine ⟨fun b y hy => ?_, i.inj, fun r c' hc => ?_, fun r x hx => ⟨(alloc_get_lt w _ (i.oth_lt hx)).trans (i.oth r x hx).1, (i.oth r x hx).2⟩⟩
  · obtain ⟨p, h1, h2, h3, h4⟩ := i.blk b y hy
    have hlt := h2.lt
    have := BR.step hs [] (fun _ _ => rfl) (w' := w.alloc (.cells c el fr)) (alloc_get_lt w _ hlt) h2
    rw [Blk.forget_nil] at this
    refine ⟨p, h1, this, ?_, h4⟩
    show (if p.blk = w.heap.size then some c else m p.blk) = none
    rw [if_neg (by omega)]; exact h3
  · replace hc : (if r = w.heap.size then some c else m r) = some c' := hc
    by_cases e : r = w.heap.size
    · rw [if_pos e] at hc
      subst e
      simp only [Option.some.injEq] at hc; subst hc
      exact ⟨el, fr, alloc_get_new w _⟩
    · rw [if_neg e] at hc
      obtain ⟨el', fr', hh⟩ := i.ro r c' hc
      exact ⟨el', fr', (alloc_get_lt w _ (i.ro_lt hc)).trans hh⟩

/-- One block rewritten. -/
def World.setBlk (w : World) (r : Nat) (o : Obj) : World := { w with heap := w.heap.setIfInBounds r o }
theorem setBlk_get (w : World) (r : Nat) (o : Obj) (r' : Nat) : (World.setBlk w r o).heap[r']? = if r' = r then (if r < w.heap.size then some o else none) else w.heap[r']? := by
  simp only [World.setBlk, Array.getElem?_setIfInBounds]
  by_cases e : r = r'
  · subst e; simp
  · simp [e, Ne.symm e]
theorem Evo.setBlk {w0 : World} (e : Evo L w0 w) {r : Nat} (o : Obj) (hr : r ∈ L ∨ w0.heap.size ≤ r) : Evo L w0 (World.setBlk w r o) := by
  refine ⟨e.os, e.tape, e.output, by simp [World.setBlk]; exact e.size, fun r' hr' hL => ?_⟩
  rw [setBlk_get, if_neg ?_]
  · exact e.keep r' hr' hL
  · rintro rfl
    rcases hr with hr | hr
    · exact hL hr
    · omega
theorem Inv.setBlk (i : Inv ρ m L N h w) {b : Nat} {x y : Blk} {p : Loc} (hb : hget h b = some x) (hp : ρ b = some p) (o : Obj) (hy : BR ρ m (World.setBlk w p.blk o) p y) (hxy : y.isRow = x.isRow) :
    Inv ρ m L N (h.set b (some y)) (World.setBlk w p.blk o) := by
  obtain ⟨p', h1, h2, h3, h4⟩ := i.blk b x hb
  rw [hp] at h1; simp only [Option.some.injEq] at h1; subst h1
  refine ⟨fun b' y' hy' => ?_, fun b1 b2 y1 y2 p1 p2 hy1 hy2 hp1 hp2 he => ?_, fun r c hc => ?_, fun r z hz => ⟨?_, (i.oth r z hz).2⟩⟩
  rotate_right
  · rw [setBlk_get, if_neg (i.oth_ne h2 hz)]; exact (i.oth r z hz).1
  · rw [hget_set] at hy'
    split at hy'
    · rename_i e; subst e
      split at hy'
      · simp only [Option.some.injEq] at hy'; subst hy'
        exact ⟨p, hp, hy, h3, h4.1, fun hr => h4.2 (by rwa [hxy] at hr)⟩
      · simp at hy'
    · rename_i e
      obtain ⟨q, k1, k2, k3, k4⟩ := i.blk b' y' hy'
      have hne : q.blk ≠ p.blk := fun he => e (i.inj b' b y' x q p hy' hb k1 hp he)
      have := BR.step (Sub.refl m) [] (fun _ _ => rfl) (w' := World.setBlk w p.blk o) (by rw [setBlk_get, if_neg hne]) k2
      rw [Blk.forget_nil] at this
      exact ⟨q, k1, this, k3, k4⟩
  · have aux : ∀ b1 y1, hget (h.set b (some y)) b1 = some y1 → ∃ z, hget h b1 = some z := by
      intro b1 y1 h'
      rw [hget_set] at h'
      split at h'
      · rename_i e; subst e; exact ⟨x, hb⟩
      · exact ⟨_, h'⟩
    obtain ⟨z1, e1⟩ := aux b1 y1 hy1
    obtain ⟨z2, e2⟩ := aux b2 y2 hy2
    exact i.inj b1 b2 z1 z2 p1 p2 e1 e2 hp1 hp2 he
  · obtain ⟨el, fr, hh⟩ := i.ro r c hc
    refine ⟨el, fr, ?_⟩
    rw [setBlk_get, if_neg ?_]
    · exact hh
    · rintro rfl; rw [h3] at hc; cases hc
/-- A row under another name, in the same memory. -/
theorem Inv.move (i : Inv ρ m L N h w) {b d : Nat} {x y : Blk} {p q : Loc} (hb : hget h b = some x) (hp : ρ b = some p) (hq : q.blk = p.blk) (o : Obj) (hy : BR (upd ρ d q) m (World.setBlk w p.blk o) q y) (hxy : y.isRow = x.isRow) :
    Inv (upd ρ d q) m L N (setAll (forgetH [b, d] h) [(b, none), (d, some y)]) (World.setBlk w p.blk o) := by
  obtain ⟨p', h1, h2, h3, h4⟩ := i.blk b x hb
  rw [hp] at h1; simp only [Option.some.injEq] at h1; subst h1
  have key : ∀ b' y', hget (setAll (forgetH [b, d] h) [(b, none), (d, some y)]) b' = some y' → (b' = d ∧ y' = y) ∨ (b' ≠ d ∧ b' ≠ b ∧ ∃ z, hget h b' = some z ∧ y' = z.forget [b, d]) := by
    intro b' y' hh
    simp only [setAll] at hh
    rw [hget_set] at hh
    by_cases e : b' = d
    · rw [if_pos e] at hh
      split at hh
      · simp only [Option.some.injEq] at hh; exact .inl ⟨e, hh.symm⟩
      · simp at hh
    · rw [if_neg e, hget_set] at hh
      split at hh
      · split at hh <;> simp at hh
      · rename_i e2
        rw [hget_forget] at hh
        simp only [Option.map_eq_some_iff] at hh
        obtain ⟨z, hz, rfl⟩ := hh
        exact .inr ⟨e, e2, z, hz, rfl⟩
  have far : ∀ b' z p1, b' ≠ b → hget h b' = some z → ρ b' = some p1 → p1.blk ≠ p.blk := fun b' z p1 hne hz hp1 he => hne (i.inj b' b z x p1 p hz hb hp1 hp he)
  refine ⟨fun b' y' hh => ?_, fun b1 b2 y1 y2 p1 p2 hy1 hy2 hp1 hp2 he => ?_, fun r c hc => ?_, fun r z hz => ⟨?_, (i.oth r z hz).2⟩⟩
  rotate_right
  · rw [setBlk_get, if_neg (i.oth_ne h2 hz)]; exact (i.oth r z hz).1
  · rcases key b' y' hh with ⟨rfl, rfl⟩ | ⟨hd, hnb, z, hz, rfl⟩
    · exact ⟨q, upd_same .., hy, by rw [hq]; exact h3, by rw [hq]; exact h4.1, fun hr => by rw [hq]; exact h4.2 (by rwa [hxy] at hr)⟩
    · obtain ⟨p1, k1, k2, k3⟩ := i.blk b' z hz
      exact ⟨p1, by rw [upd_other _ _ _ hd]; exact k1, BR.step (Sub.refl m) [b, d] (fun b2 hb2 => (upd_other _ _ _ (fun e => hb2 (by simp [e]))).symm) (by rw [setBlk_get, if_neg (far b' z p1 hnb hz k1)]) k2, k3.1, k3.2.1, fun hr => k3.2.2 (by rwa [Blk.isRow_forget] at hr)⟩
  · rcases key b1 y1 hy1 with ⟨rfl, rfl⟩ | ⟨hd, hnb, z, hz, rfl⟩
    · rcases key b2 y2 hy2 with ⟨rfl, rfl⟩ | ⟨hd', hnb', z', hz', rfl⟩
      · rfl
      · rw [upd_same] at hp1; simp only [Option.some.injEq] at hp1; subst hp1
        rw [upd_other _ _ _ hd'] at hp2
        exact absurd (he.symm.trans hq) (far b2 z' p2 hnb' hz' hp2)
    · rcases key b2 y2 hy2 with ⟨rfl, rfl⟩ | ⟨hd', hnb', z', hz', rfl⟩
      · rw [upd_same] at hp2; simp only [Option.some.injEq] at hp2; subst hp2
        rw [upd_other _ _ _ hd] at hp1
        exact absurd (he.trans hq) (far b1 z p1 hnb hz hp1)
      · rw [upd_other _ _ _ hd] at hp1
        rw [upd_other _ _ _ hd'] at hp2
        exact i.inj b1 b2 z z' p1 p2 hz hz' hp1 hp2 he
  · obtain ⟨el, fr, hh⟩ := i.ro r c hc
    refine ⟨el, fr, ?_⟩
    rw [setBlk_get, if_neg ?_]
    · exact hh
    · rintro rfl; rw [h3] at hc; cases hc
end

/-! A block's cells, read and written. -/
theorem cell_at {w : World} {r : Nat} {c : Array Value} {el : TypeId} {fr : Nat × Nat} (hh : w.heap[r]? = some (.cells c el fr)) (o : Nat) : w.cell? ⟨r, o, none⟩ = c[o]? := by
  simp [World.cell?, hh]
theorem frozen_at {w : World} {r : Nat} {c : Array Value} {el : TypeId} {fr : Nat × Nat} (hh : w.heap[r]? = some (.cells c el fr)) (hf : nf c fr) {o : Nat} (ho : o < c.size) : w.frozen? ⟨r, o, none⟩ = false := by
  have := hf o ho
  simp only [World.frozen?, hh]
  simpa using this

def overA (c : Array Value) (o : Nat) : List Value → Array Value
  | [] => c
  | v :: l => overA (c.setIfInBounds o v) (o + 1) l
theorem overA_size (c : Array Value) (o : Nat) (l : List Value) : (overA c o l).size = c.size := by
  induction l generalizing c o with
  | nil => rfl
  | cons v l ih => simp [overA, ih]
theorem overA_get (l : List Value) : ∀ (c : Array Value) (o j : Nat), o + l.length ≤ c.size → (overA c o l)[j]? = if o ≤ j ∧ j < o + l.length then l[j - o]? else c[j]? := by
  induction l with
  | nil => intro c o j _; simp [overA]; omega
  | cons v l ih =>
    intro c o j h
    simp only [List.length_cons] at h
    rw [overA, ih _ _ _ (by simp; omega), Array.getElem?_setIfInBounds]
    by_cases h1 : o + 1 ≤ j ∧ j < o + 1 + l.length
    · rw [if_pos h1, if_pos (by simp; omega), show j - o = (j - (o + 1)) + 1 by omega]
      simp
    · rw [if_neg h1]
      by_cases h2 : o = j
      · subst h2; rw [if_pos rfl, if_pos (by omega), if_pos (by simp)]; simp
      · rw [if_neg h2, if_neg (by simp; omega)]

theorem setCell_cells {w : World} {r : Nat} {c : Array Value} {el : TypeId} {fr : Nat × Nat} (hh : w.heap[r]? = some (.cells c el fr)) (o : Nat) (v : Value) :
    w.setCell ⟨r, o, none⟩ v = World.setBlk w r (.cells (c.setIfInBounds o v) el fr) := by
  obtain ⟨hlt, hval⟩ := Array.getElem?_eq_some_iff.1 hh
  unfold World.setCell World.setBlk
  congr 1
  apply Array.ext_getElem?
  intro i
  rw [Array.getElem?_modify, Array.getElem?_setIfInBounds]
  by_cases e : r = i
  · subst e
    simp [hlt, hval]
  · simp [e]
theorem setBlk_setBlk (w : World) (r : Nat) (o o' : Obj) : World.setBlk (World.setBlk w r o) r o' = World.setBlk w r o' := by
  simp [World.setBlk]
theorem setBlk_self {w : World} {r : Nat} {o : Obj} (hh : w.heap[r]? = some o) : World.setBlk w r o = w := by
  obtain ⟨hlt, hval⟩ := Array.getElem?_eq_some_iff.1 hh
  unfold World.setBlk
  have : w.heap.setIfInBounds r o = w.heap := by
    apply Array.ext_getElem?
    intro i
    rw [Array.getElem?_setIfInBounds]
    by_cases e : r = i
    · subst e; simp [hlt, hval]
    · simp [e]
  rw [this]

theorem run_storeCells_over {P : Program} {r : Nat} {el : TypeId} {fr : Nat × Nat} : ∀ (vs : List Value) (i o : Nat) (c : Array Value) (w : World), w.heap[r]? = some (.cells c el fr) → nf c fr →
    o + i + vs.length ≤ c.size → (∀ v ∈ vs, v.oneCell' = true) →
    (storeCells ⟨r, o, none⟩ vs i).run P w = .ok () (World.setBlk w r (.cells (overA c (o + i) vs) el fr))
  | [], i, o, c, w, hh, hf, hs, h1 => by
    simp only [storeCells, overA]
    rw [setBlk_self hh]; rfl
  | v :: vs, i, o, c, w, hh, hf, hs, h1 => by
    simp only [List.length_cons] at hs
    have hlt : o + i < c.size := by omega
    have hadd : (⟨r, o, none⟩ : Addr).add i = ⟨r, o + i, none⟩ := by
      unfold Addr.add; split
      · rename_i e; subst e; rfl
      · rfl
    have hst : (store ((⟨r, o, none⟩ : Addr).add i) v).run P w = .ok () (World.setBlk w r (.cells (c.setIfInBounds (o + i) v) el fr)) := by
      rw [hadd, run_store P w _ v .plain (h1 v (by simp)), cell_at hh, frozen_at hh hf hlt, setCell_cells hh]
      simp [hlt]
    have hlt' := (Array.getElem?_eq_some_iff.1 hh).1
    have ih := run_storeCells_over (P := P) (r := r) (el := el) (fr := fr) vs (i + 1) o (c.setIfInBounds (o + i) v) (World.setBlk w r (.cells (c.setIfInBounds (o + i) v) el fr))
      (by rw [setBlk_get]; simp [hlt']) (by intro o' ho'; exact hf o' (by simpa using ho')) (by simp; omega) (fun u hu => h1 u (by simp [hu]))
    rw [setBlk_setBlk] at ih
    simp only [storeCells, overA]
    show (Sem.bind _ _).run P w = _
    have : (Sem.bind (store ((⟨r, o, none⟩ : Addr).add i) v) (fun _ => storeCells ⟨r, o, none⟩ vs (i + 1))).run P w = (storeCells ⟨r, o, none⟩ vs (i + 1)).run P (World.setBlk w r (.cells (c.setIfInBounds (o + i) v) el fr)) := by
      rw [Sem.run_bind', hst]; rfl
    rw [this, ih, Nat.add_assoc]

end Go.Det
end

section
set_option linter.unusedVariables false
set_option linter.unusedSimpArgs false
namespace Go.Det

def TdOK (P : Program) (t : Nat) (d : TypeDesc) : Td → Prop
  | .bool => d = .bool
  | .int k => d = .int k
  | .str => d = .string
  | .ptr e => d = .pointer e
  | .sl e => d = .slice e
  | .arr n e => d = .array n e
  | .map k e => d = .map k e
  | .st fs => ∃ fields, d = .struct fields ∧ fs = fields.toList.map (fun f => (f.offset, f.type)) ∧ (∀ f ∈ fields.toList, f.name ≠ "_") ∧ P.stoodInHeld t = false ∧ P.eqGuardType P.depth t = false ∧
      (∀ f ∈ fields.toList, (P.info? f.type).isSome = true)
  | .fn => ∃ a b c, d = .func a b c
  | .ifc => ∃ ms, d = .interface ms
  | .other => (∀ fs, d ≠ .struct fs) ∧ (∀ n e, d ≠ .array n e) ∧ ∀ ms, d ≠ .interface ms

structure TiOK (P : Program) (t : Nat) (ti : Ti) : Prop where
  info : ∃ i, P.info? t = some i ∧ i.size = ti.size ∧ i.bytes = ti.bytes ∧
    (ti.zero ≠ [] → ∃ z, i.zero = some z ∧ VRL (fun _ => none) Ro.none ti.zero z.cells.toList ∧ (∀ u ∈ z.cells.toList, u.oneCell' = true) ∧ mentsL ti.zero = [])
  desc : ∃ d, P.underlying t = some d ∧ TdOK P t d ti.d

def aggDesc : TypeDesc → Bool
  | .struct _ => true
  | .array _ _ => true
  | _ => false
theorem agD_of {P : Program} {t : Nat} {d : TypeDesc} {td : Td} (h : TdOK P t d td) : aggDesc d = agD td := by
  cases td <;> simp only [TdOK] at h <;> first
    | (subst h; rfl)
    | (obtain ⟨_, rfl, _⟩ := h; rfl)
    | (obtain ⟨_, _, _, rfl⟩ := h; rfl)
    | (obtain ⟨_, rfl⟩ := h; rfl)
    | (obtain ⟨h1, h2, _⟩ := h
       cases d <;> first | rfl | exact absurd rfl (h1 _) | exact absurd rfl (h2 _ _))

section
variable {P : Program} {t : Nat} {ti : Ti} (hT : TiOK P t ti)
include hT

theorem run_size (w : World) : (sizeOf t).run P w = .ok ti.size w := by
  obtain ⟨i, hi, hs, _⟩ := hT.info
  simp [sizeOf, typeInfo, hi, hs]
theorem run_und (w : World) : ∃ d, (underlying t).run P w = .ok d w ∧ TdOK P t d ti.d := by
  obtain ⟨d, hd, h⟩ := hT.desc
  exact ⟨d, run_underlying hd w, h⟩
theorem run_isAggT (w : World) : (isAgg t).run P w = .ok (agD ti.d) w := by
  obtain ⟨d, hd, h⟩ := hT.desc
  have := agD_of h
  simp only [isAgg, Sem.run_bind, run_underlying hd, Result.andThen_ok]
  rw [← this]
  cases d <;> rfl

/-- Cells out of memory, as a value of the type. -/
theorem run_loadVar {w : World} {r : Nat} {c : Array Value} {el : TypeId} {fr : Nat × Nat} (hh : w.heap[r]? = some (.cells c el fr)) (o : Nat) (ho : o + ti.size ≤ c.size) :
    (agD ti.d = true → (loadVar t ⟨r, o, none⟩).run P w = .ok (.agg ((c.toList.drop o).take ti.size).toArray) w) ∧
    (agD ti.d = false → ∀ v, c[o]? = some v → (loadVar t ⟨r, o, none⟩).run P w = .ok v w) := by
  constructor
  · intro ha
    have hl : ((c.toList.drop o).take ti.size).length = ti.size := by simp; omega
    have hc := run_loadCells_list (P := P) w ⟨r, o, none⟩ ((c.toList.drop o).take ti.size) (by
      intro j v hj
      rw [List.getElem?_take] at hj
      split at hj
      · rw [List.getElem?_drop] at hj
        have hadd : (⟨r, o, none⟩ : Addr).add j = ⟨r, o + j, none⟩ := by
          unfold Addr.add; split
          · rename_i e; subst e; rfl
          · rfl
        rw [hadd, cell_at hh]
        simpa using hj
      · cases hj)
    rw [hl] at hc
    simp only [loadVar, Sem.run_bind, run_isAggT hT, Result.andThen_ok, ha, if_true, run_size hT, hc, Sem.run_pure]
  · intro ha v hv
    simp only [loadVar, Sem.run_bind, run_isAggT hT, Result.andThen_ok, ha]
    simp [cell_at hh, hv]

theorem run_storeVar {w : World} {r : Nat} {c : Array Value} {el : TypeId} {fr : Nat × Nat} (hh : w.heap[r]? = some (.cells c el fr)) (hf : nf c fr) (o : Nat) (v : Value) (hv : v.cells.size = ti.size) (ho : o + ti.size ≤ c.size)
    (h1 : ∀ u ∈ v.cells.toList, u.oneCell' = true) :
    (storeVar t ⟨r, o, none⟩ v).run P w = .ok () (World.setBlk w r (.cells (overA c o v.cells.toList) el fr)) := by
  have := run_storeCells_over (P := P) (r := r) (el := el) (fr := fr) v.cells.toList 0 o c w hh hf (by simp; omega) h1
  simp only [storeVar, Sem.run_bind, run_size hT, Result.andThen_ok, hv, ne_eq, not_true, if_false]
  simpa using this

theorem run_part {w : World} (cs : Array Value) (off : Nat) :
    (agD ti.d = true → (part t cs off).run P w = .ok (.agg ((cs.toList.drop off).take ti.size).toArray) w) ∧
    (agD ti.d = false → ∀ v, cs[off]? = some v → (part t cs off).run P w = .ok v w) := by
  constructor
  · intro ha
    simp only [part, Sem.run_bind, run_isAggT hT, Result.andThen_ok, ha, if_true, run_size hT, Sem.run_pure]
    congr 2
    apply Array.ext'
    simp [Array.toList_extract, List.extract_eq_take_drop]
  · intro ha v hv
    simp only [part, Sem.run_bind, run_isAggT hT, Result.andThen_ok, ha, hv]
    rfl
end

section
variable {ρ : Rho} {m : Ro}
/-- Some cells of a whole. -/
theorem VRL.aggPart {l : List DV} {vs : List Value} (h : VRL ρ m l vs) (h1 : ∀ u ∈ vs, u.oneCell' = true) (o n : Nat) : VR ρ m (.agg ((l.drop o).take n)) (.agg ((vs.drop o).take n).toArray) := by
  simp only [VR]
  exact ⟨_, rfl, by simpa using (h.drop o).take n, fun u hu => h1 u (by
    simp at hu
    exact List.mem_of_mem_drop (List.mem_of_mem_take hu))⟩
end

end Go.Det
end

section
set_option linter.unusedVariables false
set_option linter.unusedSimpArgs false
namespace Go.Det

section
variable {P : Program} {ρ : Rho} {m : Ro}

theorem intOp_ok {op : BinOp} {k : IntKind} {x y : Int} {z : DV} (h : intOp op k x y = some z) (hs : op ≠ .shl) (hr : op ≠ .shr) (t : Nat) (w : World) :
    ∃ v, (Go.binOp op t (.int k x) (.int k y)).run P w = .ok v w ∧ VR ρ m z v := by
  cases op <;> simp only [intOp] at h <;> first
    | (exact absurd rfl hs)
    | (exact absurd rfl hr)
    | skip
  all_goals first
    | (split at h
       · simp at h
       · rename_i hy
         simp only [Option.some.injEq] at h; subst h
         refine ⟨_, ?_, rfl⟩
         simp [Go.binOp, Op.intDiv, hy])
    | (simp only [Option.some.injEq] at h; subst h
       refine ⟨_, ?_, rfl⟩
       simp [Go.binOp, Op.intArith, Op.intBits, Op.intCmp])

theorem shiftOp_ok {op : BinOp} {k k' : IntKind} {x y : Int} {z : DV} (h : shiftOp op k x y = some z) (t : Nat) (w : World) :
    ∃ v, (Go.binOp op t (.int k x) (.int k' y)).run P w = .ok v w ∧ VR ρ m z v := by
  unfold shiftOp at h
  split at h
  · simp at h
  · rename_i hy
    cases op <;> simp only [Option.some.injEq] at h <;> first
      | (simp at h; done)
      | (subst h
         refine ⟨_, ?_, rfl⟩
         simp [Go.binOp, Op.shift, hy])

theorem toArr (s : List UInt8) : (⟨s.toArray⟩ : ByteArray).toList = s := by
  rw [ByteArray.toList_eq]
theorem baSize (s : List UInt8) : (⟨s.toArray⟩ : ByteArray).size = s.length := rfl
theorem baAppend (s t : List UInt8) : (⟨s.toArray⟩ : ByteArray) ++ ⟨t.toArray⟩ = ⟨(s ++ t).toArray⟩ := by
  apply ByteArray.ext
  simp

theorem strOp_ok {op : BinOp} {x y : List UInt8} {z : DV} (h : strOp op x y = some z) (t : Nat) (w : World) :
    ∃ v, (Go.binOp op t (.string ⟨x.toArray⟩) (.string ⟨y.toArray⟩)).run P w = .ok v w ∧ VR ρ m z v := by
  cases op <;> simp only [strOp] at h <;> first
    | (simp at h; done)
    | skip
  · split at h
    · rename_i hl
      simp only [Option.some.injEq] at h; subst h
      refine ⟨.string ⟨(x ++ y).toArray⟩, ?_, rfl⟩
      have : ¬ ((((⟨x.toArray⟩ : ByteArray).size + (⟨y.toArray⟩ : ByteArray).size : Nat) : Int) > IntKind.i64.max) := by
        rw [baSize, baSize]
        have : IntKind.i64.max = 9223372036854775807 := rfl
        omega
      simp only [Go.binOp, Op.stringOp, this, if_false, baAppend]
      rfl
    · simp at h
  all_goals
    simp only [Option.some.injEq] at h; subst h
    refine ⟨_, ?_, rfl⟩
    simp [Go.binOp, Op.stringOp, toArr, bytesLess]

variable {T : Nat → Option Ti} (hT : ∀ t ti, T t = some ti → TiOK P t ti)
include hT

theorem partT_ok {t : Nat} {cs : List DV} {off : Nat} {x : DV} (h : partT T t cs off = some x) {vs : Array Value} (hv : VRL ρ m cs vs.toList) (h1 : ∀ u ∈ vs.toList, u.oneCell' = true) (w : World) :
    ∃ v, (part t vs off).run P w = .ok v w ∧ VR ρ m x v := by
  unfold partT at h
  split at h
  · rename_i ti ht
    have hk := hT t ti ht
    obtain ⟨ha, hb⟩ := run_part hk (w := w) vs off
    split at h
    · rename_i fs hd
      simp only [Option.some.injEq] at h; subst h
      exact ⟨_, ha (by rw [hd]; rfl), hv.aggPart h1 off ti.size⟩
    · rename_i n e hd
      simp only [Option.some.injEq] at h; subst h
      exact ⟨_, ha (by rw [hd]; rfl), hv.aggPart h1 off ti.size⟩
    · rename_i hn1 hn2
      obtain ⟨v, h2, h3⟩ := hv.get off x h
      refine ⟨v, hb ?_ v (by simpa using h2), h3⟩
      cases hd : ti.d <;> first | rfl | exact absurd hd (hn1 _) | exact absurd hd (hn2 _ _)
  · simp at h

theorem eqF_ok {d : Nat} {f : Nat → DV → DV → Option Bool}
    (hf : ∀ t x y b a c (w : World), f t x y = some b → VR ρ m x a → VR ρ m y c → (Op.equalIn d t a c).run P w = .ok b w) : ∀ (fs : List Field) (xs ys : List DV) (b : Bool) (as' bs : Array Value) (w : World),
    eqF T f (fs.map fun f => (f.offset, f.type)) xs ys = some b → (∀ f ∈ fs, f.name ≠ "_") → VRL ρ m xs as'.toList → VRL ρ m ys bs.toList → (∀ u ∈ as'.toList, u.oneCell' = true) → (∀ u ∈ bs.toList, u.oneCell' = true) →
    (Op.eqFields d as' bs fs).run P w = .ok b w
  | [], xs, ys, b, as', bs, w, h, hn, hx, hy, h1, h2 => by
    simp [eqF] at h; subst h; simp [Op.eqFields]
  | g :: fs, xs, ys, b, as', bs, w, h, hn, hx, hy, h1, h2 => by
    simp only [List.map_cons, eqF] at h
    split at h
    · rename_i a c ha hc
      obtain ⟨va, ka, ra⟩ := partT_ok hT ha hx h1 w
      obtain ⟨vc, kc, rc⟩ := partT_ok hT hc hy h2 w
      have hg : g.name ≠ "_" := hn g (by simp)
      simp only [Op.eqFields, if_pos hg, Sem.run_bind, ka, kc, Result.andThen_ok]
      split at h
      · rename_i he
        rw [hf _ _ _ _ _ _ w he ra rc]
        simp only [Result.andThen_ok, Bool.not_true, Bool.false_eq_true, if_false]
        exact eqF_ok hf fs xs ys b as' bs w h (fun f hf => hn f (by simp [hf])) hx hy h1 h2
      · rename_i he
        rw [hf _ _ _ _ _ _ w he ra rc]
        simp only [Option.some.injEq] at h; subst h
        simp
      · simp at h
    · simp at h

theorem eqT_ok : ∀ (d D : Nat) (t : Nat) (x y : DV) (b : Bool) (a c : Value) (w : World), d ≤ D → eqT T d t x y = some b → VR ρ m x a → VR ρ m y c → (Op.equalIn D t a c).run P w = .ok b w
  | 0, _, _, _, _, _, _, _, _, _, h, _, _ => by simp [eqT] at h
  | d + 1, 0, _, _, _, _, _, _, _, hle, _, _, _ => by omega
  | d + 1, D + 1, t, x, y, b, a, c, w, hle, h, hx, hy => by
    unfold eqT at h
    split at h
    · simp at h
    · rename_i ti ht
      have hk := hT t ti ht
      obtain ⟨dd, hu, hd⟩ := hk.desc
      split at h <;> (try (simp at h; done)) <;> (rename_i he; rw [he] at hd; simp only [TdOK] at hd)
      · subst hd; simp only [VR] at hx hy; subst hx hy
        simp only [Option.some.injEq] at h; subst h
        simp [Op.equalIn, run_underlying hu]
      · subst hd; simp only [VR] at hx hy; subst hx hy
        split at h
        · rename_i hkk; subst hkk
          simp only [Option.some.injEq] at h; subst h
          simp [Op.equalIn, run_underlying hu]
        · simp at h
      · subst hd; simp only [VR] at hx hy; subst hx hy
        simp only [Option.some.injEq] at h; subst h
        rw [run_equalIn_string w D t _ _ hu, toArr, toArr]
      · subst hd; simp only [VR] at hx hy; subst hx hy
        simp only [Option.some.injEq] at h; subst h
        simp [Op.equalIn, run_underlying hu]
      · subst hd; simp only [VR] at hx hy; subst hx
        obtain ⟨p, cap, _, _, _, rfl⟩ := hy
        simp only [Option.some.injEq] at h; subst h
        simp [Op.equalIn, run_underlying hu]
      · subst hd; simp only [VR] at hx hy; subst hy
        obtain ⟨p, cap, _, _, _, rfl⟩ := hx
        simp only [Option.some.injEq] at h; subst h
        simp [Op.equalIn, run_underlying hu]
      · subst hd; simp only [VR] at hx hy; subst hx
        obtain ⟨aa, cap, _, rfl, _, hh⟩ := hy
        simp only [Option.some.injEq] at h; subst h
        rcases hh with hh | ⟨_, _, _, _, rfl, _⟩
        · simp at hh
        · simp [Op.equalIn, run_underlying hu]
      · subst hd; simp only [VR] at hx hy; subst hy
        obtain ⟨aa, cap, _, rfl, _, hh⟩ := hx
        simp only [Option.some.injEq] at h; subst h
        rcases hh with hh | ⟨_, _, _, _, rfl, _⟩
        · simp at hh
        · simp [Op.equalIn, run_underlying hu]
      · obtain ⟨ms, rfl⟩ := hd; simp only [VR] at hx hy; subst hx hy
        simp only [Option.some.injEq] at h; subst h
        simp [Op.equalIn, run_underlying hu]
      · obtain ⟨ms, rfl⟩ := hd; simp only [VR] at hx hy; subst hx
        obtain ⟨x', rfl, _⟩ := hy
        simp only [Option.some.injEq] at h; subst h
        simp [Op.equalIn, run_underlying hu]
      · obtain ⟨ms, rfl⟩ := hd; simp only [VR] at hx hy; subst hy
        obtain ⟨x', rfl, _⟩ := hx
        simp only [Option.some.injEq] at h; subst h
        simp [Op.equalIn, run_underlying hu]
      · obtain ⟨fields, rfl, rfl, hn, hs, hg⟩ := hd
        simp only [VR] at hx hy
        obtain ⟨va, rfl, ka, oa⟩ := hx
        obtain ⟨vb, rfl, kb, ob⟩ := hy
        have hf : P.fieldsOf t = fields := by simp [Program.fieldsOf, hu]
        rw [run_equalIn_struct (P := P) w D t va vb (by rw [hf]; exact hu) hs, hf]
        exact eqF_ok hT (fun t x y b a c w h hx hy => eqT_ok d D t x y b a c w (by omega) h hx hy) fields.toList _ _ b va vb w h hn ka kb oa ob

end

end Go.Det
end

section
set_option linter.unusedVariables false
set_option linter.unusedSimpArgs false
namespace Go.Det

section
variable {P : Program} {ρ : Rho} {m : Ro} {T : Nat → Option Ti} (hT : ∀ t ti, T t = some ti → TiOK P t ti)
include hT

theorem guard_ok {op : BinOp} {t : Nat} {x y : DV} {b : Bool} {xo yo : Operand} {a c : Value} (h : eqT T 20 t x y = some b) (hx : VR ρ m x a) (hy : VR ρ m y c) (hn : nilPair x y = true → (isC xo || isC yo) = true) (w : World) :
    (eqGuard op t xo yo a c).run P w = .ok () w := by
  unfold eqT at h
  split at h
  · simp at h
  · rename_i ti ht
    have hk := hT t ti ht
    obtain ⟨dd, hu, hd⟩ := hk.desc
    split at h <;> (try (simp at h; done)) <;> (rename_i he; rw [he] at hd; simp only [TdOK] at hd)
    · simp only [VR] at hx hy; subst hx hy; cases op <;> simp [eqGuard]
    · simp only [VR] at hx hy; subst hx hy; cases op <;> simp [eqGuard]
    · simp only [VR] at hx hy; subst hx hy; cases op <;> simp [eqGuard]
    · simp only [VR] at hx hy; subst hx hy; cases op <;> simp [eqGuard]
    · simp only [VR] at hx hy; subst hx; obtain ⟨p, cap, _, _, _, rfl⟩ := hy; cases op <;> simp [eqGuard]
    · simp only [VR] at hx hy; subst hy; obtain ⟨p, cap, _, _, _, rfl⟩ := hx; cases op <;> simp [eqGuard]
    · simp only [VR] at hx hy; subst hx; obtain ⟨aa, cap, _, rfl, _⟩ := hy; cases op <;> simp [eqGuard]
    · simp only [VR] at hx hy; subst hy; obtain ⟨aa, cap, _, rfl, _⟩ := hx; cases op <;> simp [eqGuard]
    · simp only [VR] at hx hy; subst hx hy
      have := hn rfl
      simp only [Bool.or_eq_true] at this
      rcases this with hc | hc
      · cases xo <;> simp only [isC] at hc <;> first | (exact absurd hc (by decide)) | (cases op <;> simp [eqGuard])
      · cases yo <;> simp only [isC] at hc <;> first | (exact absurd hc (by decide)) | (cases op <;> simp [eqGuard])
    · simp only [VR] at hx hy; subst hx; obtain ⟨x', rfl, _⟩ := hy; cases op <;> simp [eqGuard]
    · simp only [VR] at hx hy; subst hy; obtain ⟨x', rfl, _⟩ := hx; cases op <;> simp [eqGuard]
    · obtain ⟨fields, rfl, rfl, hn', hs, hg, _⟩ := hd
      simp only [VR] at hx hy
      obtain ⟨va, rfl, ka, oa⟩ := hx
      obtain ⟨vb, rfl, kb, ob⟩ := hy
      exact run_eqGuard_agg w op t xo yo va vb hg

theorem eqlOp_ok {t : Nat} {x y : DV} {b : Bool} {a c : Value} (h : eqT T 20 t x y = some b) (hx : VR ρ m x a) (hy : VR ρ m y c) (w : World)
    (hi : ∀ k n k' n', ¬ (x = .int k n ∧ y = .int k' n')) (hs : ∀ s s', ¬ (x = .str s ∧ y = .str s')) :
    (Go.binOp .eql t a c).run P w = .ok (.bool b) w ∧ (Go.binOp .neq t a c).run P w = .ok (.bool (!b)) w := by
  have he := eqT_ok hT 20 10000 t x y b a c w (by omega) h hx hy
  have key : Go.binOp .eql t a c = (do pure (.bool (← Op.equal t a c))) ∧ Go.binOp .neq t a c = (do pure (.bool (!(← Op.equal t a c)))) := by
    unfold eqT at h
    split at h
    · simp at h
    · split at h <;> (try (simp at h; done))
      · simp only [VR] at hx hy; subst hx hy; exact ⟨rfl, rfl⟩
      · exact absurd ⟨rfl, rfl⟩ (hi _ _ _ _)
      · exact absurd ⟨rfl, rfl⟩ (hs _ _)
      · simp only [VR] at hx hy; subst hx hy; exact ⟨rfl, rfl⟩
      · simp only [VR] at hx hy; subst hx; obtain ⟨p, cap, _, _, _, rfl⟩ := hy; exact ⟨rfl, rfl⟩
      · simp only [VR] at hx hy; subst hy; obtain ⟨p, cap, _, _, _, rfl⟩ := hx; exact ⟨rfl, rfl⟩
      · simp only [VR] at hx hy; subst hx; obtain ⟨aa, cap, _, rfl, _⟩ := hy; exact ⟨rfl, rfl⟩
      · simp only [VR] at hx hy; subst hy; obtain ⟨aa, cap, _, rfl, _⟩ := hx; exact ⟨rfl, rfl⟩
      · simp only [VR] at hx hy; subst hx hy; exact ⟨rfl, rfl⟩
      · simp only [VR] at hx hy; subst hx; obtain ⟨x', rfl, _⟩ := hy; exact ⟨rfl, rfl⟩
      · simp only [VR] at hx hy; subst hy; obtain ⟨x', rfl, _⟩ := hx; exact ⟨rfl, rfl⟩
      · simp only [VR] at hx hy
        obtain ⟨va, rfl, ka, oa⟩ := hx
        obtain ⟨vb, rfl, kb, ob⟩ := hy
        exact ⟨rfl, rfl⟩
  rw [key.1, key.2]
  simp only [Sem.run_bind, Op.equal, Op.maxDepth, he, Result.andThen_ok, Sem.run_pure, and_self]

theorem binOp_ok {op : BinOp} {t : Nat} {x y z : DV} {xo yo : Operand} {a c : Value} (h : binOp T op t x y = some z) (hx : VR ρ m x a) (hy : VR ρ m y c) (hn : nilPair x y = true → (isC xo || isC yo) = true) (w : World) :
    ∃ v, (do eqGuard op t xo yo a c; Go.binOp op t a c : Sem Value).run P w = .ok v w ∧ VR ρ m z v := by
  unfold binOp at h
  split at h
  · rename_i k n k' n'
    simp only [VR] at hx hy; subst hx hy
    have hg : (eqGuard op t xo yo (.int k n) (.int k' n')).run P w = .ok () w := by cases op <;> simp [eqGuard]
    simp only [Sem.run_bind, hg, Result.andThen_ok]
    split at h
    · exact shiftOp_ok h t w
    · exact shiftOp_ok h t w
    · rename_i h1 h2
      split at h
      · rename_i e; subst e
        exact intOp_ok h h1 h2 t w
      · simp at h
  · rename_i s s'
    simp only [VR] at hx hy; subst hx hy
    have hg : (eqGuard op t xo yo (.string ⟨s.toArray⟩) (.string ⟨s'.toArray⟩)).run P w = .ok () w := by cases op <;> simp [eqGuard]
    simp only [Sem.run_bind, hg, Result.andThen_ok]
    exact strOp_ok h t w
  · rename_i hni hns
    split at h
    · simp only [Option.map_eq_some_iff] at h
      obtain ⟨b, hb, rfl⟩ := h
      have := eqlOp_ok hT hb hx hy w (fun k n k' n' ⟨e1, e2⟩ => hni k n k' n' e1 e2) (fun s s' ⟨e1, e2⟩ => hns s s' e1 e2)
      exact ⟨_, by simp only [Sem.run_bind, guard_ok hT hb hx hy hn w, Result.andThen_ok]; exact this.1, rfl⟩
    · simp only [Option.map_eq_some_iff] at h
      obtain ⟨b, hb, rfl⟩ := h
      have := eqlOp_ok hT hb hx hy w (fun k n k' n' ⟨e1, e2⟩ => hni k n k' n' e1 e2) (fun s s' ⟨e1, e2⟩ => hns s s' e1 e2)
      exact ⟨_, by simp only [Sem.run_bind, guard_ok hT hb hx hy hn w, Result.andThen_ok]; exact this.2, rfl⟩
    · simp at h

omit hT in
theorem unOp_ok {op : UnOp} {x z : DV} {a : Value} (h : unOp op x = some z) (hx : VR ρ m x a) (w : World) : ∃ v, (Op.unary op a).run P w = .ok v w ∧ VR ρ m z v := by
  unfold unOp at h
  split at h
  · simp only [VR] at hx; subst hx
    simp only [intOp, Option.some.injEq] at h; subst h
    exact ⟨_, by simp [Op.unary, Op.intArith], rfl⟩
  · simp only [VR] at hx; subst hx
    simp only [intOp, Option.some.injEq] at h; subst h
    refine ⟨_, ?_, rfl⟩
    simp [Op.unary, Op.intBits]
  · simp only [VR] at hx; subst hx
    simp only [Option.some.injEq] at h; subst h
    exact ⟨_, by simp [Op.unary], rfl⟩
  · simp at h

omit hT in
theorem asNat_ok {x : DV} {n : Nat} {a : Value} (h : asNat x = some n) (hx : VR ρ m x a) : ∃ k i, a = .int k i ∧ 0 ≤ i ∧ i.toNat = n := by
  unfold asNat at h
  split at h
  · split at h
    · rename_i h0
      simp only [VR] at hx; subst hx
      simp only [Option.some.injEq] at h
      exact ⟨_, _, rfl, h0, h⟩
    · simp at h
  · simp at h

theorem fieldOp_ok {t : Nat} {x z : DV} {f : Nat} {a : Value} (h : fieldOp T t x f = some z) (hx : VR ρ m x a) (w : World) : ∃ v, (Instr.field t a f).run P w = .ok v w ∧ VR ρ m z v := by
  unfold fieldOp at h
  split at h
  · rename_i ti cs ht
    have hk := hT t ti ht
    obtain ⟨dd, hu, hd⟩ := hk.desc
    split at h
    · rename_i fs he
      rw [he] at hd; simp only [TdOK] at hd
      obtain ⟨fields, rfl, rfl, _⟩ := hd
      split at h
      · rename_i off ft hf
        simp only [VR] at hx
        obtain ⟨vs, rfl, kv, ov⟩ := hx
        obtain ⟨v, h1, h2⟩ := partT_ok hT h kv ov w
        refine ⟨v, ?_, h2⟩
        simp only [List.getElem?_map, Option.map_eq_some_iff] at hf
        obtain ⟨g, hg, he⟩ := hf
        simp only [Prod.mk.injEq] at he
        obtain ⟨rfl, rfl⟩ := he
        have hg' : fields[f]? = some g := by simpa using hg
        simp only [Instr.field, Sem.run_bind, run_underlying hu, Result.andThen_ok, hg', asAgg, Sem.run_pure, h1]
      · simp at h
    · simp at h
  · simp at h

theorem indexOp_ok {t : Nat} {x i z : DV} {a b : Value} (h : indexOp T t x i = some z) (hx : VR ρ m x a) (hi : VR ρ m i b) (w : World) : ∃ v, (Instr.index t a b).run P w = .ok v w ∧ VR ρ m z v := by
  unfold indexOp at h
  split at h
  · rename_i n ti hn ht
    obtain ⟨k, j, rfl, hj0, hjn⟩ := asNat_ok hn hi
    have hk := hT t ti ht
    obtain ⟨dd, hu, hd⟩ := hk.desc
    split at h
    · rename_i s he
      rw [he] at hd; simp only [TdOK] at hd; subst hd
      simp only [VR] at hx; subst hx
      simp only [Option.map_eq_some_iff] at h
      obtain ⟨c, hc, rfl⟩ := h
      refine ⟨.int .u8 c.toNat, ?_, rfl⟩
      have hget : (⟨s.toArray⟩ : ByteArray)[j.toNat]? = some c := by
        rw [hjn]
        obtain ⟨hl, hv⟩ := List.getElem?_eq_some_iff.1 hc
        have : n < (⟨s.toArray⟩ : ByteArray).size := hl
        rw [getElem?_pos (⟨s.toArray⟩ : ByteArray) n this]
        exact congrArg some hv
      simp only [Instr.index, asIntOf, Sem.run_bind, Sem.run_pure, Result.andThen_ok, run_underlying hu, hj0, if_true, hget]
    · rename_i len e cs he
      rw [he] at hd; simp only [TdOK] at hd; subst hd
      simp only [VR] at hx
      obtain ⟨vs, rfl, kv, ov⟩ := hx
      split at h
      · rename_i hlt
        split at h
        · rename_i te hte
          obtain ⟨v, h1, h2⟩ := partT_ok hT h kv ov w
          refine ⟨v, ?_, h2⟩
          have hc : 0 ≤ j ∧ j < (len : Int) := ⟨hj0, by omega⟩
          simp only [Instr.index, asIntOf, Sem.run_bind, Sem.run_pure, Result.andThen_ok, run_underlying hu, hc, and_self, if_true, Sem.run_ite, run_size (hT e te hte), hjn]
          exact h1
        · simp at h
      · simp at h
    · simp at h
  · simp at h

theorem lenOp_ok {t : Nat} {x z : DV} {a : Value} (h : lenOp T t x = some z) (hx : VR ρ m x a) (ts : Array TypeId) (h0 : ts[0]? = some t) (ty : TypeId) (w : World) :
    ∃ v, (Builtin.len_ ts ty #[a]).run P w = .ok v w ∧ VR ρ m z v := by
  unfold lenOp at h
  split at h
  · simp at h
  · rename_i ti ht
    have hk := hT t ti ht
    obtain ⟨dd, hu, hd⟩ := hk.desc
    have hb : ∀ k : Sem Value, ((do
      let (some t, some x) := (ts[0]?, (#[a] : Array Value)[0]?) | stuck "len: one argument expected"
      k) : Sem Value) = k := by intro k; simp [h0]
    split at h <;> (try (simp at h; done)) <;> (rename_i he; rw [he] at hd; simp only [TdOK] at hd; subst hd; simp only [Option.some.injEq] at h; subst h; simp only [VR] at hx)
    · subst hx
      exact ⟨_, by simp [Builtin.len_, h0, run_underlying hu]; rfl, rfl⟩
    · subst hx
      exact ⟨_, by simp [Builtin.len_, h0, run_underlying hu]; rfl, rfl⟩
    · obtain ⟨aa, cap, _, rfl, _⟩ := hx
      exact ⟨_, by simp [Builtin.len_, h0, run_underlying hu]; rfl, rfl⟩
    · obtain ⟨p, cap, _, _, _, rfl⟩ := hx
      exact ⟨_, by simp [Builtin.len_, h0, run_underlying hu]; rfl, rfl⟩
    · subst hx
      exact ⟨_, by simp [Builtin.len_, h0, run_underlying hu]; rfl, rfl⟩
end

end Go.Det
end

section
set_option linter.unusedVariables false
set_option linter.unusedSimpArgs false
namespace Go.Det

theorem add_at (r o k : Nat) : (⟨r, o, none⟩ : Addr).add k = ⟨r, o + k, none⟩ := by
  unfold Addr.add; split
  · rename_i e; subst e; rfl
  · rfl

section
variable {P : Program} {ρ : Rho} {m : Ro}

theorem bound_none {d y : Nat} {n : Nat} (h : bound none d y = some n) : n = d := by simpa [bound, eq_comm] using h
theorem bound_some {x : DV} {d y n : Nat} {a : Value} (h : bound (some x) d y = some n) (hx : VR ρ m x a) : n ≤ y ∧ ∃ k i, a = .int k i ∧ 0 ≤ i ∧ i.toNat = n := by
  unfold bound at h
  simp only at h
  split at h
  · rename_i k hk
    split at h
    · rename_i hle
      simp only [Option.some.injEq] at h; subst h
      exact ⟨hle, asNat_ok hk hx⟩
    · simp at h
  · simp at h

theorem run_bound {a : Value} {y n : Nat} (ha : ∃ k i, a = .int k i ∧ 0 ≤ i ∧ i.toNat = n) (hn : n ≤ y) (code : BoundsCode) (w : World) : (Instr.sliceBound a y code).run P w = .ok n w := by
  obtain ⟨k, i, rfl, h0, rfl⟩ := ha
  have hc : 0 ≤ i ∧ i ≤ (y : Int) := ⟨h0, by omega⟩
  simp only [Instr.sliceBound, asIntOf, Sem.run_bind, Sem.run_pure, Result.andThen_ok, Sem.run_ite, hc, and_self, if_true]

/-- The bounds of a slice expression without a third index. -/
theorem run_bounds {isSlice : Bool} {len cap hn ln : Nat} {lo hi : Option DV} {la ha : Option Value} (hlen : len ≤ cap) (h1 : bound hi len len = some hn) (h2 : bound lo 0 hn = some ln)
    (hha : (hi = none ∧ ha = none) ∨ ∃ x a, hi = some x ∧ ha = some a ∧ VR ρ m x a) (hla : (lo = none ∧ la = none) ∨ ∃ x a, lo = some x ∧ la = some a ∧ VR ρ m x a) (w : World) :
    ln ≤ hn ∧ hn ≤ len ∧ (Instr.sliceBounds isSlice len cap la ha none).run P w = .ok (ln, hn, cap) w := by
  have e1 : hn ≤ len ∧ ∀ w' : World, ((match ha, (none : Option Value) with
      | some v, some _ => Instr.sliceBound v cap .slice3B
      | some v, none => Instr.sliceBound v cap (if isSlice then .sliceAcap else .sliceAlen)
      | none, none => pure len
      | none, some _ => stuck "Slice: max without high") : Sem Nat).run P w' = .ok hn w' := by
    rcases hha with ⟨rfl, rfl⟩ | ⟨x, a, rfl, rfl, hx⟩
    · have := bound_none h1; subst this
      exact ⟨Nat.le_refl _, fun _ => rfl⟩
    · obtain ⟨h3, h4⟩ := bound_some h1 hx
      exact ⟨h3, fun w' => run_bound h4 (by omega) _ w'⟩
  have e2 : ln ≤ hn ∧ ∀ w' : World, ((match la with
      | some v => Instr.sliceBound v hn .sliceB
      | none => pure 0) : Sem Nat).run P w' = .ok ln w' := by
    rcases hla with ⟨rfl, rfl⟩ | ⟨x, a, rfl, rfl, hx⟩
    · have := bound_none h2; subst this
      exact ⟨by omega, fun _ => rfl⟩
    · obtain ⟨h3, h4⟩ := bound_some h2 hx
      exact ⟨h3, fun w' => run_bound h4 h3 _ w'⟩
  refine ⟨e2.1, e1.1, ?_⟩
  have k1 := e1.2 w
  have k2 := e2.2 w
  rcases ha with _ | va <;> rcases la with _ | vb <;> simp only [Sem.run_pure, Result.ok.injEq, and_true] at k1 k2 <;>
    simp [Instr.sliceBounds, k1, k2]

theorem mentsL_take (n : Nat) {l : List DV} (h : mentsL l = []) : mentsL (l.take n) = [] :=
  mentsL_nil_iff.2 fun x hx => mentsL_nil_iff.1 h x (List.mem_of_mem_take hx)
theorem mentsL_drop (n : Nat) {l : List DV} (h : mentsL l = []) : mentsL (l.drop n) = [] :=
  mentsL_nil_iff.2 fun x hx => mentsL_nil_iff.1 h x (List.mem_of_mem_drop hx)
theorem VRE.take {n : Nat} (k : Nat) {l : List DV} {c : Array Value} {o : Nat} (h : VRE ρ m n l c o) : VRE ρ m n (l.take k) c o :=
  VRE.of_get fun i x hx => VRE.get h i x (by
    rw [List.getElem?_take] at hx
    split at hx
    · exact hx
    · cases hx)
theorem VRE.drop {n : Nat} (k : Nat) {l : List DV} {c : Array Value} {o : Nat} (h : VRE ρ m n l c o) : VRE ρ m n (l.drop k) c (o + k * n) :=
  VRE.of_get fun i x hx => by
    rw [List.getElem?_drop] at hx
    obtain ⟨v, h1, h2, h3, h4⟩ := VRE.get h _ x hx
    exact ⟨v, h1, h2, h3, fun j u hu => by rw [show o + k * n + i * n + j = o + (k + i) * n + j by rw [Nat.add_mul]; omega]; exact h4 j u hu⟩

variable {T : Nat → Option Ti} (hT : ∀ t ti, T t = some ti → TiOK P t ti)
include hT

theorem sliceOp_ok {t : Nat} {x z : DV} {lo hi : Option DV} {a : Value} {la ha : Option Value} (h : sliceOp T t x lo hi = some z) (hx : VR ρ m x a)
    (hla : (lo = none ∧ la = none) ∨ ∃ x a, lo = some x ∧ la = some a ∧ VR ρ m x a) (hha : (hi = none ∧ ha = none) ∨ ∃ x a, hi = some x ∧ ha = some a ∧ VR ρ m x a) (w : World) :
    ∃ v, (Instr.sliceAt t a la ha none).run P w = .ok v w ∧ VR ρ m z v := by
  unfold sliceOp at h
  split at h
  · simp at h
  · rename_i ti ht
    have hk := hT t ti ht
    obtain ⟨dd, hu, hd⟩ := hk.desc
    split at h <;> (try (simp at h; done)) <;> (rename_i he; rw [he] at hd; simp only [TdOK] at hd; subst hd)
    · rename_i s
      simp only [VR] at hx; subst hx
      split at h
      · rename_i hn h1
        split at h
        · rename_i ln h2
          simp only [Option.some.injEq] at h; subst h
          obtain ⟨k1, k2, k3⟩ := run_bounds (P := P) (isSlice := false) (Nat.le_refl _) h1 h2 hha hla w
          refine ⟨.string ((⟨s.toArray⟩ : ByteArray).extract ln hn), ?_, ?_⟩
          · simp only [Instr.sliceAt, Instr.slice, Sem.run_bind, run_underlying hu, Result.andThen_ok]
            have : (⟨s.toArray⟩ : ByteArray).size = s.length := rfl
            simp [this, k3]
          · simp only [VR, Value.string.injEq]
            rw [Lib.extract_eq]
            congr 2
            rw [List.drop_take]
        · simp at h
      · simp at h
    · rename_i e
      simp only [VR] at hx; subst hx
      split at h
      · simp at h
      · rename_i te hte
        split at h
        · rename_i hn h1
          split at h
          · rename_i ln h2
            simp only [Option.some.injEq] at h; subst h
            obtain ⟨k1, k2, k3⟩ := run_bounds (P := P) (isSlice := true) (Nat.le_refl _) h1 h2 hha hla w
            have hn0 : hn = 0 := by omega
            have ln0 : ln = 0 := by omega
            subst hn0 ln0
            refine ⟨.slice none 0 0, ?_, rfl⟩
            simp [Instr.sliceAt, Instr.slice, run_underlying hu, k3, run_size (hT e te hte)]
          · simp at h
        · simp at h
    · rename_i e n es
      simp only [VR] at hx
      obtain ⟨aa, cap, hcap, rfl, hm, hes⟩ := hx
      split at h
      · simp at h
      · rename_i te hte
        split at h
        · simp at h
        · rename_i hsz
          have hsz' : te.size = n := by omega
          split at h
          · rename_i hn h1
            split at h
            · rename_i ln h2
              simp only [Option.some.injEq] at h; subst h
              obtain ⟨k1, k2, k3⟩ := run_bounds (P := P) (isSlice := true) hcap h1 h2 hha hla w
              refine ⟨.slice (if cap = ln then aa else aa.map (·.add (ln * n))) (hn - ln) (cap - ln), ?_, ?_⟩
              · simp [Instr.sliceAt, Instr.slice, run_underlying hu, k3, run_size (hT e te hte), hsz']
              · simp only [VR]
                have hl : ((es.take hn).drop ln).length = hn - ln := by simp; omega
                refine ⟨_, cap - ln, by omega, by rw [hl], mentsL_drop _ (mentsL_take _ hm), ?_⟩
                by_cases h0 : hn - ln = 0
                · exact .inl (List.length_eq_zero_iff.1 (by omega))
                · rcases hes with rfl | ⟨r, base, c, g1, rfl, g3⟩
                  · simp at k2; omega
                  · refine .inr ⟨r, base + ln * n, c, g1, ?_, (g3.take hn).drop ln⟩
                    rw [if_neg (by omega)]
                    simp [add_at]
            · simp at h
          · simp at h
    · rename_i e b n off len
      simp only [VR] at hx
      obtain ⟨p, cap, hp, hcap, hsize, rfl⟩ := hx
      split at h
      · simp at h
      · rename_i te hte
        split at h
        · simp at h
        · rename_i hsz
          have hsz' : te.size = n := by omega
          split at h
          · rename_i hn h1
            split at h
            · rename_i ln h2
              obtain ⟨k1, k2, k3⟩ := run_bounds (P := P) (isSlice := true) hcap h1 h2 hha hla w
              refine ⟨.slice (if cap = ln then some ⟨p.blk, p.base + off * n, none⟩ else (some (⟨p.blk, p.base + off * n, none⟩ : Addr)).map (·.add (ln * n))) (hn - ln) (cap - ln), ?_, ?_⟩
              · simp [Instr.sliceAt, Instr.slice, run_underlying hu, k3, run_size (hT e te hte), hsz']
              · split at h
                · rename_i hc
                  simp only [Option.some.injEq] at h; subst h
                  simp only [VR]
                  refine ⟨p, cap - ln, hp, by omega, ?_, ?_⟩
                  · rw [show off + ln + (cap - ln) = off + cap by omega]; exact hsize
                  · by_cases e0 : cap = ln
                    · have : ln = 0 := by omega
                      subst this
                      simp [e0]
                    · rw [if_neg e0]
                      simp [add_at, Nat.add_mul, Nat.add_assoc]
                · rename_i hc
                  simp only [Option.some.injEq] at h; subst h
                  simp only [VR]
                  have : hn - ln = 0 := by omega
                  exact ⟨_, cap - ln, by simp, by rw [this]; rfl, rfl, .inl trivial⟩
            · simp at h
          · simp at h

omit hT in
theorem shiftPtr_ok {x z : DV} {o : Nat} {a : Value} (h : shiftPtr x o = some z) (hx : VR ρ m x a) : ∃ ad : Addr, a = .pointer (some ad) ∧ VR ρ m z (.pointer (some (ad.add o))) := by
  unfold shiftPtr at h
  split at h
  · split at h
    · simp only [Option.some.injEq] at h; subst h
      simp only [VR] at hx ⊢
      obtain ⟨p, hp, rfl⟩ := hx
      exact ⟨_, rfl, p, hp, by rw [add_at]; simp [Nat.add_assoc]⟩
    · simp at h
  · split at h
    · simp only [Option.some.injEq] at h; subst h
      simp only [VR] at hx ⊢
      obtain ⟨r, base, c, g1, g2, g3, g4, rfl⟩ := hx
      exact ⟨_, rfl, r, base, c, g1, g2, g3, g4, by rw [add_at]; simp [Nat.add_assoc]⟩
    · simp at h
  · simp only [Option.some.injEq] at h; subst h
    simp only [VR] at hx ⊢
    subst hx
    exact ⟨_, rfl, by rw [add_at]⟩
  · simp at h

theorem fieldAddrOp_ok {t : Nat} {x z : DV} {f : Nat} {a : Value} (h : fieldAddrOp T t x f = some z) (hx : VR ρ m x a) (w : World) : ∃ v, (Instr.fieldAt t a f).run P w = .ok v w ∧ VR ρ m z v := by
  unfold fieldAddrOp at h
  split at h
  · rename_i ti ht
    have hk := hT t ti ht
    obtain ⟨dd, hu, hd⟩ := hk.desc
    split at h
    · rename_i fs he
      rw [he] at hd; simp only [TdOK] at hd
      obtain ⟨fields, rfl, rfl, _⟩ := hd
      split at h
      · rename_i off ft hf
        split at h
        · rename_i tf htf
          split at h
          · simp at h
          · rename_i hsz
            obtain ⟨ad, rfl, hz⟩ := shiftPtr_ok h hx
            simp only [List.getElem?_map, Option.map_eq_some_iff] at hf
            obtain ⟨g, hg, hge⟩ := hf
            simp only [Prod.mk.injEq] at hge
            obtain ⟨rfl, rfl⟩ := hge
            have hg' : fields[f]? = some g := by simpa using hg
            refine ⟨_, ?_, hz⟩
            simp [Instr.fieldAt, run_underlying hu, hg', Instr.sureAddr, fieldPlace, run_size (hT _ tf htf), hsz]
        · simp at h
      · simp at h
    · simp at h
  · simp at h

theorem indexAddrOp_ok {t : Nat} {x i z : DV} {a b : Value} (h : indexAddrOp T t x i = some z) (hx : VR ρ m x a) (hi : VR ρ m i b) (w : World) : ∃ v, (Instr.indexAt t a b).run P w = .ok v w ∧ VR ρ m z v := by
  unfold indexAddrOp at h
  split at h
  · rename_i k n es hn
    obtain ⟨kk, j, rfl, hj0, hjn⟩ := asNat_ok hn hi
    split at h
    · rename_i ti ht
      obtain ⟨dd, hu, hd⟩ := (hT t ti ht).desc
      split at h
      · rename_i e he
        rw [he] at hd; simp only [TdOK] at hd; subst hd
        split at h
        · rename_i te hte
          split at h
          · rename_i hc
            obtain ⟨hc1, hc2⟩ := hc
            simp only [Option.some.injEq] at h; subst h
            simp only [VR] at hx
            obtain ⟨aa, cap, hcap, rfl, hm, hes⟩ := hx
            rcases hes with rfl | ⟨r, base, c, g1, rfl, g3⟩
            · simp at hc2
            · have hlt : 0 ≤ j ∧ j < (es.length : Int) := ⟨hj0, by omega⟩
              refine ⟨.pointer (some ⟨r, base + k * n, none⟩), ?_, ?_⟩
              · simp [Instr.indexAt, asIntOf, run_underlying hu, hlt, run_size (hT e te hte), hc1, hjn, add_at]
              · simp only [VR]
                exact ⟨r, base, c, g1, hm, g3, hc2, by simp⟩
          · simp at h
        · simp at h
      · simp at h
    · simp at h
  · rename_i k bb n off len hn
    obtain ⟨kk, j, rfl, hj0, hjn⟩ := asNat_ok hn hi
    split at h
    · rename_i ti ht
      obtain ⟨dd, hu, hd⟩ := (hT t ti ht).desc
      split at h
      · rename_i e he
        rw [he] at hd; simp only [TdOK] at hd; subst hd
        split at h
        · rename_i te hte
          split at h
          · rename_i hc
            obtain ⟨hc1, hc2⟩ := hc
            simp only [Option.some.injEq] at h; subst h
            simp only [VR] at hx
            obtain ⟨p, cap, hp, hcap, hsize, rfl⟩ := hx
            have hlt : 0 ≤ j ∧ j < (len : Int) := ⟨hj0, by omega⟩
            refine ⟨.pointer (some ⟨p.blk, p.base + off * n + k * n, none⟩), ?_, ?_⟩
            · simp [Instr.indexAt, asIntOf, run_underlying hu, hlt, run_size (hT e te hte), hc1, hjn, add_at]
            · simp only [VR]
              exact ⟨p, hp, by simp [Nat.add_mul, Nat.add_assoc]⟩
          · simp at h
        · simp at h
      · simp at h
    · simp at h
  · rename_i k x' hn hnp hnr
    obtain ⟨kk, j, rfl, hj0, hjn⟩ := asNat_ok hn hi
    split at h
    · rename_i ti ht
      obtain ⟨dd, hu, hd⟩ := (hT t ti ht).desc
      split at h
      · rename_i len e he
        rw [he] at hd; simp only [TdOK] at hd; subst hd
        split at h
        · rename_i te hte
          split at h
          · rename_i hc
            obtain ⟨hc1, hc2⟩ := hc
            obtain ⟨ad, rfl, hz⟩ := shiftPtr_ok h hx
            have hlt : 0 ≤ j ∧ j < (len : Int) := ⟨hj0, by omega⟩
            refine ⟨_, ?_, hz⟩
            simp [Instr.indexAt, asIntOf, run_underlying hu, Instr.sureAddr, hlt, run_size (hT e te hte), hjn]
          · simp at h
        · simp at h
      · simp at h
    · simp at h
  · simp at h
end
end Go.Det
end

section
set_option linter.unusedVariables false
set_option linter.unusedSimpArgs false
namespace Go.Det

section
variable {P : Program} {ρ : Rho} {m : Ro}

theorem VRL.over : ∀ {l : List DV} {ls : List Value} {cs : List DV} {c : Array Value} (o : Nat), VRL ρ m cs c.toList → VRL ρ m l ls → VRL ρ m (over cs o l) (overA c o ls).toList
  | [], ls, cs, c, o, h, k => by simp only [VRL] at k; subst k; exact h
  | x :: l, ls, cs, c, o, h, k => by
    simp only [VRL] at k
    obtain ⟨v, r, rfl, k1, k2⟩ := k
    exact VRL.over (o + 1) (by simpa using VRL.set k1 o h) k2
theorem overA_one : ∀ (l : List Value) (c : Array Value) (o : Nat), (∀ u ∈ c.toList, u.oneCell' = true) → (∀ u ∈ l, u.oneCell' = true) → ∀ u ∈ (overA c o l).toList, u.oneCell' = true
  | [], c, o, h, _ => h
  | v :: l, c, o, h, k => overA_one l _ (o + 1) (by
      intro u hu
      rw [Array.toList_setIfInBounds] at hu
      rcases List.mem_or_eq_of_mem_set hu with hu | rfl
      · exact h u hu
      · exact k _ (by simp)) (fun u hu => k u (by simp [hu]))
theorem over_length (l : List DV) : ∀ (cs : List DV) (o : Nat), (over cs o l).length = cs.length := by
  induction l with
  | nil => intro cs o; rfl
  | cons x l ih => intro cs o; simp [over, ih]
theorem foldl_over (l : List Value) : ∀ (c : Array Value) (o k : Nat), (l.zipIdx k).foldl (fun cs (p : Value × Nat) => cs.setIfInBounds (o + p.2) p.1) c = overA c (o + k) l := by
  induction l with
  | nil => intro c o k; rfl
  | cons v l ih =>
    intro c o k
    simp only [List.zipIdx_cons, List.foldl_cons, overA]
    rw [ih]
    congr 1
inductive PR (ρ : Rho) (m : Ro) : List (Nat × DV) → List (Nat × Value) → Prop
  | nil : PR ρ m [] []
  | cons {i : Nat} {x : DV} {v : Value} {l : List (Nat × DV)} {l' : List (Nat × Value)} : VR ρ m x v → PR ρ m l l' → PR ρ m ((i, x) :: l) ((i, v) :: l')
theorem fill_ok {place : Nat → Option (Nat × Nat)} : ∀ (parts : List (Nat × DV)) (parts' : List (Nat × Value)) {cs z : List DV} {c : Array Value}, fill place cs parts = some z → VRL ρ m cs c.toList → (∀ u ∈ c.toList, u.oneCell' = true) →
    PR ρ m parts parts' →
    ∃ c', Instr.fill place c parts' = some c' ∧ VRL ρ m z c'.toList ∧ (∀ u ∈ c'.toList, u.oneCell' = true) ∧ c'.size = c.size
  | [], parts', cs, z, c, h, hc, h1, hf => by
    cases hf
    simp only [fill, Option.some.injEq] at h; subst h
    exact ⟨c, rfl, hc, h1, rfl⟩
  | (i, x) :: rest, parts', cs, z, c, h, hc, h1, hf => by
    cases hf with
    | cons hv hrest =>
      rename_i v rest'
      simp only [fill] at h
      split at h
      · simp at h
      · rename_i off size hpl
        split at h
        · rename_i hcond
          obtain ⟨hl, h0, hb⟩ := hcond
          obtain ⟨kv, ko⟩ := hv.cells (by intro e; rw [e] at hl; simp at hl; omega)
          have hsz : v.cells.size = size := by have := kv.length; simp at this; omega
          have hcs := hc.length
          simp at hcs
          obtain ⟨c', g1, g2, g3, g4⟩ := fill_ok rest rest' (c := overA c off v.cells.toList) h (VRL.over off hc kv) (overA_one _ _ _ h1 ko) hrest
          refine ⟨c', ?_, g2, g3, by rw [g4, overA_size]⟩
          have hcnd : ¬ (v.cells.size ≠ size ∨ off + v.cells.size > c.size) := by omega
          simp only [Instr.fill, hpl, hsz]
          have hcnd' : ¬ ((size ≠ size || decide (off + size > c.size)) = true) := by simp; omega
          rw [if_neg (by simpa using hcnd')]
          rw [← g1]
          congr 1
          have := foldl_over v.cells.toList c off 0
          simp only [Nat.add_zero] at this
          rw [← this, ← Array.foldl_toList, Array.toList_zipIdx]
        · simp at h

variable {T : Nat → Option Ti} (hT : ∀ t ti, T t = some ti → TiOK P t ti)
include hT

theorem zero_ok {t : Nat} {ti : Ti} (ht : T t = some ti) (h0 : ti.zero ≠ []) : ∃ i z, P.info? t = some i ∧ i.zero = some z ∧ i.size = ti.size ∧ i.bytes = ti.bytes ∧ VRL ρ m ti.zero z.cells.toList ∧ (∀ u ∈ z.cells.toList, u.oneCell' = true) := by
  obtain ⟨i, hi, hs, hb, hz⟩ := (hT t ti ht).info
  obtain ⟨z, k1, k2, k3, k4⟩ := hz h0
  exact ⟨i, z, hi, k1, hs, hb, VRL.mono (m := Ro.none) (fun _ _ h => by cases h) _ (VRL.rho _ (fun b hb => by rw [k4] at hb; cases hb) k2), k3⟩

theorem buildOp_ok {t : Nat} {ps : List (Nat × DV)} {z : DV} {ps' : Array (Nat × Value)} (h : buildOp T t ps = some z) (hf : PR ρ m ps ps'.toList) (w : World) :
    ∃ v, (Instr.build t ps').run P w = .ok v w ∧ VR ρ m z v := by
  unfold buildOp at h
  split at h
  · rename_i ti ht
    obtain ⟨dd, hu, hd⟩ := (hT t ti ht).desc
    split at h
    · rename_i fs he
      rw [he] at hd; simp only [TdOK] at hd
      obtain ⟨fields, rfl, rfl, _, _, _, hinf⟩ := hd
      split at h
      · simp at h
      · rename_i hz0
        simp only [Option.map_eq_some_iff] at h
        obtain ⟨cs, hcs, rfl⟩ := h
        obtain ⟨i, zz, hi, hz, hs, hb, kz, oz⟩ := zero_ok (ρ := ρ) (m := m) hT ht hz0
        obtain ⟨places, hpl⟩ : ∃ places, fields.toList.mapM (fun f => (P.info? f.type).map fun i => (f.offset, i.size)) = some places := by
          clear hcs he hu
          generalize fields.toList = fl at hinf
          induction fl with
          | nil => exact ⟨[], rfl⟩
          | cons f fl ih =>
            obtain ⟨r, hr⟩ := ih (fun g hg => hinf g (by simp [hg]))
            obtain ⟨i', hi'⟩ := Option.isSome_iff_exists.1 (hinf f (by simp))
            exact ⟨(f.offset, i'.size) :: r, by simp [List.mapM_cons, hi', hr]⟩
        have hplace : ∀ k o s, placeOf T (fields.toList.map fun f => (f.offset, f.type)) k = some (o, s) → places[k]? = some (o, s) := by
          intro k o s hk
          unfold placeOf at hk
          split at hk
          · rename_i off ft hft
            split at hk
            · rename_i tf htf
              simp only [Option.some.injEq, Prod.mk.injEq] at hk
              obtain ⟨rfl, rfl⟩ := hk
              simp only [List.getElem?_map, Option.map_eq_some_iff] at hft
              obtain ⟨g, hg, hge⟩ := hft
              simp only [Prod.mk.injEq] at hge
              obtain ⟨rfl, rfl⟩ := hge
              obtain ⟨i', hi', hs', _⟩ := (hT _ tf htf).info
              clear hcs he hu hinf
              generalize fields.toList = fl at hpl hg
              induction fl generalizing k places with
              | nil => simp at hg
              | cons f fl ih =>
                simp only [List.mapM_cons, Option.bind_eq_bind, Option.pure_def, Option.bind_eq_some_iff, Option.some.injEq] at hpl
                obtain ⟨pp, hpp, rest, hrest, rfl⟩ := hpl
                cases k with
                | zero =>
                  simp at hg; subst hg
                  simp only [Option.map_eq_some_iff] at hpp
                  obtain ⟨i2, hi2, rfl⟩ := hpp
                  rw [hi'] at hi2
                  simp only [Option.some.injEq] at hi2; subst hi2
                  simp [hs']
                | succ k => simpa using ih rest k hrest (by simpa using hg)
            · simp at hk
          · simp at hk
        have hmono : ∀ (parts : List (Nat × DV)) (cs0 cs1 : List DV), fill (placeOf T (fields.toList.map fun f => (f.offset, f.type))) cs0 parts = some cs1 → fill (fun k => places[k]?) cs0 parts = some cs1 := by
          intro parts
          induction parts with
          | nil => intro cs0 cs1 h; exact h
          | cons p parts ih =>
            intro cs0 cs1 h
            obtain ⟨k, x⟩ := p
            simp only [fill] at h ⊢
            split at h
            · simp at h
            · rename_i o s hos
              rw [hplace k o s hos]
              split at h
              · rename_i hc
                exact (if_pos hc).trans (ih _ _ h)
              · simp at h
        obtain ⟨c', g1, g2, g3, g4⟩ := fill_ok ps ps'.toList (hmono _ _ _ hcs) kz oz hf
        have hb : P.built t ps'.toList = some c' := by
          simp only [Program.built, hi, hu, hz, hpl]
          simpa using g1
        exact ⟨_, run_build w t ps' c' hb, by simp only [VR]; exact ⟨c', rfl, g2, g3⟩⟩
    · rename_i len e he
      rw [he] at hd; simp only [TdOK] at hd; subst hd
      split at h
      · rename_i te hte
        split at h
        · simp at h
        · rename_i hz0
          simp only [Option.map_eq_some_iff] at h
          obtain ⟨cs, hcs, rfl⟩ := h
          obtain ⟨i, zz, hi, hz, hs, hb, kz, oz⟩ := zero_ok (ρ := ρ) (m := m) hT ht hz0
          obtain ⟨ie, hie, hse, _⟩ := (hT e te hte).info
          obtain ⟨c', g1, g2, g3, g4⟩ := fill_ok ps ps'.toList hcs kz oz hf
          have hb : P.built t ps'.toList = some c' := by
            simp only [Program.built, hi, hu, hz, hie, hse]
            exact g1
          exact ⟨_, run_build w t ps' c' hb, by simp only [VR]; exact ⟨c', rfl, g2, g3⟩⟩
      · simp at h
    · simp at h
  · simp at h
end
end Go.Det
end

section
set_option linter.unusedVariables false
set_option linter.unusedSimpArgs false
namespace Go.Det

def GlobOK (C : Cfg) (m : Ro) : Prop := ∀ g cs, C.glob g = some cs → ∃ c, m g = some c ∧ VRL (fun _ => none) m cs c.toList ∧ mentsL cs = [] ∧ ∀ u ∈ c.toList, u.oneCell' = true
theorem GlobOK.mono {C : Cfg} {m m' : Ro} (h : GlobOK C m) (hm : Sub m m') : GlobOK C m' := fun g cs hg => by
  obtain ⟨c, h1, h2, h3⟩ := h g cs hg
  exact ⟨c, hm _ _ h1, VRL.mono hm _ h2, h3⟩

section
variable {P : Program} {ρ : Rho} {m : Ro}

theorem cells_len {c : Array Value} {vs : List Value} {o : Nat} (h : ∀ j u, vs[j]? = some u → c[o + j]? = some u) : vs = [] ∨ o + vs.length ≤ c.size := by
  by_cases h0 : vs.length = 0
  · exact .inl (List.length_eq_zero_iff.1 h0)
  · refine .inr ?_
    have := h (vs.length - 1) _ (List.getElem?_eq_getElem (by omega))
    have := (Array.getElem?_eq_some_iff.1 this).1
    omega
theorem cells_eq {c : Array Value} {vs : List Value} {o : Nat} (h : ∀ j u, vs[j]? = some u → c[o + j]? = some u) (off n : Nat) (hn : off + n ≤ vs.length) :
    (c.toList.drop (o + off)).take n = (vs.drop off).take n := by
  apply List.ext_getElem?
  intro j
  rw [List.getElem?_take, List.getElem?_take]
  split
  · rename_i hj
    rw [List.getElem?_drop, List.getElem?_drop]
    have := h (off + j) _ (List.getElem?_eq_getElem (by omega))
    rw [List.getElem?_eq_getElem (show off + j < vs.length by omega)]
    rw [show o + off + j = o + (off + j) by omega]
    simpa using this
  · rfl

variable {t : Nat} {ti : Ti} (hk : TiOK P t ti)
include hk

theorem loadIn_ok {n : Nat} {e z : DV} {off : Nat} (h : loadIn ti n e off = some z) {w : World} {r : Nat} {c : Array Value} {el : TypeId} {fr : Nat × Nat} (hh : w.heap[r]? = some (.cells c el fr)) {o : Nat} {v : Value}
    (he : VR ρ m e v) (hn : v.cells.size = n) (h1 : ∀ u ∈ v.cells.toList, u.oneCell' = true) (hc : ∀ j u, v.cells[j]? = some u → c[o + j]? = some u) :
    ∃ v', (loadVar t ⟨r, o + off, none⟩).run P w = .ok v' w ∧ VR ρ m z v' := by
  have hc' : ∀ j u, v.cells.toList[j]? = some u → c[o + j]? = some u := fun j u hu => hc j u (by simpa using hu)
  have hlen := cells_len hc'
  have hl : v.cells.toList.length = n := by simpa using hn
  unfold loadIn at h
  split at h
  · rename_i hcond
    obtain ⟨rfl, hsz, hn0⟩ := hcond
    have hle : o + 0 + ti.size ≤ c.size := by
      rcases hlen with h' | h'
      · rw [h'] at hl; simp at hl; omega
      · omega
    split at h
    · rename_i ha
      split at h
      · rename_i cs
        simp only [Option.some.injEq] at h; subst h
        refine ⟨_, (run_loadVar hk hh (o + 0) hle).1 ha, ?_⟩
        rw [cells_eq hc' 0 ti.size (by omega), List.drop_zero, List.take_of_length_le (by omega)]
        simp only [VR] at he ⊢
        obtain ⟨vs, rfl, kv, ov⟩ := he
        exact ⟨vs, rfl, kv, ov⟩
      · simp at h
    · rename_i ha
      have ha' : agD ti.d = false := by simpa using ha
      have hfin : ∀ u, v.cells.toList[0]? = some u → (loadVar t ⟨r, o + 0, none⟩).run P w = .ok u w := fun u hu => (run_loadVar hk hh (o + 0) hle).2 ha' u (hc' 0 u hu)
      split at h
      · rename_i c0 l
        simp only [Option.some.injEq] at h; subst h
        simp only [VR] at he
        obtain ⟨vs, rfl, kv, ov⟩ := he
        obtain ⟨u, hu, hr⟩ := kv.get 0 c0 rfl
        exact ⟨u, hfin u hu, hr⟩
      · simp at h
      · simp at h
      · simp at h
      · rename_i g1 g2 g3 g4
        simp only [Option.some.injEq] at h; subst h
        have hs : e.scal = true := by
          cases e <;> first | rfl | skip
          · exact absurd rfl g3
          · rename_i l; cases l
            · exact absurd rfl g2
            · exact absurd rfl (g1 _ _)
          · exact absurd rfl (g4 _)
        have h1 := he.one hs
        exact ⟨v, hfin v (by rw [oneCells h1]; rfl), he⟩
  · split at h
    · rename_i hcond
      obtain ⟨hle1, hsz⟩ := hcond
      have hne : e.cells ≠ [] := by intro e0; rw [e0] at hle1; simp at hle1; omega
      obtain ⟨kv, ov⟩ := he.cells hne
      have hkl := kv.length
      have hle : o + off + ti.size ≤ c.size := by
        rcases hlen with h' | h'
        · rw [h'] at hkl; simp at hkl; omega
        · omega
      split at h
      · rename_i ha
        simp only [Option.some.injEq] at h; subst h
        refine ⟨_, (run_loadVar hk hh (o + off) hle).1 ha, ?_⟩
        rw [cells_eq hc' off ti.size (by omega)]
        exact kv.aggPart ov off ti.size
      · rename_i ha
        obtain ⟨u, hu, hr⟩ := kv.get off z h
        exact ⟨u, (run_loadVar hk hh (o + off) hle).2 (by simpa using ha) u (hc' off u hu), hr⟩
    · simp at h

/-- A variable's cells. -/
theorem loadBox_ok {cs : List DV} {c : Array Value} {off : Nat} {z : DV} (h : (if agD ti.d then some (DV.agg ((cs.drop off).take ti.size)) else cs[off]?) = some z) (hle : off + ti.size ≤ cs.length)
    (kv : VRL ρ m cs c.toList) (ov : ∀ u ∈ c.toList, u.oneCell' = true) {w : World} {r : Nat} {el : TypeId} {fr : Nat × Nat} (hh : w.heap[r]? = some (.cells c el fr)) :
    ∃ v', (loadVar t ⟨r, off, none⟩).run P w = .ok v' w ∧ VR ρ m z v' := by
  have hl := kv.length
  simp at hl
  split at h
  · rename_i ha
    simp only [Option.some.injEq] at h; subst h
    exact ⟨_, (run_loadVar hk hh off (by omega)).1 ha, kv.aggPart ov off ti.size⟩
  · rename_i ha
    obtain ⟨u, hu, hr⟩ := kv.get off z h
    exact ⟨u, (run_loadVar hk hh off (by omega)).2 (by simpa using ha) u (by simpa using hu), hr⟩
end

section
variable {P : Program} {C : Cfg} (hT : ∀ t ti, C.T t = some ti → TiOK P t ti)
include hT

theorem loadOp_ok {ρ : Rho} {m : Ro} {L : List Nat} {N : Nat} {h : Heap} {w : World} {t : Nat} {x z : DV} {a : Value} (e : loadOp C h t x = some z) (i : Inv ρ m L N h w) (hG : GlobOK C m) (hx : VR ρ m x a) :
    ∃ v, (Instr.loadAt t a).run P w = .ok v w ∧ VR ρ m z v := by
  unfold loadOp at e
  split at e
  · simp at e
  · rename_i ti ht
    have hk := hT t ti ht
    split at e
    · rename_i b n j off
      simp only [VR] at hx
      obtain ⟨p, hp, rfl⟩ := hx
      split at e
      · rename_i cs hb
        split at e
        · rename_i hc
          obtain ⟨rfl, rfl, hle, hs0⟩ := hc
          obtain ⟨p', h1, h2, h3⟩ := i.blk b _ hb
          rw [hp] at h1; simp only [Option.some.injEq] at h1; subst h1
          simp only [BR] at h2
          obtain ⟨c, el, fr, g1, g2, g3, g4, g5, g6⟩ := h2
          obtain ⟨v', k1, k2⟩ := loadBox_ok hk e hle g5 g6 g1
          refine ⟨v', ?_, k2⟩
          rw [show p.base + 0 * cs.length + off = off by rw [g2]; simp]
          simpa [Instr.loadAt, Instr.sureAddr] using k1
        · simp at e
      · rename_i n' es hb
        split at e
        · rename_i hn; subst hn
          split at e
          · rename_i ee hee
            obtain ⟨p', h1, h2, h3⟩ := i.blk b _ hb
            rw [hp] at h1; simp only [Option.some.injEq] at h1; subst h1
            simp only [BR] at h2
            obtain ⟨c, el, fr, g1, g2, g3, g4, g5, g6, g7⟩ := h2
            obtain ⟨v, q1, q2, q3, q4⟩ := g7.get j ee hee
            obtain ⟨v', k1, k2⟩ := loadIn_ok hk e g1 q1 q2 q3 q4
            exact ⟨v', by simpa [Instr.loadAt, Instr.sureAddr] using k1, k2⟩
          · simp at e
        · simp at e
      · simp at e
    · rename_i n es j off
      simp only [VR] at hx
      obtain ⟨r, base, c, g1, g2, g3, g4, rfl⟩ := hx
      split at e
      · rename_i ee hee
        obtain ⟨v, q1, q2, q3, q4⟩ := g3.get j ee hee
        obtain ⟨el, fr, hh⟩ := i.ro r c g1
        obtain ⟨v', k1, k2⟩ := loadIn_ok hk e hh q1 q2 q3 q4
        exact ⟨v', by simpa [Instr.loadAt, Instr.sureAddr] using k1, k2⟩
      · simp at e
    · rename_i g off
      simp only [VR] at hx; subst hx
      split at e
      · rename_i cs hg
        split at e
        · rename_i hc
          obtain ⟨c, g1, g2, g3, g4⟩ := hG g cs hg
          obtain ⟨el, fr, hh⟩ := i.ro g c g1
          obtain ⟨v', k1, k2⟩ := loadBox_ok hk e hc.1 (VRL.rho (ρ := fun _ => none) _ (fun b hb => by rw [g3] at hb; cases hb) g2 : VRL ρ m cs c.toList) g4 hh
          exact ⟨v', by simpa [Instr.loadAt, Instr.sureAddr] using k1, k2⟩
        · simp at e
      · simp at e
    · simp at e
end
end Go.Det
end

section
set_option linter.unusedVariables false
set_option linter.unusedSimpArgs false
namespace Go.Det

section
variable {ρ : Rho} {m : Ro}

theorem mentsL_set {l : List DV} {x : DV} (h : mentsL l = []) (hx : x.ments = []) (i : Nat) : mentsL (l.set i x) = [] :=
  mentsL_nil_iff.2 fun y hy => by
    rcases List.mem_or_eq_of_mem_set hy with hy | rfl
    · exact mentsL_nil_iff.1 h y hy
    · exact hx
theorem mentsL_over : ∀ (l : List DV) {cs : List DV} (o : Nat), mentsL cs = [] → mentsL l = [] → mentsL (over cs o l) = []
  | [], _, _, h, _ => h
  | x :: l, _, o, h, k => by
    simp only [mentsL, List.append_eq_nil_iff] at k
    exact mentsL_over l (o + 1) (mentsL_set h k.1 o) k.2
theorem pure_cells {x : DV} (h : x.pure = true) : mentsL x.cells = [] := by
  simp only [DV.pure, List.isEmpty_iff] at h
  cases x <;> first | (simp only [DV.cells, mentsL, List.append_nil]; exact h) | rfl | exact h

/-- An element rewritten, in part or whole. -/
theorem VRE.put {n : Nat} {es : List DV} {c : Array Value} {base i off : Nat} {x y : DV} {u : Value} {ls : List Value} (h : VRE ρ m n es c base) (hi : es[i]? = some x) (hb : base + es.length * n ≤ c.size) (hoff : off + ls.length ≤ n)
    (hy : VR ρ m y u) (hu : u.cells.size = n) (h1 : ∀ z ∈ u.cells.toList, z.oneCell' = true)
    (hnew : ∀ j z, u.cells[j]? = some z → (overA c (base + i * n + off) ls)[base + i * n + j]? = some z) : VRE ρ m n (es.set i y) (overA c (base + i * n + off) ls) base := by
  have hil : i < es.length := (List.getElem?_eq_some_iff.1 hi).1
  have hin : (i + 1) * n ≤ es.length * n := Nat.mul_le_mul_right n hil
  rw [Nat.succ_mul] at hin
  refine VRE.of_get fun k z hz => ?_
  by_cases e : k = i
  · subst e
    rw [List.getElem?_set_self hil] at hz
    simp only [Option.some.injEq] at hz; subst hz
    exact ⟨u, hy, hu, h1, hnew⟩
  · rw [List.getElem?_set_ne (Ne.symm e)] at hz
    obtain ⟨q, q1, q2, q3, q4⟩ := h.get k z hz
    refine ⟨q, q1, q2, q3, fun j s hs => ?_⟩
    have hj : j < n := by have := (Array.getElem?_eq_some_iff.1 hs).1; omega
    rw [overA_get ls c _ _ (by omega), if_neg ?_]
    · exact q4 j s hs
    · rintro ⟨a1, a2⟩
      rcases Nat.lt_or_gt_of_ne e with hlt | hgt
      · have : (k + 1) * n ≤ i * n := Nat.mul_le_mul_right n hlt
        rw [Nat.succ_mul] at this; omega
      · have : (i + 1) * n ≤ k * n := Nat.mul_le_mul_right n hgt
        rw [Nat.succ_mul] at this; omega
end

section
variable {P : Program} {C : Cfg} (hT : ∀ t ti, C.T t = some ti → TiOK P t ti)
include hT

theorem storeOp_ok {w0 w : World} {ρ : Rho} {m : Ro} {L : List Nat} {h : Heap} {t : Nat} {x y : DV} {out : Out} {a c : Value} (e : storeOp C h t x y = some out) (i : Inv ρ m L w0.heap.size h w) (ev : Evo L w0 w) (hx : VR ρ m x a) (hy : VR ρ m y c) :
    ∃ w', (Instr.storeAt t a c).run P w = .ok () w' ∧ Post L w0.heap.size h w0 w ρ m out undef w' ρ m := by
  have hun : VR ρ m (.tup []) undef := by simp only [VR, VRL, undef]; exact ⟨#[], rfl, rfl⟩
  unfold storeOp at e
  split at e
  · simp at e
  · rename_i ti ht
    have hk := hT t ti ht
    split at e
    · simp at e
    · rename_i hsz
      have hlen : y.cells.length = ti.size ∧ ti.size ≠ 0 := by omega
      obtain ⟨hlen, hs0⟩ := hlen
      have hne : y.cells ≠ [] := by intro e0; rw [e0] at hlen; simp at hlen; omega
      obtain ⟨kv, ov⟩ := hy.cells hne
      have hcl : c.cells.toList.length = ti.size := by rw [kv.length, hlen]
      have hcs : c.cells.size = ti.size := by simpa using hcl
      split at e
      · rename_i b n j off
        simp only [VR] at hx
        obtain ⟨p, hp, rfl⟩ := hx
        split at e
        · rename_i cs hb
          split at e
          · rename_i hc
            obtain ⟨rfl, rfl, hle⟩ := hc
            simp only [Option.some.injEq] at e; subst e
            obtain ⟨p', h1, h2, h3, h4⟩ := i.blk b _ hb
            rw [hp] at h1; simp only [Option.some.injEq] at h1; subst h1
            simp only [BR] at h2
            obtain ⟨cc, el, fr, g1, g2, g3, g4, g5, g6⟩ := h2
            have hl5 := g5.length
            simp at hl5
            have hoff : p.base + 0 * cs.length + off = off := by rw [g2]; simp
            have hrun := run_storeVar hk g1 g4 off c hcs (by omega) ov
            refine ⟨World.setBlk w p.blk (.cells (overA cc off c.cells.toList) el fr), ?_, ⟨hun, Grows.refl _ m, fun _ _ => rfl, ?_, ?_⟩⟩
            · rw [hoff]; simpa [Instr.storeAt, Instr.sureAddr] using hrun
            · simp only [forgetH_nil, setAll]
              refine i.setBlk hb hp _ ?_ rfl
              simp only [BR]
              refine ⟨_, el, fr, ?_, g2, by rw [overA_size]; exact g3, ?_, VRL.over off g5 kv, overA_one _ _ _ g6 ov⟩
              · rw [setBlk_get]; simp [(Array.getElem?_eq_some_iff.1 g1).1]
              · intro o ho; rw [overA_size] at ho; exact g4 o ho
            · exact ev.setBlk _ h4.1
          · simp at e
        · rename_i n' es hb
          split at e
          · rename_i hc
            obtain ⟨rfl, hpure⟩ := hc
            obtain ⟨p', h1, h2, h3, h4⟩ := i.blk b _ hb
            rw [hp] at h1; simp only [Option.some.injEq] at h1; subst h1
            simp only [BR] at h2
            obtain ⟨cc, el, fr, g1, g2, g3, g4, g5, g6, g7⟩ := h2
            split at e
            · rename_i ee hee
              have hil : j < es.length := (List.getElem?_eq_some_iff.1 hee).1
              have hin : (j + 1) * n ≤ es.length * n := Nat.mul_le_mul_right n hil
              rw [Nat.succ_mul] at hin
              obtain ⟨q, q1, q2, q3, q4⟩ := g7.get j ee hee
              have key : ∀ (yy : DV) (u : Value), off + ti.size ≤ n → VR ρ m yy u → u.cells.size = n → (∀ z ∈ u.cells.toList, z.oneCell' = true) → yy.ments = [] →
                  (∀ k z, u.cells[k]? = some z → (overA cc (p.base + j * n + off) c.cells.toList)[p.base + j * n + k]? = some z) →
                  ∃ w', (Instr.storeAt t (.pointer (some ⟨p.blk, p.base + j * n + off, none⟩)) c).run P w = .ok () w' ∧ Post L w0.heap.size h w0 w ρ m { v := .tup [], δ := [(b, some (.row n (es.set j yy)))] } undef w' ρ m := by
                intro yy u hoff hyy hu h1 hm hnew
                have hrun := run_storeVar hk g1 g3 (p.base + j * n + off) c hcs (by omega) ov
                refine ⟨World.setBlk w p.blk (.cells (overA cc (p.base + j * n + off) c.cells.toList) el fr), by simpa [Instr.storeAt, Instr.sureAddr] using hrun, ⟨hun, Grows.refl _ m, fun _ _ => rfl, ?_, ?_⟩⟩
                · simp only [forgetH_nil, setAll]
                  refine i.setBlk hb hp _ ?_ rfl
                  simp only [BR]
                  refine ⟨_, el, fr, ?_, by rw [overA_size]; exact g2, ?_, g4, by simpa using g5, mentsL_set g6 hm j, VRE.put g7 hee (by omega) (by omega) hyy hu h1 hnew⟩
                  · rw [setBlk_get]; simp [(Array.getElem?_eq_some_iff.1 g1).1]
                  · intro o ho; rw [overA_size] at ho; exact g3 o ho
                · exact ev.setBlk _ h4.1
              split at e
              · rename_i hc
                obtain ⟨rfl, hsn⟩ := hc
                simp only [Option.some.injEq] at e; subst e
                refine key y c (by omega) hy (by omega) ov (by simpa [DV.pure, List.isEmpty_iff] using hpure) fun k z hz => ?_
                have hkz : k < c.cells.toList.length := by have := (Array.getElem?_eq_some_iff.1 hz).1; simpa using this
                rw [overA_get _ _ _ _ (by omega), if_pos (by omega)]
                rw [show p.base + j * n + k - (p.base + j * n + 0) = k by omega]
                simpa using hz
              · split at e
                · rename_i cs
                  split at e
                  · rename_i hle
                    simp only [Option.some.injEq] at e; subst e
                    simp only [VR] at q1
                    obtain ⟨vs, rfl, kvs, ovs⟩ := q1
                    change vs.size = n at q2
                    change ∀ (j_1 : Nat) (u : Value), vs[j_1]? = some u → _ at q4
                    refine key (.agg (over cs off y.cells)) (.agg (overA vs off c.cells.toList)) (by omega) ?_ (by show (overA vs off c.cells.toList).size = n; rw [overA_size]; exact q2) ?_ ?_ ?_
                    · simp only [VR]
                      exact ⟨_, rfl, VRL.over off kvs kv, overA_one _ _ _ ovs ov⟩
                    · exact overA_one _ _ _ ovs ov
                    · simp only [DV.ments]
                      exact mentsL_over _ _ (by have := mentsL_nil_iff.1 g6 _ (List.mem_of_getElem? hee); simpa [DV.ments] using this) (pure_cells hpure)
                    · intro k z hz
                      change (overA vs off c.cells.toList)[k]? = some z at hz
                      have hkn : k < n := by have := (Array.getElem?_eq_some_iff.1 hz).1; rw [overA_size] at this; omega
                      rw [overA_get _ _ _ _ (by omega)] at hz
                      rw [overA_get _ _ _ _ (by omega)]
                      split at hz
                      · rename_i hr
                        rw [if_pos (by omega), show p.base + j * n + k - (p.base + j * n + off) = k - off by omega]
                        exact hz
                      · rename_i hr
                        rw [if_neg (by omega)]
                        exact q4 k z hz
                  · simp at e
                · simp at e
            · simp at e
          · simp at e
        · simp at e
      · simp at e
end
end Go.Det
end

section
set_option linter.unusedVariables false
set_option linter.unusedSimpArgs false
namespace Go.Det

section
variable {ρ : Rho} {m : Ro}

/-- A new block of the call's own. -/
theorem post_grow {w0 w w' : World} {L : List Nat} {h : Heap} (i : Inv ρ m L w0.heap.size h w) (ev : Evo L w0 w) (hold : ∀ r, r < w.heap.size → w'.heap[r]? = w.heap[r]?) (h1 : w'.os = w.os) (h2 : w'.tape = w.tape) (h3 : w'.output = w.output) (h4 : w.heap.size ≤ w'.heap.size)
    (d : Nat) (x : Blk) (sz : Nat) (hx : BR (upd ρ d ⟨w.heap.size, 0, sz⟩) m w' ⟨w.heap.size, 0, sz⟩ x) {v : DV} {v' : Value} (val : VR (upd ρ d ⟨w.heap.size, 0, sz⟩) m v v') :
    Post L w0.heap.size h w0 w ρ m { v := v, δ := [(d, some x)], φ := [d] } v' w' (upd ρ d ⟨w.heap.size, 0, sz⟩) m :=
  ⟨val, Grows.refl _ m, fun b hb => (upd_other _ _ _ (by simpa using hb)).symm, by simp only [setAll]; exact i.grow ev.size hold [d] d (by simp) x sz hx, ev.grow hold h1 h2 h3 h4⟩
theorem post_alloc {w0 w : World} {L : List Nat} {h : Heap} (i : Inv ρ m L w0.heap.size h w) (ev : Evo L w0 w) (o : Obj) (d : Nat) (x : Blk) (sz : Nat) (hx : BR (upd ρ d ⟨w.heap.size, 0, sz⟩) m (w.alloc o) ⟨w.heap.size, 0, sz⟩ x) {v : DV} {v' : Value} (val : VR (upd ρ d ⟨w.heap.size, 0, sz⟩) m v v') :
    Post L w0.heap.size h w0 w ρ m { v := v, δ := [(d, some x)], φ := [d] } v' (w.alloc o) (upd ρ d ⟨w.heap.size, 0, sz⟩) m :=
  post_grow i ev (fun r hr => alloc_get_lt w o hr) rfl rfl rfl (by rw [World.size_alloc]; omega) d x sz hx val
theorem post_same {w0 w : World} {L : List Nat} {h : Heap} (i : Inv ρ m L w0.heap.size h w) (ev : Evo L w0 w) {v : DV} {v' : Value} (val : VR ρ m v v') : Post L w0.heap.size h w0 w ρ m { v := v } v' w ρ m :=
  ⟨val, Grows.refl _ m, fun _ _ => rfl, by simp only [forgetH_nil, setAll]; exact i, ev⟩

theorem nf_zero (c : Array Value) : nf c (0, 0) := fun o _ ⟨_, h⟩ => by simp at h

theorem VRL.of_get : ∀ {l : List DV} {vs : List Value}, vs.length = l.length → (∀ (i : Nat) (x : DV), l[i]? = some x → ∃ v, vs[i]? = some v ∧ VR ρ m x v) → VRL ρ m l vs
  | [], vs, hl, _ => by simp only [VRL]; exact List.length_eq_zero_iff.1 hl
  | x :: l, [], hl, _ => by simp at hl
  | x :: l, v :: vs, hl, h => by
    obtain ⟨v', h1, h2⟩ := h 0 x rfl
    simp at h1; subst h1
    exact VRL.cons h2 (VRL.of_get (by simpa using hl) fun i y hy => by simpa using h (i + 1) y (by simpa using hy))

theorem zeros_length (k : Nat) (z : List DV) : (zeros k z).length = k * z.length := by
  induction k with
  | zero => simp [zeros]
  | succ k ih => simp only [zeros, List.replicate_succ, List.flatten_cons, List.length_append] at ih ⊢; rw [ih, Nat.succ_mul]; omega
theorem zeros_get (k : Nat) (z : List DV) (i : Nat) (hi : i < k * z.length) : (zeros k z)[i]? = z[i % z.length]? := by
  induction k generalizing i with
  | zero => simp at hi
  | succ k ih =>
    simp only [zeros, List.replicate_succ, List.flatten_cons]
    rw [Nat.succ_mul] at hi
    by_cases h : i < z.length
    · rw [List.getElem?_append_left h, Nat.mod_eq_of_lt h]
    · rw [List.getElem?_append_right (by omega)]
      have := ih (i - z.length) (by omega)
      simp only [zeros] at this
      rw [this]
      congr 1
      rw [← Nat.mod_eq_sub_mod (by omega)]
theorem zeros_ok {z : List DV} {zv : Array Value} (h : VRL ρ m z zv.toList) (k n : Nat) (hn : n = k * z.length) : VRL ρ m (zeros k z) (madeCells zv n).toList := by
  subst hn
  have hl := h.length
  simp at hl
  refine VRL.of_get (by simp [madeCells, zeros_length]) fun i x hx => ?_
  have hi : i < k * z.length := by have := (List.getElem?_eq_some_iff.1 hx).1; rwa [zeros_length] at this
  rw [zeros_get k z i hi] at hx
  obtain ⟨v, h1, h2⟩ := h.get _ x hx
  refine ⟨v, ?_, h2⟩
  have h3 : zv[i % z.length]? = some v := by simpa using h1
  obtain ⟨hlt, hv⟩ := Array.getElem?_eq_some_iff.1 h3
  simp only [madeCells, Array.toList_map, List.getElem?_map, Array.toList_range, List.getElem?_range hi, Option.map_some, hl]
  rw [getElem!_pos zv _ hlt, hv]
theorem made_one {zv : Array Value} (h : ∀ u ∈ zv.toList, u.oneCell' = true) (hz : 0 < zv.size) (n : Nat) : ∀ u ∈ (madeCells zv n).toList, u.oneCell' = true := by
  intro u hu
  simp only [madeCells, Array.toList_map, List.mem_map] at hu
  obtain ⟨i, _, rfl⟩ := hu
  have hlt : i % zv.size < zv.size := Nat.mod_lt _ hz
  rw [getElem!_pos zv _ hlt]
  exact h _ (by simp)

theorem rowOf_ok {ag : Bool} {n : Nat} (hag : ag = true ∨ n = 1) : ∀ (k : Nat) {cs : List DV} {vs : List Value} {c : Array Value} {o : Nat}, VRL ρ m cs vs → cs.length = k * n → (∀ u ∈ vs, u.oneCell' = true) → (∀ j u, vs[j]? = some u → c[o + j]? = some u) →
    VRE ρ m n (rowOf ag n k cs) c o
  | 0, _, _, _, _, _, _, _, _ => by simp [rowOf, VRE]
  | k + 1, cs, vs, c, o, h, hl, h1, hc => by
    rw [Nat.succ_mul] at hl
    have hvl := h.length
    simp only [rowOf, VRE]
    refine ⟨?_, rowOf_ok hag k (h.drop n) (by simp; omega) (fun u hu => h1 u (List.mem_of_mem_drop hu)) (fun j u hu => by rw [List.getElem?_drop] at hu; rw [Nat.add_assoc]; exact hc _ _ hu)⟩
    have ht := h.take n
    have hone : ∀ u ∈ vs.take n, u.oneCell' = true := fun u hu => h1 u (List.mem_of_mem_take hu)
    have hcc : ∀ j u, (vs.take n)[j]? = some u → c[o + j]? = some u := fun j u hu => by
      rw [List.getElem?_take] at hu
      split at hu
      · exact hc _ _ hu
      · cases hu
    cases ag with
    | true =>
      refine ⟨.agg (vs.take n).toArray, ?_, by simp [Value.cells]; omega, by simpa [Value.cells] using hone, fun j u hu => hcc j u (by simpa [Value.cells] using hu)⟩
      simp only [whole, if_true, VR]
      exact ⟨_, rfl, by simpa using ht, by simpa using hone⟩
    | false =>
      have hn1 : n = 1 := by
        rcases hag with h' | h'
        · cases h'
        · exact h'
      subst hn1
      cases cs with
      | nil => simp at hl
      | cons x cs =>
        simp only [VRL] at h
        obtain ⟨v, r, rfl, h2, h3⟩ := h
        have ho := h1 v (by simp)
        refine ⟨v, by simpa [whole] using h2, by rw [oneCells ho]; rfl, by rw [oneCells ho]; simpa using ho, fun j u hu => ?_⟩
        rw [oneCells ho] at hu
        cases j with
        | zero => exact hc 0 u (by simpa using hu)
        | succ j => simp at hu

theorem rowOf_length (ag : Bool) (n : Nat) : ∀ (k : Nat) (cs : List DV), (rowOf ag n k cs).length = k
  | 0, _ => rfl
  | k + 1, cs => by simp [rowOf, rowOf_length ag n k]

theorem run_buildSlice' {P : Program} {t e len : Nat} {i : TypeInfo} {z : Value} (hu : P.underlying t = some (.slice e)) (hi : P.info? e = some i) (hz : i.zero = some z) (hs : ¬ (len * i.size > 2 ^ 24)) (h0 : len * i.size = 0 → madeCells z.cells 0 = #[]) {parts : Array (Nat × Value)} {c : Array Value}
    (hf : Instr.fill (fun k => some (k * i.size, i.size)) (madeCells z.cells (len * i.size)) parts.toList = some c) (w : World) :
    (Instr.buildSlice t len parts).run P w = .ok (.slice (some ⟨w.heap.size, 0, none⟩) len len) (w.alloc (.cells c e)) := by
  by_cases h : len * i.size = 0
  · rw [h, h0 h] at hf
    simp [Instr.buildSlice, run_underlying hu, sizeOf, typeInfo, hi, h, newRow, hf, Array.range_zero']
  · simp only [madeCells] at hf
    simp [Instr.buildSlice, run_underlying hu, sizeOf, typeInfo, zeroValue, hi, hz, h, hs, newRow, hf]

variable {P : Program} {C : Cfg} (hT : ∀ t ti, C.T t = some ti → TiOK P t ti)
include hT

theorem sliceLit_ok {w0 w : World} {L : List Nat} {h : Heap} {own : Bool} {dst t len : Nat} {ps : List (Nat × DV)} {ps' : Array (Nat × Value)} {out : Out} (e : sliceLit C own dst t len ps = some out) (i : Inv ρ m L w0.heap.size h w) (ev : Evo L w0 w) (hf : PR ρ m ps ps'.toList) :
    ∃ v' w' ρ' m', (Instr.buildSlice t len ps').run P w = .ok v' w' ∧ Post L w0.heap.size h w0 w ρ m out v' w' ρ' m' := by
  unfold sliceLit at e
  split at e
  · rename_i ti ht
    obtain ⟨dd, hu, hd⟩ := (hT t ti ht).desc
    split at e
    · rename_i el he
      rw [he] at hd; simp only [TdOK] at hd; subst hd
      split at e
      · rename_i te ag hte hag
        split at e
        · simp at e
        · rename_i hcond
          have hs0 : te.size ≠ 0 := by omega
          have hsz : ¬ (2 ^ 20 < len * te.size) := by omega
          have hzl : te.zero.length = te.size := by omega
          have hag1 : ag = true ∨ te.size = 1 := by
            cases ag with
            | true => exact .inl rfl
            | false => exact .inr (Decidable.byContradiction fun h1 => hcond (.inr (.inr (.inl ⟨rfl, h1⟩))))
          split at e
          · rename_i cs hcs
            obtain ⟨ie, ze, hie, hze, hse, hbe, kz, oz⟩ := zero_ok (ρ := ρ) (m := m) hT hte (by intro e0; rw [e0] at hzl; simp at hzl; omega)
            have hzsz : ze.cells.size = te.size := by have := kz.length; simp at this; omega
            obtain ⟨c', g1, g2, g3, g4⟩ := fill_ok ps ps'.toList hcs (zeros_ok kz len (len * te.size) (by rw [hzl])) (made_one oz (by omega) _) hf
            have hcl : cs.length = len * te.size := by
              have := g2.length
              simp [g4, size_madeCells] at this; omega
            have hrun := run_buildSlice' (P := P) (t := t) (e := el) (len := len) hu hie hze (by rw [hse]; omega) (by intro _; simp [madeCells]) (parts := ps') (c := c') (by rw [hse]; exact g1) w
            have hVRE : VRE ρ m te.size (rowOf ag te.size len cs) c' 0 := rowOf_ok hag1 len g2 hcl g3 (fun j u hu => by simpa using hu)
            dsimp only at e
            split at e
            · rename_i hpure
              have hm : mentsL (rowOf ag te.size len cs) = [] := by simpa [pureL, List.isEmpty_iff] using hpure
              split at e
              · simp only [Option.some.injEq] at e; subst e
                refine ⟨_, _, _, _, hrun, post_alloc i ev (.cells c' el) dst _ (len * te.size) ?_ ?_⟩
                · simp only [BR]
                  refine ⟨c', el, (0, 0), alloc_get_new w _, by simp [g4, size_madeCells], nf_zero _, by omega, by simp [rowOf_length], hm, VRE.rho _ (by rw [hm]; simp) hVRE⟩
                · simp only [VR]
                  exact ⟨_, len, upd_same .., Nat.le_refl _, by simp, by simp⟩
              · simp only [Option.some.injEq] at e; subst e
                have hsub := sub_seal1 c' i.new_ro
                refine ⟨_, _, ρ, seal1 m w.heap.size c', hrun, ⟨?_, ⟨hsub, fun r hr => by show (if r = w.heap.size then some c' else m r) = m r; rw [if_neg (by have := ev.size; omega)], fun _ _ h => h⟩, fun _ _ => rfl, by simp only [forgetH_nil, setAll]; exact i.allocSealed c' el (0, 0), ev.alloc _⟩⟩
                simp only [VR]
                refine ⟨some ⟨w.heap.size, 0, none⟩, len, by simp [rowOf_length], by rw [rowOf_length], hm, .inr ⟨w.heap.size, 0, c', by simp [seal1], rfl, VRE.mono hsub _ hVRE⟩⟩
            · simp at e
          · simp at e
      · simp at e
    · simp at e
  · simp at e
end
end Go.Det
end

section
set_option linter.unusedVariables false
set_option linter.unusedSimpArgs false
namespace Go.Det

section
variable {P : Program} {C : Cfg} (hT : ∀ t ti, C.T t = some ti → TiOK P t ti)
include hT

theorem alloc_ok {ρ : Rho} {m : Ro} {w0 w : World} {L : List Nat} {h : Heap} {e : Nat} {te : Ti} {d : Nat} (hte : C.T e = some te) (hz : te.zero.length = te.size ∧ te.size ≠ 0) (i : Inv ρ m L w0.heap.size h w) (ev : Evo L w0 w) :
    ∃ v' w' ρ' m', (Instr.alloc e true (.tuple #[])).run P w = .ok v' w' ∧ Post L w0.heap.size h w0 w ρ m { v := .ptr d te.size 0 0, δ := [(d, some (.box te.zero))], φ := [d] } v' w' ρ' m' := by
  obtain ⟨ie, z, hi, hz', hse, hbe, kz, oz⟩ := zero_ok (ρ := fun _ => none) (m := m) hT hte (by intro e0; rw [e0] at hz; simp at hz; omega)
  have hzsz : z.cells.size = te.size := by have := kz.length; simp at this; omega
  obtain ⟨_, _, _, _, hzz⟩ := (hT e te hte).info
  have hm : mentsL te.zero = [] := by
    obtain ⟨_, _, _, _, hh⟩ := hzz (by intro e0; rw [e0] at hz; simp at hz; omega)
    exact hh
  refine ⟨.pointer (some ⟨w.heap.size, 0, none⟩), _, _, m, ?_, post_alloc i ev (.cells z.cells e) d _ te.size ?_ ?_⟩
  · simp [Instr.alloc, zeroValue, typeInfo, hi, hz', newVar, newRow]
  · simp only [BR]
    exact ⟨z.cells, e, (0, 0), alloc_get_new w _, by simp, hzsz, nf_zero _, VRL.rho _ (by rw [hm]; simp) kz, oz⟩
  · simp only [VR]
    exact ⟨_, upd_same .., by simp⟩

omit hT in
theorem box_ok {ρ : Rho} {m : Ro} {w0 w : World} {L : List Nat} {h : Heap} {e : Nat} {te : Ti} {d : Nat} {x : DV} {a : Value} (hte : C.T e = some te) (hz : x.cells.length = te.size ∧ te.size ≠ 0) (i : Inv ρ m L w0.heap.size h w) (ev : Evo L w0 w) (hx : VR ρ m x a) :
    ∃ v' w' ρ' m', (Instr.box e a).run P w = .ok v' w' ∧ Post L w0.heap.size h w0 w ρ m { v := .ptr d te.size 0 0, δ := [(d, some (.box (forgetL [d] x.cells)))], φ := [d] } v' w' ρ' m' := by
  obtain ⟨kv, ov⟩ := hx.cells (by intro e0; rw [e0] at hz; simp at hz; omega)
  have hl := kv.length
  simp at hl
  refine ⟨.pointer (some ⟨w.heap.size, 0, none⟩), _, _, m, ?_, post_alloc i ev (.cells a.cells e) d _ te.size ?_ ?_⟩
  · simp [Instr.box, newVar, newRow]
  · simp only [BR]
    exact ⟨a.cells, e, (0, 0), alloc_get_new w _, by simp, by omega, nf_zero _, VRL.step (Sub.refl m) [d] (fun b hb => (upd_other _ _ _ (by simpa using hb)).symm) _ kv, ov⟩
  · simp only [VR]
    exact ⟨_, upd_same .., by simp⟩

omit hT in
theorem replicate_ments (k : Nat) {x : DV} (h : x.ments = []) : mentsL (List.replicate k x) = [] :=
  mentsL_nil_iff.2 fun y hy => by rw [(List.mem_replicate.1 hy).2]; exact h

theorem makeSliceOp_ok {ρ : Rho} {m : Ro} {w0 w : World} {L : List Nat} {h : Heap} {dst t : Nat} {l c : DV} {a b : Value} {out : Out} (e : makeSliceOp C dst t l c = some out) (i : Inv ρ m L w0.heap.size h w) (ev : Evo L w0 w) (hl : VR ρ m l a) (hc : VR ρ m c b) :
    ∃ v' w' ρ' m', (Instr.makeSlice t a b).run P w = .ok v' w' ∧ Post L w0.heap.size h w0 w ρ m out v' w' ρ' m' := by
  unfold makeSliceOp at e
  split at e
  · rename_i ti ln cn ht hln hcn
    obtain ⟨kl, il, rfl, hl0, hl1⟩ := asNat_ok hln hl
    obtain ⟨kc, ic, rfl, hc0, hc1⟩ := asNat_ok hcn hc
    obtain ⟨dd, hu, hd⟩ := (hT t ti ht).desc
    split at e
    · rename_i el he
      rw [he] at hd; simp only [TdOK] at hd; subst hd
      split at e
      · rename_i te ag hte hag
        split at e
        · simp at e
        · rename_i hcond
          simp only [Option.some.injEq] at e; subst e
          have hs0 : te.size ≠ 0 := fun h1 => hcond (.inl h1)
          have hlc : ln ≤ cn := by have := fun h1 => hcond (.inr (.inl h1)); omega
          have hro : te.bytes * cn ≤ 2 ^ 32 := by
            have h1 : ¬ (roomy te.bytes cn = false) := fun h1 => hcond (.inr (.inr (.inl h1)))
            simp [roomy] at h1; exact h1.2
          have hcb : cn ≤ 2 ^ 32 := by have := fun h1 => hcond (.inr (.inr (.inr (.inl h1)))); omega
          have hag1 : ag = true ∨ te.size = 1 := by
            cases ag with
            | true => exact .inl rfl
            | false => exact .inr (Decidable.byContradiction fun h1 => hcond (.inr (.inr (.inr (.inr (.inl ⟨rfl, h1⟩))))))
          have hzl : te.zero.length = te.size := Decidable.byContradiction fun h1 => hcond (.inr (.inr (.inr (.inr (.inr h1)))))
          obtain ⟨ie, ze, hie, hze, hse, hbe, kz, oz⟩ := zero_ok (ρ := ρ) (m := m) hT hte (by intro e0; rw [e0] at hzl; simp at hzl; omega)
          have hzsz : ze.cells.size = te.size := by have := kz.length; simp at this; omega
          have hm0 : mentsL te.zero = [] := by
            obtain ⟨_, _, _, _, hzz⟩ := (hT el te hte).info
            obtain ⟨_, _, _, _, hh⟩ := hzz (by intro e0; rw [e0] at hzl; simp at hzl; omega)
            exact hh
          have hrun := run_make (P := P) w t el ie ze hu hie hze kl kc il ic hl0 (by omega) (by
            rw [hbe]
            have h1 : ((te.bytes * cn : Nat) : Int) ≤ 2 ^ 32 := by exact_mod_cast hro
            rw [Int.natCast_mul] at h1
            have : (cn : Int) = ic := by omega
            rw [this] at h1; omega) (by omega)
          rw [hl1, hc1, hse] at hrun
          have hwm : (whole ag te.zero).ments = [] := by
            cases ag with
            | true => simpa [whole, DV.ments] using hm0
            | false =>
              cases hzz : te.zero with
              | nil => rfl
              | cons x l => rw [hzz] at hm0; simp only [mentsL, List.append_eq_nil_iff] at hm0; exact hm0.1
          refine ⟨_, _, _, m, hrun, post_alloc i ev (.cells (madeCells ze.cells (cn * te.size)) el) dst _ (cn * te.size) ?_ ?_⟩
          · simp only [BR]
            refine ⟨_, el, (0, 0), alloc_get_new w _, by simp [size_madeCells], nf_zero _, by omega, by simp, replicate_ments _ hwm, ?_⟩
            have hrow : List.replicate cn (whole ag te.zero) = rowOf ag te.size cn (zeros cn te.zero) := by
              clear hrun hcond hlc hro hcb hc1 hcn
              induction cn with
              | zero => rfl
              | succ k ih =>
                simp only [List.replicate_succ, rowOf, zeros, List.flatten_cons]
                rw [List.take_append_of_le_length (by omega), List.take_of_length_le (by omega), List.drop_append_of_le_length (by omega), List.drop_of_length_le (by omega), List.nil_append]
                rw [ih]; rfl
            rw [hrow]
            refine VRE.rho _ (by rw [← hrow, replicate_ments _ hwm]; simp) (rowOf_ok hag1 cn (zeros_ok kz cn (cn * te.size) (by rw [hzl])) (by rw [zeros_length, hzl]) (made_one oz (by omega) _) (fun j u hu => by simpa using hu))
          · simp only [VR]
            exact ⟨_, cn, upd_same .., hlc, by simp, by simp⟩
      · simp at e
    · simp at e
  · simp at e
end
end Go.Det
end

section
set_option linter.unusedVariables false
set_option linter.unusedSimpArgs false
namespace Go.Det

section
variable {P : Program} {C : Cfg} (hT : ∀ t ti, C.T t = some ti → TiOK P t ti)

/-- Elements' cells, flat. -/
theorem VRE.flat {ρ : Rho} {m : Ro} {n : Nat} : ∀ {l : List DV} {c : Array Value} {o : Nat}, VRE ρ m n l c o →
    ∃ vs : List Value, vs.length = l.length * n ∧ (∀ j u, vs[j]? = some u → c[o + j]? = some u) ∧ (∀ u ∈ vs, u.oneCell' = true) ∧ ∀ (c' : Array Value) (o' : Nat), (∀ j u, vs[j]? = some u → c'[o' + j]? = some u) → VRE ρ m n l c' o'
  | [], c, o, _ => ⟨[], by simp, by simp, by simp, fun c' o' _ => by simp [VRE]⟩
  | x :: l, c, o, h => by
    simp only [VRE] at h
    obtain ⟨⟨v, h1, h2, h3, h4⟩, h5⟩ := h
    obtain ⟨vs, k1, k2, k3, k4⟩ := VRE.flat h5
    have hl : v.cells.toList.length = n := by simpa using h2
    refine ⟨v.cells.toList ++ vs, by rw [List.length_append, hl, k1, List.length_cons, Nat.succ_mul]; omega, ?_, ?_, ?_⟩
    · intro j u hu
      by_cases hj : j < n
      · rw [List.getElem?_append_left (by omega)] at hu
        exact h4 j u (by simpa using hu)
      · rw [List.getElem?_append_right (by omega), hl] at hu
        have := k2 _ u hu
        rwa [show o + n + (j - n) = o + j by omega] at this
    · intro u hu
      rcases List.mem_append.1 hu with hu | hu
      · exact h3 u hu
      · exact k3 u hu
    · intro c' o' hc
      simp only [VRE]
      refine ⟨⟨v, h1, h2, h3, fun j u hu => ?_⟩, k4 c' (o' + n) fun j u hu => ?_⟩
      · have hj : j < n := by have := (Array.getElem?_eq_some_iff.1 hu).1; omega
        exact hc j u (by rw [List.getElem?_append_left (by omega)]; simpa using hu)
      · rw [Nat.add_assoc]
        exact hc _ u (by rw [List.getElem?_append_right (by omega), hl, show n + j - n = j by omega]; exact hu)

/-- What is appended, or copied: its elements, its cells. -/
theorem elems_ok {ρ : Rho} {m : Ro} {L : List Nat} {N : Nat} {h : Heap} {w : World} {n : Nat} {x : DV} {es : List DV} {a : Value} (e : elems h n x = some es) (i : Inv ρ m L N h w) (hx : VR ρ m x a) (hn : n ≠ 0) :
    ∃ vs : List Value, mentsL es = [] ∧ vs.length = es.length * n ∧ (∀ u ∈ vs, u.oneCell' = true) ∧ (∀ c' o', (∀ j u, vs[j]? = some u → c'[o' + j]? = some u) → VRE ρ m n es c' o') ∧ (∀ w', (Builtin.lenOf a).run P w' = .ok es.length w') ∧
      (∀ w' : World, w'.heap = w.heap → ∀ k, k ≤ es.length → (Builtin.firstCells n k a).run P w' = .ok (vs.take (k * n)).toArray w') := by
  have cells : ∀ {r o : Nat} {c : Array Value} {el : TypeId} {fr : Nat × Nat}, w.heap[r]? = some (.cells c el fr) → ∀ {vs : List Value}, vs.length = es.length * n → (∀ j u, vs[j]? = some u → c[o + j]? = some u) →
      ∀ w' : World, w'.heap = w.heap → ∀ k ln cap, k ≤ es.length → (Builtin.firstCells n k (.slice (some ⟨r, o, none⟩) ln cap)).run P w' = .ok (vs.take (k * n)).toArray w' := by
    intro r o c el fr hh vs hvl hv w' hw k ln cap hk
    have hle : k * n ≤ es.length * n := Nat.mul_le_mul_right n hk
    have hl : (vs.take (k * n)).length = k * n := by simp; omega
    have := run_firstCells_some (P := P) w' n k ⟨r, o, none⟩ ln cap (vs.take (k * n)) hl (fun j u hu => by
      rw [List.getElem?_take] at hu
      split at hu
      · rw [add_at, cell_at (by rw [hw]; exact hh)]
        exact hv j u hu
      · cases hu)
    exact this
  unfold elems at e
  split at e
  · simp only [Option.some.injEq] at e; subst e
    simp only [VR] at hx; subst hx
    exact ⟨[], rfl, by simp, by simp, fun _ _ _ => by simp [VRE], fun _ => rfl, fun w' _ k hk => by simp [Builtin.firstCells]⟩
  · rename_i m' es'
    split at e
    · rename_i hc
      simp only [Option.some.injEq] at e; subst e
      simp only [VR] at hx
      obtain ⟨aa, cap, hcap, rfl, hm, hes⟩ := hx
      rcases hes with rfl | ⟨r, base, c, g1, rfl, g3⟩
      · refine ⟨[], rfl, by simp, by simp, fun _ _ _ => by simp [VRE], fun _ => rfl, fun w' _ k hk => ?_⟩
        have : k = 0 := by simpa using hk
        subst this
        cases aa <;> simp [Builtin.firstCells, loadCells, loadCellsFrom]
      · rcases hc with rfl | rfl
        · obtain ⟨el, fr, hh⟩ := i.ro r c g1
          obtain ⟨vs, k1, k2, k3, k4⟩ := g3.flat
          exact ⟨vs, hm, k1, k3, k4, fun _ => rfl, fun w' hw k hk => cells hh k1 k2 w' hw k _ _ hk⟩
        · refine ⟨[], rfl, by simp, by simp, fun _ _ _ => by simp [VRE], fun _ => rfl, fun w' _ k hk => ?_⟩
          have : k = 0 := by simpa using hk
          subst this
          simp [Builtin.firstCells, loadCells, loadCellsFrom]
    · simp at e
  · rename_i b m' off len
    split at e
    · rename_i m'' es' hb
      split at e
      · rename_i hc
        obtain ⟨rfl, rfl, hle⟩ := hc
        simp only [Option.some.injEq] at e; subst e
        simp only [VR] at hx
        obtain ⟨p, cap, hp, hcap, hsize, rfl⟩ := hx
        obtain ⟨p', h1, h2, h3⟩ := i.blk b _ hb
        rw [hp] at h1; simp only [Option.some.injEq] at h1; subst h1
        simp only [BR] at h2
        obtain ⟨c, el, fr, g1, g2, g3, g4, g5, g6, g7⟩ := h2
        obtain ⟨vs, k1, k2, k3, k4⟩ := ((g7.drop off).take len).flat
        have hlen : ((es'.drop off).take len).length = len := by simp; omega
        exact ⟨vs, mentsL_take _ (mentsL_drop _ g6), k1, k3, k4, fun _ => by rw [hlen]; rfl, fun w' hw k hk => cells g1 k1 k2 w' hw k _ _ hk⟩
      · simp at e
    · simp at e
  · rename_i s
    split at e
    · rename_i hn1; subst hn1
      simp only [Option.some.injEq] at e; subst e
      simp only [VR] at hx; subst hx
      refine ⟨s.map fun c => Value.int .u8 c.toNat, ?_, by simp, ?_, ?_, fun _ => ?_, fun w' _ k hk => ?_⟩
      · exact mentsL_nil_iff.2 fun y hy => by
          obtain ⟨c, _, rfl⟩ := List.mem_map.1 hy; rfl
      · intro u hu
        obtain ⟨c, _, rfl⟩ := List.mem_map.1 hu; rfl
      · intro c' o' hc
        refine VRE.of_get fun j y hy => ?_
        rw [List.getElem?_map] at hy
        simp only [Option.map_eq_some_iff] at hy
        obtain ⟨q, hq, rfl⟩ := hy
        refine ⟨.int .u8 q.toNat, rfl, rfl, by simp [Value.cells, Value.oneCell'], fun k u hu => ?_⟩
        cases k with
        | zero =>
          simp [Value.cells] at hu; subst hu
          rw [Nat.mul_one, Nat.add_zero]
          exact hc j _ (by rw [List.getElem?_map, hq]; rfl)
        | succ k => simp [Value.cells] at hu
      · simp [Builtin.lenOf]; rfl
      · simp only [List.length_map] at hk
        simp only [Builtin.firstCells, Sem.run_pure]
        congr 1
        apply Array.ext'
        simp only [Array.toList_map, Nat.mul_one]
        have : ((⟨s.toArray⟩ : ByteArray).extract 0 k).data.toList = s.take k := by
          rw [Lib.extract_data]; simp
        rw [this, List.map_take]
    · simp at e
  · simp at e


theorem setCells_over {r : Nat} {el : TypeId} {fr : Nat × Nat} : ∀ (vs : List Value) (o : Nat) (c : Array Value) (w : World), w.heap[r]? = some (.cells c el fr) → w.setCells r o vs = World.setBlk w r (.cells (overA c o vs) el fr)
  | [], o, c, w, hh => by simp only [Go.World.setCells, overA]; rw [setBlk_self hh]
  | v :: vs, o, c, w, hh => by
    simp only [Go.World.setCells, overA]
    rw [setCell_cells hh]
    have hlt := (Array.getElem?_eq_some_iff.1 hh).1
    rw [setCells_over (el := el) (fr := fr) vs (o + 1) (c.setIfInBounds o v) _ (by rw [setBlk_get]; simp [hlt]), setBlk_setBlk]

/-- A row that has grown into new memory. -/
theorem row_new {ρ : Rho} {m : Ro} {w0 w w' : World} {L : List Nat} {h : Heap} (i : Inv ρ m L w0.heap.size h w) (ev : Evo L w0 w) {cells : Array Value} {el : TypeId} (hw : w' = w.drew.alloc (.cells cells el)) (φ : List Nat) (dst n len cap : Nat) (hd : dst ∈ φ) (es : List DV) (δ : List (Nat × Option Blk))
    (hδ : ∀ b x, hget (setAll (forgetH φ h) δ) b = some x → hget ((forgetH φ h).set dst (some (.row n es))) b = some x) (hn : 0 < n) (hm : mentsL es = []) (hl : es.length = len) (hcap : len ≤ cap) (hs : cells.size = cap * n)
    (hE : VRE ρ m n es cells 0) : Post L w0.heap.size h w0 w ρ m { v := .rsl dst n 0 len, δ := δ, φ := φ } (.slice (some ⟨w.heap.size, 0, none⟩) len cap) w' (upd ρ dst ⟨w.heap.size, 0, cap * n⟩) m := by
  subst hw
  have hle : len * n ≤ cap * n := Nat.mul_le_mul_right n hcap
  have hold : ∀ r, r < w.heap.size → (w.drew.alloc (.cells cells el)).heap[r]? = w.heap[r]? := fun r hr => alloc_get_lt w.drew _ hr
  refine ⟨?_, Grows.refl _ m, fun b hb => (upd_other _ _ _ (fun e => hb (by rw [e]; exact hd))).symm, ?_, ev.grow hold rfl rfl rfl (by rw [World.size_alloc]; show w.heap.size ≤ w.heap.size + 1; omega)⟩
  · simp only [VR]
    exact ⟨_, cap, upd_same .., hcap, by simp, by simp⟩
  · refine (i.grow ev.size hold φ dst hd (.row n es) (cap * n) ?_).less hδ
    simp only [BR]
    exact ⟨cells, el, (0, 0), alloc_get_new w.drew _, hs, nf_zero _, hn, by rw [hl]; simpa using hle, hm, VRE.rho _ (by rw [hm]; simp) hE⟩

include hT

omit hT in
theorem roomy_le {b k : Nat} (h : roomy b k = true) : k ≤ 4294967296 ∧ b * k ≤ 4294967296 := by simpa [roomy] using h

theorem appendOp_ok {ρ : Rho} {m : Ro} {w0 w : World} {L : List Nat} {h : Heap} {dst t tx : Nat} {s x : DV} {a c : Value} {out : Out} (e : appendOp C h dst t s x = some out) (i : Inv ρ m L w0.heap.size h w) (ev : Evo L w0 w) (hs : VR ρ m s a) (hx : VR ρ m x c)
    (hk : (∃ e', P.underlying tx = some (.slice e')) ∨ P.underlying tx = some .string) (ty : TypeId) :
    ∃ v' w' ρ' m', (Builtin.append_ #[t, tx] ty #[a, c]).run P w = .ok v' w' ∧ Post L w0.heap.size h w0 w ρ m out v' w' ρ' m' := by
  unfold appendOp at e
  split at e
  · rename_i ti ht
    obtain ⟨dd, hu, hd⟩ := (hT t ti ht).desc
    split at e
    · rename_i el he
      rw [he] at hd; simp only [TdOK] at hd; subst hd
      split at e
      · rename_i te hte
        split at e
        · simp at e
        · rename_i hs0'
          have hs0 : te.size ≠ 0 := fun h => hs0' (.inl h)
          obtain ⟨ie, hie, hse, hbe, hzz⟩ := (hT el te hte).info
          split at e
          · simp at e
          · rename_i xs hxs
            obtain ⟨vs, k1, k2, k3, k4, k5, k6⟩ := elems_ok (P := P) hxs i hx hs0
            have hsrc : Src P ie.size tx c xs.length vs w := by
              have hfull : vs.take (xs.length * te.size) = vs := List.take_of_length_le (by omega)
              refine ⟨hk, k5, ?_, ?_, by rw [k2, hse], k3⟩
              · have := k6 w rfl xs.length (Nat.le_refl _)
                rwa [hfull, ← hse] at this
              · have := k6 w.drew rfl xs.length (Nat.le_refl _)
                rwa [hfull, ← hse] at this
            have hzsz : te.zero.length = te.size := Decidable.byContradiction fun h => hs0' (.inr h)
            have hzne : te.zero ≠ [] := by intro h; rw [h] at hzsz; simp at hzsz; omega
            obtain ⟨z, hz, kz, oz, mz⟩ := hzz hzne
            split at e
            · simp only [VR] at hs; subst hs
              split at e
              · simp only [Option.some.injEq] at e; subst e
                have hv0 : vs = [] := List.length_eq_zero_iff.1 (by simpa using k2)
                subst hv0
                exact ⟨.slice none 0 0, w, ρ, m, run_append_nothing w t tx ty el ie hu hie none 0 0 (Nat.le_refl _) c hsrc, post_same i ev rfl⟩
              · rename_i hne
                split at e
                · rename_i hro
                  obtain ⟨hro1, hro'⟩ := roomy_le hro
                  simp only [Option.some.injEq] at e; subst e
                  have hpos : 0 < xs.length := by
                    cases xs with
                    | nil => exact absurd rfl hne
                    | cons => simp
                  have hlen : xs.length ≤ 4294967296 := by omega
                  have hcap : Builtin.nextslicecap (0 + xs.length) 0 * ie.bytes ≤ 281474976710656 := by
                    have h1 := nextslicecap_le (need := 0 + xs.length) (old := 0) (by omega)
                    have h2 := Nat.mul_le_mul_right ie.bytes h1
                    rw [hbe] at h2 ⊢
                    have h3 : 2 * (0 + xs.length) * te.bytes = 2 * (te.bytes * xs.length) := by rw [Nat.zero_add, Nat.mul_assoc, Nat.mul_comm xs.length]
                    omega
                  have hrun := run_append_grow_src (P := P) w t tx ty el ie z hu hie hz none 0 0 [] (run_firstCells_none w.drew ie.size 0 0 0) c xs.length vs hsrc (by omega) (by omega) hcap
                  have hge := grownCap_ge w (0 + xs.length) 0 el
                  have hzs : z.cells.size = te.size := by have := kz.length; simp at this; rw [this]; exact hzsz
                  rw [Nat.zero_add] at hrun hge
                  refine ⟨_, _, upd ρ dst ⟨w.heap.size, 0, grownCap w xs.length 0 el * te.size⟩, m, hrun, ?_⟩
                  refine row_new i ev rfl [dst] dst te.size xs.length (grownCap w xs.length 0 el) (by simp) xs _ (fun b x hx => by simpa [setAll] using hx) (by omega) k1 rfl (by omega) ?_ ?_
                  · simp [size_zeroCells, k2, hzs]
                    rw [← Nat.add_mul]; congr 1; omega
                  · refine k4 _ 0 fun j u hu => ?_
                    have hj := (List.getElem?_eq_some_iff.1 hu).1
                    rw [Nat.zero_add, Array.getElem?_append_left (by simpa using hj)]
                    simpa using hu
                · simp at e
            · rename_i b n off len
              simp only [VR] at hs
              obtain ⟨p, cap, hp, hcap, hsize, rfl⟩ := hs
              split at e
              · rename_i n' es hb
                split at e
                · rename_i hc
                  obtain ⟨rfl, rfl, hle, hro⟩ := hc
                  obtain ⟨hro1, hro'⟩ := roomy_le hro
                  simp only [Option.some.injEq] at e; subst e
                  obtain ⟨p', h1, h2, h3, h4⟩ := i.blk b _ hb
                  rw [hp] at h1; simp only [Option.some.injEq] at h1; subst h1
                  simp only [BR] at h2
                  obtain ⟨cc, ell, fr, g1, g2, g3, g4, g5, g6, g7⟩ := h2
                  have hsub := (g7.drop off).take len
                  have hsl : ((es.drop off).take len).length = len := by simp; omega
                  have hms : mentsL ((es.drop off).take len) = [] := mentsL_take _ (mentsL_drop _ g6)
                  have hmall : mentsL ((es.drop off).take len ++ xs) = [] := by rw [mentsL_append, hms, k1]; rfl
                  by_cases hroom : len + xs.length ≤ cap
                  · have hbnd : (off + cap) * te.size = off * te.size + cap * te.size := Nat.add_mul ..
                    have hb2 : (len + xs.length) * te.size ≤ cap * te.size := Nat.mul_le_mul_right _ hroom
                    rw [Nat.add_mul] at hb2
                    have hrun := run_append_room_src (P := P) w t tx ty el ie hu hie p.blk (p.base + off * te.size) len cap c xs.length vs hsrc hroom
                      (fun j hj => by rw [hse, cell_at g1]; simp; omega) (fun j hj => by rw [hse]; exact frozen_at g1 g3 (by omega))
                    rw [setCells_over vs _ cc w g1, hse] at hrun
                    have hrow : VRE ρ m te.size ((es.drop off).take len ++ xs) (overA cc (p.base + off * te.size + len * te.size) vs) (p.base + off * te.size) := by
                      refine VRE.of_get fun j x hx => ?_
                      by_cases hj : j < len
                      · rw [List.getElem?_append_left (by omega)] at hx
                        obtain ⟨v, q1, q2, q3, q4⟩ := hsub.get j x hx
                        refine ⟨v, q1, q2, q3, fun k u hu => ?_⟩
                        have hk : k < te.size := by have := (Array.getElem?_eq_some_iff.1 hu).1; omega
                        have hjk : (j + 1) * te.size ≤ len * te.size := Nat.mul_le_mul_right _ hj
                        rw [Nat.succ_mul] at hjk
                        rw [overA_get _ _ _ _ (by omega), if_neg (by omega)]
                        exact q4 k u hu
                      · rw [List.getElem?_append_right (by omega), hsl] at hx
                        have hE := k4 (overA cc (p.base + off * te.size + len * te.size) vs) (p.base + off * te.size + len * te.size) (fun k u hu => by
                          have hk := (List.getElem?_eq_some_iff.1 hu).1
                          rw [overA_get _ _ _ _ (by omega), if_pos (by omega), Nat.add_sub_cancel_left]; exact hu)
                        obtain ⟨v, q1, q2, q3, q4⟩ := hE.get _ x hx
                        refine ⟨v, q1, q2, q3, fun k u hu => ?_⟩
                        have := q4 k u hu
                        rwa [show p.base + off * te.size + len * te.size + (j - len) * te.size + k = p.base + off * te.size + j * te.size + k by
                          have : len * te.size + (j - len) * te.size = j * te.size := by rw [← Nat.add_mul]; congr 1; omega
                          omega] at this
                    refine ⟨_, _, upd ρ dst ⟨p.blk, p.base + off * te.size, p.size⟩, m, hrun, ⟨?_, Grows.refl _ m, fun b' hb' => (upd_other _ _ _ (fun e => hb' (by simp [e]))).symm, ?_, ev.setBlk _ h4.1⟩⟩
                    · simp only [VR]
                      exact ⟨_, cap, upd_same .., hroom, by simp; omega, by simp⟩
                    · refine i.move hb hp (q := ⟨p.blk, p.base + off * te.size, p.size⟩) rfl _ ?_ rfl
                      simp only [BR]
                      refine ⟨_, ell, fr, by rw [setBlk_get]; simp [(Array.getElem?_eq_some_iff.1 g1).1], by rw [overA_size]; exact g2, fun o ho => g3 o (by rwa [overA_size] at ho), by omega, ?_, hmall, VRE.rho _ (by rw [hmall]; simp) hrow⟩
                      rw [List.length_append, hsl, Nat.add_mul]; omega
                  · have hlen' : len + xs.length ≤ 4294967296 := by omega
                    have hfits : Builtin.nextslicecap (len + xs.length) cap * ie.bytes ≤ 281474976710656 := by
                      have h1 := nextslicecap_le (need := len + xs.length) (old := cap) (by omega)
                      have h2 := Nat.mul_le_mul_right ie.bytes h1
                      rw [hbe] at h2 ⊢
                      have h3 : 2 * (len + xs.length) * te.bytes = 2 * (te.bytes * (len + xs.length)) := by rw [Nat.mul_assoc, Nat.mul_comm (len + xs.length)]
                      omega
                    obtain ⟨os, q1, q2, q3, q4⟩ := hsub.flat
                    rw [hsl] at q1
                    have hold := run_firstCells_some (P := P) w.drew ie.size len ⟨p.blk, p.base + off * te.size, none⟩ len cap os (by rw [hse]; exact q1) (fun j u hu => by
                      rw [add_at, cell_at (w := w.drew) g1]; exact q2 j u hu)
                    have hrun := run_append_grow_src (P := P) w t tx ty el ie z hu hie hz (some ⟨p.blk, p.base + off * te.size, none⟩) len cap os hold c xs.length vs hsrc (by omega) (by omega) hfits
                    have hge := grownCap_ge w (len + xs.length) cap el
                    have hzs : z.cells.size = te.size := by have := kz.length; simp at this; rw [this]; exact hzsz
                    refine ⟨_, _, upd ρ dst ⟨w.heap.size, 0, grownCap w (len + xs.length) cap el * te.size⟩, m, hrun, ?_⟩
                    refine row_new i ev rfl [b, dst] dst te.size (len + xs.length) (grownCap w (len + xs.length) cap el) (by simp) _ _ (fun b' x hx => set_none_less _ _ _ _ _ _ hx) (by omega) hmall (by rw [List.length_append, hsl]) (by omega) ?_ ?_
                    · simp [size_zeroCells, k2, q1, hzs]
                      rw [← Nat.add_mul, ← Nat.add_mul]; congr 1; omega
                    · have hcells : ∀ j u, (os ++ vs)[j]? = some u → ((os ++ vs).toArray ++ Builtin.zeroCells z.cells (grownCap w (len + xs.length) cap el - (len + xs.length)))[j]? = some u := fun j u hu => by
                        have hj := (List.getElem?_eq_some_iff.1 hu).1
                        rw [Array.getElem?_append_left (by simpa using hj)]
                        simpa using hu
                      generalize ((os ++ vs).toArray ++ Builtin.zeroCells z.cells (grownCap w (len + xs.length) cap el - (len + xs.length))) = big at hcells
                      refine VRE.of_get fun j x hx => ?_
                      by_cases hj : j < len
                      · rw [List.getElem?_append_left (by omega)] at hx
                        have hE := q4 big 0 (fun k u hu => by
                          have hk := (List.getElem?_eq_some_iff.1 hu).1
                          rw [Nat.zero_add]; exact hcells k u (by rw [List.getElem?_append_left hk]; exact hu))
                        exact hE.get j x hx
                      · rw [List.getElem?_append_right (by omega), hsl] at hx
                        have hE := k4 big (len * te.size) (fun k u hu => hcells _ u (by rw [List.getElem?_append_right (by omega), q1, Nat.add_sub_cancel_left]; exact hu))
                        obtain ⟨v, r1, r2, r3, r4⟩ := hE.get _ x hx
                        refine ⟨v, r1, r2, r3, fun k u hu => ?_⟩
                        have := r4 k u hu
                        rwa [show len * te.size + (j - len) * te.size + k = 0 + j * te.size + k by
                          have : len * te.size + (j - len) * te.size = j * te.size := by rw [← Nat.add_mul]; congr 1; omega
                          omega] at this
                · simp at e
              · simp at e
            · simp at e
      · simp at e
    · simp at e
  · simp at e
end
end Go.Det
end

section
set_option linter.unusedVariables false
set_option linter.unusedSimpArgs false
namespace Go.Det

section
variable {P : Program} {C : Cfg} (hT : ∀ t ti, C.T t = some ti → TiOK P t ti)
include hT

theorem copyOp_ok {ρ : Rho} {m : Ro} {w0 w : World} {L : List Nat} {h : Heap} {t tx : Nat} {d s : DV} {a c : Value} {out : Out} (e : copyOp C h t d s = some out) (i : Inv ρ m L w0.heap.size h w) (ev : Evo L w0 w) (hd : VR ρ m d a) (hs : VR ρ m s c) (ts : Array TypeId) (ht0 : ts[0]? = some t) (ty : TypeId) :
    ∃ v' w' ρ' m', (Builtin.copy_ ts ty #[a, c]).run P w = .ok v' w' ∧ Post L w0.heap.size h w0 w ρ m out v' w' ρ' m' := by
  unfold copyOp at e
  split at e
  · rename_i ti ht
    obtain ⟨dd, hu, hdd⟩ := (hT t ti ht).desc
    split at e
    · rename_i el he
      rw [he] at hdd; simp only [TdOK] at hdd; subst hdd
      split at e
      · rename_i te hte
        have hsz := run_size (hT el te hte)
        split at e
        · simp at e
        · rename_i hs0
          split at e
          · simp at e
          · rename_i xs hxs
            obtain ⟨vs, k1, k2, k3, k4, k5, k6⟩ := elems_ok (P := P) hxs i hs hs0
            split at e
            · simp only [Option.some.injEq] at e; subst e
              simp only [VR] at hd; subst hd
              have k6' := k6 w rfl 0 (Nat.zero_le _)
              simp only [Nat.zero_mul, List.take_zero] at k6'
              refine ⟨.int .i64 0, w, ρ, m, ?_, post_same i ev rfl⟩
              simp [Builtin.copy_, ht0, run_underlying hu, k5, hsz, k6', goInt]
            · rename_i b n off len
              simp only [VR] at hd
              obtain ⟨p, cap, hp, hcap, hsize, rfl⟩ := hd
              split at e
              · rename_i n' es hb
                split at e
                · rename_i hc
                  obtain ⟨rfl, rfl, hle⟩ := hc
                  simp only [Option.some.injEq] at e; subst e
                  obtain ⟨p', h1, h2, h3, h4⟩ := i.blk b _ hb
                  rw [hp] at h1; simp only [Option.some.injEq] at h1; subst h1
                  simp only [BR] at h2
                  obtain ⟨cc, ell, fr, g1, g2, g3, g4, g5, g6, g7⟩ := h2
                  have hyl : (xs.take len).length = min xs.length len := by simp [Nat.min_comm]
                  have hmn : Nat.min xs.length len = min xs.length len := rfl
                  have hk := k6 w rfl (min xs.length len) (Nat.min_le_left _ _)
                  have hmul : min xs.length len * te.size ≤ xs.length * te.size := Nat.mul_le_mul_right _ (Nat.min_le_left _ _)
                  have hmul2 : (off + min xs.length len) * te.size ≤ es.length * te.size := Nat.mul_le_mul_right _ (by have := Nat.min_le_right xs.length len; omega)
                  rw [Nat.add_mul] at hmul2
                  have hvl : (vs.take (min xs.length len * te.size)).length = min xs.length len * te.size := by simp; omega
                  have hrun := run_storeCells_over (P := P) (vs.take (min xs.length len * te.size)) 0 (p.base + off * te.size) cc w g1 g3 (by omega) (fun u hu => k3 u (List.mem_of_mem_take hu))
                  simp only [Nat.add_zero] at hrun
                  refine ⟨.int .i64 ((min xs.length len : Nat) : Int), World.setBlk w p.blk (.cells (overA cc (p.base + off * te.size) (vs.take (min xs.length len * te.size))) ell fr), ρ, m, ?_, ⟨by simp only [VR]; rw [hyl], Grows.refl _ m, fun _ _ => rfl, ?_, ev.setBlk _ h4.1⟩⟩
                  · simp [Builtin.copy_, ht0, run_underlying hu, k5, hsz, hmn, hk, hrun, goInt]
                  · simp only [forgetH_nil, setAll]
                    refine i.setBlk hb hp _ ?_ rfl
                    have htl : (es.take off).length = off := by simp; omega
                    have hm' : mentsL (es.take off ++ xs.take len ++ es.drop (off + (xs.take len).length)) = [] := by
                      rw [mentsL_append, mentsL_append, mentsL_take _ g6, mentsL_take _ k1, mentsL_drop _ g6]; rfl
                    have hll : (es.take off ++ xs.take len ++ es.drop (off + (xs.take len).length)).length = es.length := by
                      have := Nat.min_le_right xs.length len
                      simp only [List.length_append, List.length_drop, htl, hyl]; omega
                    simp only [BR]
                    refine ⟨overA cc (p.base + off * te.size) (vs.take (min xs.length len * te.size)), ell, fr, by rw [setBlk_get]; simp [(Array.getElem?_eq_some_iff.1 g1).1], by rw [overA_size]; exact g2, fun o ho => g3 o (by rwa [overA_size] at ho), g4, by rw [hll]; exact g5, hm', ?_⟩
                    refine VRE.of_get fun j x hx => ?_
                    by_cases hj1 : j < off
                    · rw [List.append_assoc, List.getElem?_append_left (by omega), List.getElem?_take, if_pos hj1] at hx
                      obtain ⟨v, q1, q2, q3, q4⟩ := g7.get j x hx
                      refine ⟨v, q1, q2, q3, fun k u hu => ?_⟩
                      have hk : k < te.size := by have := (Array.getElem?_eq_some_iff.1 hu).1; omega
                      have : (j + 1) * te.size ≤ off * te.size := Nat.mul_le_mul_right _ hj1
                      rw [Nat.succ_mul] at this
                      rw [overA_get _ _ _ _ (by omega), if_neg (by omega)]
                      exact q4 k u hu
                    · by_cases hj2 : j < off + min xs.length len
                      · rw [List.getElem?_append_left (by rw [List.length_append, htl, hyl]; exact hj2), List.getElem?_append_right (by omega), htl, List.getElem?_take] at hx
                        split at hx
                        · have hE := k4 (overA cc (p.base + off * te.size) vs) (p.base + off * te.size)
                          have hE2 : VRE ρ m te.size (xs.take (min xs.length len)) (overA cc (p.base + off * te.size) (vs.take (min xs.length len * te.size))) (p.base + off * te.size) := by
                            have h5 := k4 ((vs.toArray)) 0 (fun k u hu => by simpa using hu)
                            refine VRE.of_get fun q y hy => ?_
                            rw [List.getElem?_take] at hy
                            split at hy
                            · rename_i hq
                              obtain ⟨v, q1, q2, q3, q4⟩ := h5.get q y hy
                              refine ⟨v, q1, q2, q3, fun k u hu => ?_⟩
                              have hk : k < te.size := by have := (Array.getElem?_eq_some_iff.1 hu).1; omega
                              have h6 : (q + 1) * te.size ≤ min xs.length len * te.size := Nat.mul_le_mul_right _ hq
                              rw [Nat.succ_mul] at h6
                              rw [overA_get _ _ _ _ (by omega), if_pos (by omega), List.getElem?_take, if_pos (by omega)]
                              have := q4 k u hu
                              rw [show p.base + off * te.size + q * te.size + k - (p.base + off * te.size) = 0 + q * te.size + k by omega]
                              simpa using this
                            · cases hy
                          obtain ⟨v, q1, q2, q3, q4⟩ := hE2.get (j - off) x (by rw [List.getElem?_take, if_pos (by omega)]; exact hx)
                          refine ⟨v, q1, q2, q3, fun k u hu => ?_⟩
                          have := q4 k u hu
                          rwa [show p.base + off * te.size + (j - off) * te.size + k = p.base + j * te.size + k by
                            have : off * te.size + (j - off) * te.size = j * te.size := by rw [← Nat.add_mul]; congr 1; omega
                            omega] at this
                        · cases hx
                      · rw [List.getElem?_append_right (by rw [List.length_append, htl, hyl]; omega), List.length_append, htl, hyl, List.getElem?_drop, show off + min xs.length len + (j - (off + min xs.length len)) = j by omega] at hx
                        obtain ⟨v, q1, q2, q3, q4⟩ := g7.get j x hx
                        refine ⟨v, q1, q2, q3, fun k u hu => ?_⟩
                        have : (off + min xs.length len) * te.size ≤ j * te.size := Nat.mul_le_mul_right _ (by omega)
                        rw [Nat.add_mul] at this
                        rw [overA_get _ _ _ _ (by omega), if_neg (by omega)]
                        exact q4 k u hu
                · simp at e
              · simp at e
            · simp at e
      · simp at e
    · simp at e
  · simp at e

omit hT in
theorem bytesOf_ok {ρ : Rho} {m : Ro} : ∀ {es : List DV} {s : List UInt8}, bytesOf es = some s → ∃ ns : List Int, es = ns.map (fun n => DV.int .u8 n) ∧ s = ns.map fun n => UInt8.ofNat n.toNat
  | [], s, h => by simp [bytesOf] at h; subst h; exact ⟨[], rfl, rfl⟩
  | x :: l, s, h => by
    unfold bytesOf at h
    split at h
    · rename_i heq; cases heq
    · rename_i n l' heq
      simp only [List.cons.injEq] at heq
      obtain ⟨rfl, rfl⟩ := heq
      split at h
      · rename_i r hr
        simp only [Option.some.injEq] at h; subst h
        obtain ⟨ns, rfl, rfl⟩ := bytesOf_ok (ρ := ρ) (m := m) hr
        exact ⟨n :: ns, rfl, rfl⟩
      · simp at h
    · simp at h
omit hT in
theorem push_foldl (ns : List Int) : ∀ (b : ByteArray), (ns.foldl (fun r n => r.push (UInt8.ofNat n.toNat)) b).data.toList = b.data.toList ++ ns.map fun n => UInt8.ofNat n.toNat := by
  induction ns with
  | nil => intro b; simp
  | cons n ns ih =>
    intro b
    simp only [List.foldl_cons, List.map_cons]
    rw [ih]
    simp [ByteArray.push]

theorem convertOp_ok {ρ : Rho} {m : Ro} {w0 w : World} {L : List Nat} {h : Heap} {dst a b : Nat} {x : DV} {c : Value} {out : Out} (e : convertOp C h dst a b x = some out) (i : Inv ρ m L w0.heap.size h w) (ev : Evo L w0 w) (hx : VR ρ m x c) :
    ∃ v' w' ρ' m', (Go.convert a b c).run P w = .ok v' w' ∧ Post L w0.heap.size h w0 w ρ m out v' w' ρ' m' := by
  unfold convertOp at e
  split at e
  · rename_i ta tb hta htb
    obtain ⟨da, hua, hda⟩ := (hT a ta hta).desc
    obtain ⟨db, hub, hdb⟩ := (hT b tb htb).desc
    split at e
    · rename_i k k' n he
      rw [he] at hdb; simp only [TdOK] at hdb; subst hdb
      simp only [VR] at hx; subst hx
      simp only [Option.some.injEq] at e; subst e
      exact ⟨.int k (k.wrap n), w, ρ, m, by simp [Go.convert, run_underlying hua, run_underlying hub, Conv.intToInt], post_same i ev rfl⟩
    · rename_i k n he
      rw [he] at hdb; simp only [TdOK] at hdb; subst hdb
      simp only [VR] at hx; subst hx
      simp only [Option.some.injEq] at e; subst e
      exact ⟨.string (Utf8.encode n), w, ρ, m, by simp [Go.convert, run_underlying hua, run_underlying hub, Conv.intToString], post_same i ev (by simp [VR, Lib.mk_data])⟩
    · rename_i s he
      rw [he] at hdb; simp only [TdOK] at hdb; subst hdb
      simp only [VR] at hx; subst hx
      simp only [Option.some.injEq] at e; subst e
      exact ⟨.string ⟨s.toArray⟩, w, ρ, m, by simp [Go.convert, run_underlying hua, run_underlying hub], post_same i ev rfl⟩
    · rename_i el s he
      rw [he] at hdb; simp only [TdOK] at hdb; subst hdb
      simp only [VR] at hx; subst hx
      split at e
      · rename_i te hte
        split at e
        · rename_i hte8
          obtain ⟨de, hue, hde⟩ := (hT el te hte).desc
          rw [hte8] at hde; simp only [TdOK] at hde; subst hde
          split at e
          · rename_i hc
            obtain ⟨hs1, hro⟩ := hc
            simp only [Option.some.injEq] at e; subst e
            have hrun := Lib.run_convert_string_bytes (P := P) w a b el ⟨s.toArray⟩ hua hub hue
            have hge := grownCap_ge w s.length 0 el
            have hcs : (Lib.bytesCells w el ⟨s.toArray⟩).size = grownCap w s.length 0 el := by
              have : (⟨s.toArray⟩ : ByteArray).size = s.length := rfl
              simp [Lib.bytesCells, this]; omega
            have hm : mentsL (s.map fun c => DV.int .u8 c.toNat) = [] := mentsL_nil_iff.2 fun y hy => by
              obtain ⟨c, _, rfl⟩ := List.mem_map.1 hy; rfl
            refine ⟨_, _, _, m, hrun, post_grow i ev (fun r hr => Lib.bytesWorld_at_old w el _ r hr) (by simp [Lib.bytesWorld, World.freeze] <;> rfl) (by simp [Lib.bytesWorld, World.freeze] <;> rfl) (by simp [Lib.bytesWorld, World.freeze] <;> rfl) (by rw [Lib.bytesWorld_size]; omega) dst _ (grownCap w s.length 0 el) ?_ ?_⟩
            · simp only [BR]
              refine ⟨_, el, _, Lib.bytesWorld_at_new w el _, hcs, fun o ho ⟨h1, _⟩ => by omega, by omega, by simp; omega, hm, ?_⟩
              refine VRE.of_get fun j y hy => ?_
              rw [List.getElem?_map] at hy
              simp only [Option.map_eq_some_iff] at hy
              obtain ⟨q, hq, rfl⟩ := hy
              refine ⟨.int .u8 q.toNat, rfl, rfl, by simp [Value.cells, Value.oneCell'], fun k u hu => ?_⟩
              cases k with
              | zero =>
                simp [Value.cells] at hu; subst hu
                have hj := (List.getElem?_eq_some_iff.1 hq).1
                simp only [Lib.bytesCells, Nat.zero_add, Nat.mul_one, Nat.add_zero]
                rw [Array.getElem?_append_left (by simpa using hj)]
                simp [hq]
              | succ k => simp [Value.cells] at hu
            · simp only [VR]
              exact ⟨_, grownCap w s.length 0 el, upd_same .., hge, by simp, by simp; exact ⟨rfl, rfl⟩⟩
          · simp at e
        · simp at e
      · simp at e
    · rename_i x _ _ _ el he1 he2 hni hns
      rw [he1] at hda; simp only [TdOK] at hda; subst hda
      rw [he2] at hdb; simp only [TdOK] at hdb; subst hdb
      split at e
      · rename_i te hte
        split at e
        · rename_i hte8
          obtain ⟨de, hue, hde⟩ := (hT el te hte).desc
          rw [hte8] at hde; simp only [TdOK] at hde; subst hde
          split at e
          · split at e
            · rename_i s hs
              simp only [Option.some.injEq] at e; subst e
              simp only [Option.bind_eq_some_iff] at hs
              obtain ⟨es, hes, hb⟩ := hs
              obtain ⟨ns, rfl, rfl⟩ := bytesOf_ok (ρ := ρ) (m := m) hb
              obtain ⟨vs, k1, k2, k3, k4, k5, k6⟩ := elems_ok (P := P) hes i hx (by omega)
              simp only [List.length_map, Nat.mul_one] at k2 k5 k6
              have hvs : vs = ns.map (Value.int .u8) := by
                have hE := k4 vs.toArray 0 (fun j u hu => by simpa using hu)
                apply List.ext_getElem?
                intro j
                rw [List.getElem?_map]
                cases hj : ns[j]? with
                | none =>
                  have := List.getElem?_eq_none_iff.1 hj
                  rw [List.getElem?_eq_none_iff.2 (by omega)]; rfl
                | some n =>
                  obtain ⟨v, q1, q2, q3, q4⟩ := hE.get j (.int .u8 n) (by rw [List.getElem?_map, hj]; rfl)
                  simp only [VR] at q1; subst q1
                  have := q4 0 (.int .u8 n) rfl
                  simpa using this
              have hfull : vs.take ns.length = vs := List.take_of_length_le (by rw [hvs]; simp)
              have hfc := k6 w rfl ns.length (Nat.le_refl _)
              rw [hfull, hvs] at hfc
              have hln := k5 w
              have key : ∃ v', (Conv.bytesToString c).run P w = .ok v' w ∧ VR ρ m (.str (ns.map fun n => UInt8.ofNat n.toNat)) v' := by
                cases c <;> first | (simp [Builtin.lenOf] at hln; done) | skip
                · rename_i sb
                  exfalso
                  unfold elems at hes
                  split at hes
                  · simp [VR] at hx
                  · simp [VR] at hx
                  · simp [VR] at hx
                  · exact hns _ rfl
                  · simp at hes
                · rename_i ao ln cap
                  simp [Builtin.lenOf] at hln; subst hln
                  cases ao with
                  | none =>
                    simp [Builtin.firstCells] at hfc
                    subst hfc
                    exact ⟨.string .empty, by simp [Conv.bytesToString], rfl⟩
                  | some ad =>
                    simp only [Builtin.firstCells, Nat.mul_one] at hfc
                    refine ⟨_, run_bytesToString w ad ns.length cap ns hfc, ?_⟩
                    simp only [VR]
                    congr 1
                    rw [← Lib.mk_data (List.foldl _ _ _), push_foldl]
                    rfl
              obtain ⟨v', hr, hv⟩ := key
              refine ⟨v', w, ρ, m, ?_, post_same i ev hv⟩
              rw [← hr]
              unfold elems at hes
              split at hes
              · simp only [VR] at hx; subst hx
                simp [Go.convert, run_underlying hua, run_underlying hub, run_underlying hue]
              · simp only [VR] at hx; obtain ⟨_, _, _, rfl, _⟩ := hx
                simp [Go.convert, run_underlying hua, run_underlying hub, run_underlying hue]
              · simp only [VR] at hx; obtain ⟨_, _, _, _, _, rfl⟩ := hx
                simp [Go.convert, run_underlying hua, run_underlying hub, run_underlying hue]
              · exact absurd rfl (hns _)
              · simp at hes
            · simp at e
          · simp at e
        · simp at e
      · simp at e
    · simp at e
  · simp at e
end
end Go.Det
end

section
set_option linter.unusedVariables false
set_option linter.unusedSimpArgs false
namespace Go.Det

/-- What an operation that is no call of a Go function comes to. -/
def Comes1 (P : Program) (o : Oper) (a : Act) (w : World) (L : List Nat) (h : Heap) (w0 : World) (ρ : Rho) (m : Ro) (out : Out) : Prop :=
  ∃ nx v' w' ρ' m', (execOp a.eval o).run P w = .ok nx w' ∧ (nx = .value v' ∨ (nx = .skip ∧ v' = undef)) ∧ Post L w0.heap.size h w0 w ρ m out v' w' ρ' m'

section
variable {P : Program} {C : Cfg} (hT : ∀ t ti, C.T t = some ti → TiOK P t ti)

theorem VRL.opnds {w0 : World} {L : List Nat} {m0 : Ro} {st : St} {a : Act} {w : World} {ρ : Rho} {m : Ro} (r : Rel w0 L m0 st a w ρ m) (l : List Operand) : VRL ρ m (l.map (opnd st.t)) (l.map a.eval) :=
  VRL.map _ _ l fun x _ => r.opnd x
theorem PR.opnds {w0 : World} {L : List Nat} {m0 : Ro} {st : St} {a : Act} {w : World} {ρ : Rho} {m : Ro} (r : Rel w0 L m0 st a w ρ m) (ps : Array (Nat × Operand)) : PR ρ m (parts st.t ps) (ps.map fun (i, x) => (i, a.eval x)).toList := by
  simp only [parts, Array.toList_map]
  induction ps.toList with
  | nil => exact .nil
  | cons p l ih => exact .cons (r.opnd p.2) ih
theorem opt_opnd {w0 : World} {L : List Nat} {m0 : Ro} {st : St} {a : Act} {w : World} {ρ : Rho} {m : Ro} (r : Rel w0 L m0 st a w ρ m) (x : Option Operand) :
    (x.map (opnd st.t) = none ∧ x.map a.eval = none) ∨ ∃ y b, x.map (opnd st.t) = some y ∧ x.map a.eval = some b ∧ VR ρ m y b := by
  cases x with
  | none => exact .inl ⟨rfl, rfl⟩
  | some x => exact .inr ⟨_, _, rfl, rfl, r.opnd x⟩

theorem mmL_ok {ρ : Rho} {m : Ro} {mx : Bool} : ∀ {l : List DV} {x z : DV} {vs : List Value} {v : Value}, mmL mx x l = some z → VR ρ m x v → VRL ρ m l vs → ∀ w : World,
    ∃ u, (vs.foldlM (if mx then Builtin.max2 else Builtin.min2) v : Sem Value).run P w = .ok u w ∧ VR ρ m z u
  | [], x, z, vs, v, h, hx, hl, w => by
    simp only [mmL, Option.some.injEq] at h; subst h
    simp only [VRL] at hl; subst hl
    exact ⟨v, rfl, hx⟩
  | y :: l, x, z, vs, v, h, hx, hl, w => by
    simp only [VRL] at hl
    obtain ⟨u, r, rfl, hu, hr⟩ := hl
    simp only [mmL] at h
    split at h
    · rename_i q hq
      unfold mm2 at hq
      split at hq
      · simp only [VR] at hx hu; subst hx hu
        simp only [Option.some.injEq] at hq; subst hq
        rename_i k n k' n'
        have h2 : ((if mx then Builtin.max2 else Builtin.min2) (.int k n) (.int k' n') : Sem Value).run P w = .ok (.int k (if mx then (if n' > n then n' else n) else (if n' < n then n' else n))) w := by
          cases mx <;> simp [Builtin.max2, Builtin.min2]
        obtain ⟨u, k1, k2⟩ := mmL_ok h (v := .int k (if mx then (if n' > n then n' else n) else (if n' < n then n' else n))) (by simp only [VR]) hr w
        refine ⟨u, ?_, k2⟩
        rw [List.foldlM_cons, Sem.run_bind, h2, Result.andThen_ok]
        exact k1
      · simp at hq
    · simp at h

theorem comes_value {o : Oper} {a : Act} {w w' : World} {L : List Nat} {h : Heap} {w0 : World} {ρ ρ' : Rho} {m m' : Ro} {out : Out} {s : Sem Value} {v' : Value} (he : execOp a.eval o = (do pure (.value (← s)))) (hr : s.run P w = .ok v' w')
    (hp : Post L w0.heap.size h w0 w ρ m out v' w' ρ' m') : Comes1 P o a w L h w0 ρ m out :=
  ⟨.value v', v', w', ρ', m', by rw [he]; simp [hr], .inl rfl, hp⟩
theorem comes_unit {o : Oper} {a : Act} {w w' : World} {L : List Nat} {h : Heap} {w0 : World} {ρ ρ' : Rho} {m m' : Ro} {out : Out} {s : Sem Unit} (he : execOp a.eval o = (do s; pure .skip)) (hr : s.run P w = .ok () w')
    (hp : Post L w0.heap.size h w0 w ρ m out undef w' ρ' m') : Comes1 P o a w L h w0 ρ m out :=
  ⟨.skip, undef, w', ρ', m', by rw [he]; simp [hr], .inr ⟨rfl, rfl⟩, hp⟩

include hT
set_option maxHeartbeats 4000000 in
theorem act_ok {f : Nat} {w0 : World} {L : List Nat} {m0 : Ro} {st : St} {a : Act} {w : World} {ρ : Rho} {m : Ro} (r : Rel w0 L m0 st a w ρ m) (hG : GlobOK C m0) {o : Oper} {out : Out} (e : act C f st.t st.h o.dst o.op = some out) :
    Comes1 P o a w L st.h w0 ρ m out := by
  have hG' := hG.mono r.sub.1
  have same : ∀ {x : DV} {v' : Value}, VR ρ m x v' → Post L w0.heap.size st.h w0 w ρ m { v := x } v' w ρ m := fun h => post_same r.inv r.evo h
  unfold act at e
  split at e
  case h_1 x ho =>
    simp only [Option.some.injEq] at e; subst e
    exact ⟨.value (a.eval x), a.eval x, w, ρ, m, by simp [execOp, ho], .inl rfl, same (r.opnd x)⟩
  case h_2 x ho =>
    simp only [Option.some.injEq] at e; subst e
    exact ⟨.value (a.eval x), a.eval x, w, ρ, m, by simp [execOp, ho], .inl rfl, same (r.opnd x)⟩
  case h_3 c x y ho =>
    split at e
    · rename_i b hb
      simp only [Option.some.injEq] at e; subst e
      have hc := r.opnd c
      rw [hb] at hc; simp only [VR] at hc
      refine ⟨.value (if b then a.eval x else a.eval y), if b then a.eval x else a.eval y, w, ρ, m, by simp [execOp, ho, hc, asBool], .inl rfl, same ?_⟩
      cases b
      · exact r.opnd y
      · exact r.opnd x
    · simp at e
  case h_4 el ho =>
    split at e
    · rename_i te d hte hd
      split at e
      · rename_i hz
        simp only [Option.some.injEq] at e; subst e
        obtain ⟨v', w', ρ', m', k1, k2⟩ := alloc_ok (h := st.h) (d := d) hT hte hz r.inv r.evo
        exact comes_value (s := Instr.alloc el true (.tuple #[])) (by simp only [execOp, ho]) k1 k2
      · simp at e
    · simp at e
  case h_5 el x ho =>
    split at e
    · rename_i te d hte hd
      split at e
      · rename_i hz
        simp only [Option.some.injEq] at e; subst e
        obtain ⟨v', w', ρ', m', k1, k2⟩ := box_ok (P := P) (h := st.h) (d := d) hte hz r.inv r.evo (r.opnd x)
        exact comes_value (s := Instr.box el (a.eval x)) (by simp only [execOp, ho]) k1 k2
      · simp at e
    · simp at e
  case h_6 ty ps ho =>
    simp only [pv, Option.map_eq_some_iff] at e
    obtain ⟨z, hz, rfl⟩ := e
    obtain ⟨v', k1, k2⟩ := buildOp_ok hT hz (PR.opnds r ps) w
    exact comes_value (s := Instr.build ty (ps.map fun (i, x) => (i, a.eval x))) (by simp only [execOp, ho]) k1 (same k2)
  case h_7 ty len ps ho =>
    split at e
    · rename_i d hd
      obtain ⟨v', w', ρ', m', k1, k2⟩ := sliceLit_ok hT e r.inv r.evo (PR.opnds r ps)
      exact comes_value (s := Instr.buildSlice ty len (ps.map fun (i, x) => (i, a.eval x))) (by simp only [execOp, ho]) k1 k2
    · simp at e
  case h_8 ty x ho =>
    simp only [pv, Option.map_eq_some_iff] at e
    obtain ⟨z, hz, rfl⟩ := e
    obtain ⟨v', k1, k2⟩ := loadOp_ok hT hz r.inv hG' (r.opnd x)
    exact comes_value (s := Instr.loadAt ty (a.eval x)) (by simp only [execOp, ho]) k1 (same k2)
  case h_9 ty x y ho =>
    obtain ⟨w', k1, k2⟩ := storeOp_ok hT e r.inv r.evo (r.opnd x) (r.opnd y)
    exact comes_unit (s := Instr.storeAt ty (a.eval x) (a.eval y)) (by simp only [execOp, ho]) k1 k2
  case h_10 x ho =>
    have hx := r.opnd x
    split at e
    · rename_i b n i off hb
      simp only [Option.some.injEq] at e; subst e
      rw [hb] at hx
      refine ⟨.value (a.eval x), a.eval x, w, ρ, m, ?_, .inl rfl, same hx⟩
      simp only [VR] at hx
      obtain ⟨p, _, hp⟩ := hx
      simp [execOp, ho, hp]
    · rename_i n es i off hb
      simp only [Option.some.injEq] at e; subst e
      rw [hb] at hx
      refine ⟨.value (a.eval x), a.eval x, w, ρ, m, ?_, .inl rfl, same hx⟩
      simp only [VR] at hx
      obtain ⟨_, _, _, _, _, _, _, hp⟩ := hx
      simp [execOp, ho, hp]
    · simp at e
  case h_11 op ty x y _ ho =>
    split at e
    · simp at e
    · rename_i hn
      simp only [pv, Option.map_eq_some_iff] at e
      obtain ⟨z, hz, rfl⟩ := e
      obtain ⟨v', k1, k2⟩ := binOp_ok hT (xo := x) (yo := y) hz (r.opnd x) (r.opnd y) (fun h => by
        by_cases hc : (isC x || isC y) = true
        · exact hc
        · have hc' : (isC x || isC y) = false := by simpa using hc
          exact absurd (by rw [h, hc']; rfl) hn) w
      exact comes_value (by simp only [execOp, ho]) k1 (same k2)
  case h_12 op ty x ho =>
    simp only [pv, Option.map_eq_some_iff] at e
    obtain ⟨z, hz, rfl⟩ := e
    obtain ⟨v', k1, k2⟩ := unOp_ok (P := P) hz (r.opnd x) w
    exact comes_value (s := Op.unary op (a.eval x)) (by simp only [execOp, ho]) k1 (same k2)
  case h_13 ta tb x ho =>
    split at e
    · rename_i d hd
      obtain ⟨v', w', ρ', m', k1, k2⟩ := convertOp_ok hT e r.inv r.evo (r.opnd x)
      exact comes_value (s := Go.convert ta tb (a.eval x)) (by simp only [execOp, ho]) k1 k2
    · simp at e
  case h_14 ty x ho =>
    split at e
    · rename_i ti hti
      obtain ⟨dd, hu, hd⟩ := (hT ty ti hti).desc
      split at e
      · simp at e
      · rename_i hni
        simp only [Option.some.injEq] at e; subst e
        have hx := r.opnd x
        refine comes_value (s := Instr.makeInterface ty (a.eval x)) (v' := .iface ty (a.eval x)) (w' := w) (by simp only [execOp, ho]) ?_ (same (by simp only [VR]; exact ⟨_, rfl, hx⟩))
        have hnd : ∀ ms, dd ≠ .interface ms := by
          intro ms hms
          subst hms
          cases htd : ti.d <;> rw [htd] at hd <;> simp only [TdOK] at hd <;> first
            | (cases hd; done)
            | (obtain ⟨_, hh, _⟩ := hd; cases hh; done)
            | (obtain ⟨_, _, _, hh⟩ := hd; cases hh; done)
            | (exact absurd htd hni)
            | (exact absurd rfl (hd.2.2 ms))
        simp only [Instr.makeInterface, Sem.run_bind, run_underlying hu, Result.andThen_ok]
        cases dd <;> first | rfl | exact absurd rfl (hnd _)
    · simp at e
  case h_15 fn first cap ho =>
    simp only [Option.some.injEq] at e; subst e
    refine comes_value (s := Instr.makeFunc fn (first.map a.eval) (cap.map a.eval)) (v' := .func fn (first.map a.eval) (cap.map a.eval)) (w' := w) (by simp only [execOp, ho]) rfl (same ?_)
    simp only [VR]
    exact ⟨_, _, rfl, by simpa using VRL.opnds r first.toList, by simpa using VRL.opnds r cap.toList⟩
  case h_16 ty l c ho =>
    split at e
    · rename_i d hd
      obtain ⟨v', w', ρ', m', k1, k2⟩ := makeSliceOp_ok hT e r.inv r.evo (r.opnd l) (r.opnd c)
      exact comes_value (s := Instr.makeSlice ty (a.eval l) (a.eval c)) (by simp only [execOp, ho]) k1 k2
    · simp at e
  case h_17 ty x lo hi mx ho =>
    split at e
    · simp only [pv, Option.map_eq_some_iff] at e
      obtain ⟨z, hz, rfl⟩ := e
      obtain ⟨v', k1, k2⟩ := sliceOp_ok hT hz (r.opnd x) (opt_opnd r lo) (opt_opnd r hi) w
      exact comes_value (s := Instr.sliceAt ty (a.eval x) (lo.map a.eval) (hi.map a.eval) none) (by simp only [execOp, ho]; rfl) k1 (same k2)
    · simp at e
  case h_18 ty x fi ho =>
    simp only [pv, Option.map_eq_some_iff] at e
    obtain ⟨z, hz, rfl⟩ := e
    obtain ⟨v', k1, k2⟩ := fieldAddrOp_ok hT hz (r.opnd x) w
    exact comes_value (s := Instr.fieldAt ty (a.eval x) fi) (by simp only [execOp, ho]) k1 (same k2)
  case h_19 ty x fi ho =>
    simp only [pv, Option.map_eq_some_iff] at e
    obtain ⟨z, hz, rfl⟩ := e
    obtain ⟨v', k1, k2⟩ := fieldOp_ok hT hz (r.opnd x) w
    exact comes_value (s := Instr.field ty (a.eval x) fi) (by simp only [execOp, ho]) k1 (same k2)
  case h_20 ty x i ho =>
    simp only [pv, Option.map_eq_some_iff] at e
    obtain ⟨z, hz, rfl⟩ := e
    obtain ⟨v', k1, k2⟩ := indexAddrOp_ok hT hz (r.opnd x) (r.opnd i) w
    exact comes_value (s := Instr.indexAt ty (a.eval x) (a.eval i)) (by simp only [execOp, ho]) k1 (same k2)
  case h_21 ty x i ho =>
    simp only [pv, Option.map_eq_some_iff] at e
    obtain ⟨z, hz, rfl⟩ := e
    obtain ⟨v', k1, k2⟩ := indexOp_ok hT hz (r.opnd x) (r.opnd i) w
    exact comes_value (s := Instr.index ty (a.eval x) (a.eval i)) (by simp only [execOp, ho]) k1 (same k2)
  case h_22 ty x ho =>
    split at e
    · rename_i ti d hti hd
      obtain ⟨dd, hu, hdd⟩ := (hT ty ti hti).desc
      split at e
      · rename_i s hs he
        simp only [Option.some.injEq] at e; subst e
        rw [hs] at hdd; simp only [TdOK] at hdd; subst hdd
        have hx := r.opnd x
        rw [he] at hx; simp only [VR] at hx
        refine comes_value (s := Instr.range ty (a.eval x)) (by simp only [execOp, ho]) (v' := .pointer (some ⟨w.heap.size, 0, none⟩)) (w' := w.alloc (.stringIter ⟨s.toArray⟩ 0)) ?_ (post_alloc r.inv r.evo _ d _ 0 ?_ ?_)
        · rw [hx]
          simp [Instr.range, run_underlying hu]
        · simp only [BR]
          exact ⟨alloc_get_new w _, trivial⟩
        · simp only [VR]
          exact ⟨_, upd_same .., by simp⟩
      · simp at e
    · simp at e
  case h_23 it ho =>
    have hx := r.opnd it
    split at e
    · rename_i b hb
      rw [hb] at hx; simp only [VR] at hx
      obtain ⟨p, hp, hx⟩ := hx
      split at e
      · rename_i s pos hs
        obtain ⟨p', h1, h2, h3, h4⟩ := r.inv.blk b _ hs
        rw [hp] at h1; simp only [Option.some.injEq] at h1; subst h1
        simp only [BR] at h2
        obtain ⟨g1, g2⟩ := h2
        have hx' : a.eval it = .pointer (some ⟨p.blk, 0, none⟩) := by rw [hx, g2]
        obtain ⟨hlt, hval⟩ := Array.getElem?_eq_some_iff.1 g1
        have hget : ∀ w' : World, w'.heap = w.heap → (getObj p.blk).run P w' = .ok (.stringIter ⟨s.toArray⟩ pos) w' := by
          intro w' hw
          simp [getObj, Sem.run, hw, g1]
        split at e
        · rename_i hlt'
          simp only [Option.some.injEq] at e; subst e
          refine comes_value (s := Instr.next (a.eval it) true o.type) (by simp only [execOp, ho]) (v' := .tuple #[.bool true, goInt pos, .int .i32 (Utf8.decode ⟨s.toArray⟩ pos).1]) (w' := World.setBlk w p.blk (.stringIter ⟨s.toArray⟩ (pos + (Utf8.decode ⟨s.toArray⟩ pos).2))) (ρ' := ρ) (m' := m) ?_ ⟨?_, Grows.refl _ m, fun _ _ => rfl, ?_, r.evo.setBlk _ h4.1⟩
          · rw [hx']
            have hsz : pos < (⟨s.toArray⟩ : ByteArray).size := hlt'
            have hset : ∀ o' : Obj, (setObj p.blk o').run P w = .ok () (World.setBlk w p.blk o') := by
              intro o'
              simp [setObj, Sem.run, g1, World.setBlk]
            simp [Instr.next, hget w rfl, hsz, hset]
          · simp only [VR]
            exact ⟨_, rfl, VRL.cons rfl (VRL.cons rfl (VRL.cons rfl (by simp [VRL])))⟩
          · simp only [forgetH_nil, setAll]
            refine r.inv.setBlk hs hp _ ?_ rfl
            simp only [BR]
            exact ⟨by rw [setBlk_get]; simp [hlt], g2⟩
        · rename_i hge
          simp only [Option.some.injEq] at e; subst e
          refine comes_value (s := Instr.next (a.eval it) true o.type) (by simp only [execOp, ho]) (v' := .tuple #[.bool false]) (w' := w) ?_ (same ?_)
          · rw [hx']
            have hsz : ¬ (pos < (⟨s.toArray⟩ : ByteArray).size) := hge
            simp [Instr.next, hget w rfl, hsz]
          · simp only [VR]
            exact ⟨_, rfl, VRL.cons rfl (by simp [VRL])⟩
      · simp at e
    · simp at e
  case h_24 x ix ho =>
    have hx := r.opnd x
    split at e
    · rename_i vs hvs
      simp only [pv, Option.map_eq_some_iff] at e
      obtain ⟨z, hz, rfl⟩ := e
      rw [hvs] at hx; simp only [VR] at hx
      obtain ⟨us, hu, hl⟩ := hx
      obtain ⟨v, hv, hr⟩ := hl.get ix z hz
      exact comes_value (s := Instr.extract (a.eval x) ix) (v' := v) (w' := w) (by simp only [execOp, ho]) (by rw [hu]; simp at hv; simp [Instr.extract, hv]) (same hr)
    · simp at e
  case h_25 b as1 ts ho =>
    have hex : ∀ (tgt : Sem Value), builtin b ts o.type (as1.map fun | .const _ => true | _ => false) (as1.map a.eval) = (do pure (.value (← tgt))) → execOp a.eval o = (do pure (.value (← tgt))) := by
      intro tgt h
      simp only [execOp, ho, resolve]
      exact h
    split at e
    · rename_i s x ty tx hs ht
      have has : as1 = #[s, x] := by apply Array.ext'; simpa using hs
      have hts : ts = #[ty, tx] := by apply Array.ext'; simpa using ht
      subst has hts
      split at e
      · rename_i d ux hd hux
        have hk : ∀ {out'}, appendOp C st.h d ty (opnd st.t s) (opnd st.t x) = some out' → ((∃ e', P.underlying tx = some (.slice e')) ∨ P.underlying tx = some .string) → Comes1 P o a w L st.h w0 ρ m out' := by
          intro out' e' hk
          obtain ⟨v', w', ρ', m', k1, k2⟩ := appendOp_ok hT e' r.inv r.evo (r.opnd s) (r.opnd x) hk o.type
          exact comes_value (hex (Builtin.append_ #[ty, tx] o.type #[a.eval s, a.eval x]) (by simp [builtin])) k1 k2
        obtain ⟨dd, hu, hdd⟩ := (hT tx ux hux).desc
        split at e
        · rename_i e' he
          rw [he] at hdd; simp only [TdOK] at hdd; subst hdd
          exact hk e (.inl ⟨_, hu⟩)
        · rename_i he
          rw [he] at hdd; simp only [TdOK] at hdd; subst hdd
          exact hk e (.inr hu)
        · simp at e
      · simp at e
    · rename_i x y ty l hs ht
      have has : as1 = #[x, y] := by apply Array.ext'; simpa using hs
      have hts : ts[0]? = some ty := by have := congrArg (·[0]?) ht; simpa using this
      subst has
      obtain ⟨v', w', ρ', m', k1, k2⟩ := copyOp_ok hT (tx := 0) e r.inv r.evo (r.opnd x) (r.opnd y) ts hts o.type
      exact comes_value (hex (Builtin.copy_ ts o.type #[a.eval x, a.eval y]) (by simp [builtin])) k1 k2
    · rename_i x ty l hs ht
      have has : as1 = #[x] := by apply Array.ext'; simpa using hs
      have hts : ts[0]? = some ty := by have := congrArg (·[0]?) ht; simpa using this
      subst has
      simp only [pv, Option.map_eq_some_iff] at e
      obtain ⟨z, hz, rfl⟩ := e
      obtain ⟨v', k1, k2⟩ := lenOp_ok hT hz (r.opnd x) ts hts o.type w
      exact comes_value (hex (Builtin.len_ ts o.type #[a.eval x]) (by simp [builtin])) k1 (same k2)
    · rename_i ts' x l hs
      have has : as1 = (x :: l).toArray := by apply Array.ext'; simpa using hs
      subst has
      simp only [pv, Option.map_eq_some_iff] at e
      obtain ⟨z, hz, rfl⟩ := e
      obtain ⟨u, k1, k2⟩ := mmL_ok (P := P) hz (r.opnd x) (VRL.opnds r l) w
      exact comes_value (hex (Builtin.max_ ts o.type (((x :: l).map a.eval).toArray)) (by simp [builtin])) (by simpa [Builtin.max_] using k1) (same k2)
    · rename_i ts' x l hs
      have has : as1 = (x :: l).toArray := by apply Array.ext'; simpa using hs
      subst has
      simp only [pv, Option.map_eq_some_iff] at e
      obtain ⟨z, hz, rfl⟩ := e
      obtain ⟨u, k1, k2⟩ := mmL_ok (P := P) hz (r.opnd x) (VRL.opnds r l) w
      exact comes_value (hex (Builtin.min_ ts o.type (((x :: l).map a.eval).toArray)) (by simp [builtin])) (by simpa [Builtin.min_] using k1) (same k2)
    · simp at e
  case h_26 => simp at e
end
end Go.Det
end
