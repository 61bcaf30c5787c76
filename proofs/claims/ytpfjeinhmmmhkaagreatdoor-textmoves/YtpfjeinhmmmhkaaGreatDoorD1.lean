/- TextMovesCardSaid: part 1 of the texts behind it: ShA, DetA, DetB, DetC, DetD, DetE, DetF. No premise of its own. -/
import Derived.Shelf.Strings.OnBuilder
import Derived.Shelf.Small.Strs
import Derived.Shelf.Strings.Replace
import Derived.Shelf.Strings.Shaped
import Derived.Shelf.LaysM
import Derived.Test.YtpfjeinhmmmhkaaGreatDoorProg
import Derived.Calls
import Derived.Scope
import Derived.ScopeJumps
import Derived.LoopN
import Derived.Deep.AppendSrc
import Derived.Laws.IdiomCopy
import Derived.Laws.BytesString
import Derived.Laws.MakeOwn
import Derived.Laws.StructEq
import Derived.Laws.Tables
import Derived.Lib.Strings
set_option linter.all false
section
namespace Go.Proofs
open Go.Shelf
def Tryz.lays156_ren : Go.Shelf.Ren := ⟨fun | 156 => 61 | 165 => 100 | 166 => 101 | 169 => 102 | 240 => 142 | 241 => 143 | 276 => 178 | 277 => 179 | n => n, fun | 31 => 68 | 9 => 9 | 3 => 3 | 4 => 4 | 0 => 0 | 20 => 20 | 72 => 148 | 76 => 152 | 70 => 145 | 37 => 146 | 75 => 151 | 127 => 194 | 164 => 226 | 5 => 5 | 80 => 154 | n => n, fun | n => n⟩
theorem Tryz.lays156 : Go.Proofs.Lays.n156 Tryz.prog Tryz.lays156_ren := {
  mixed := by kernel_rfl
  f156 := Tryz.func61.trans (congrArg some (by kernel_rfl))
  f165 := Tryz.func100.trans (congrArg some (by kernel_rfl))
  f166 := Tryz.func101.trans (congrArg some (by kernel_rfl))
  f169 := Tryz.func102.trans (congrArg some (by kernel_rfl))
  f240 := Tryz.func142.trans (congrArg some (by kernel_rfl))
  f241 := Tryz.func143.trans (congrArg some (by kernel_rfl))
  f276 := Tryz.func178.trans (congrArg some (by kernel_rfl))
  f277 := Tryz.func179.trans (congrArg some (by kernel_rfl))
  t0 := Tryz.underlying0
  a0 := Tryz.isAgg0
  z0 := Tryz.sizeOf0
  v0 := Tryz.zeroValue0
  t3 := Tryz.underlying3
  a3 := Tryz.isAgg3
  z3 := Tryz.sizeOf3
  v3 := Tryz.zeroValue3
  t4 := Tryz.underlying4
  a4 := Tryz.isAgg4
  z4 := Tryz.sizeOf4
  v4 := Tryz.zeroValue4
  t9 := Tryz.underlying9
  a9 := Tryz.isAgg9
  z9 := Tryz.sizeOf9
  v9 := Tryz.zeroValue9
  t20 := Tryz.underlying20
  a20 := Tryz.isAgg20
  z20 := Tryz.sizeOf20
  v20 := Tryz.zeroValue20
  t31 := Tryz.underlying68
  a31 := Tryz.isAgg68
  z31 := Tryz.sizeOf68
  v31 := Tryz.zeroValue68
  t37 := Tryz.underlying146
  a37 := Tryz.isAgg146
  z37 := Tryz.sizeOf146
  v37 := Tryz.zeroValue146
  t70 := Tryz.underlying145
  a70 := Tryz.isAgg145
  z70 := Tryz.sizeOf145
  v70 := Tryz.zeroValue145
  t72 := Tryz.underlying148
  a72 := Tryz.isAgg148
  z72 := Tryz.sizeOf148
  v72 := Tryz.zeroValue148
  t75 := Tryz.underlying151
  a75 := Tryz.isAgg151
  z75 := Tryz.sizeOf151
  v75 := Tryz.zeroValue151
  t76 := Tryz.underlying152
  a76 := Tryz.isAgg152
  z76 := Tryz.sizeOf152
  v76 := Tryz.zeroValue152
  t127 := Tryz.underlying194
  a127 := Tryz.isAgg194
  z127 := Tryz.sizeOf194
  v127 := Tryz.zeroValue194
  t164 := Tryz.underlying226
  a164 := Tryz.isAgg226
  z164 := Tryz.sizeOf226
  v164 := Tryz.zeroValue226 }
theorem Tryz.Builder_Extra_156 : Builder.Extra Tryz.prog Tryz.lays156_ren := {
  sizeBuilder := by kernel_rfl
  liesBuilder := by kernel_rfl
  t5 := Tryz.underlying5
  a5 := Tryz.isAgg5
  z5 := Tryz.sizeOf5
  v5 := Tryz.zeroValue5
  infoByte := by kernel_rfl
  cellsByte := by kernel_rfl
  sizeByte := by kernel_rfl
  neB5 := by decide }
def Tryz.lays217_ren : Go.Shelf.Ren := ⟨fun | 217 => 154 | 266 => 191 | n => n, fun | 9 => 9 | 5 => 5 | 3 => 3 | n => n, fun | n => n⟩
theorem Tryz.lays217 : Go.Proofs.Lays.n217 Tryz.prog Tryz.lays217_ren := {
  mixed := by kernel_rfl
  f217 := Tryz.func154.trans (congrArg some (by kernel_rfl))
  f266 := Tryz.func191.trans (congrArg some (by kernel_rfl))
  t3 := Tryz.underlying3
  a3 := Tryz.isAgg3
  z3 := Tryz.sizeOf3
  v3 := Tryz.zeroValue3
  t5 := Tryz.underlying5
  a5 := Tryz.isAgg5
  z5 := Tryz.sizeOf5
  v5 := Tryz.zeroValue5
  t9 := Tryz.underlying9
  a9 := Tryz.isAgg9
  z9 := Tryz.sizeOf9
  v9 := Tryz.zeroValue9 }
def Tryz.lays155_ren : Go.Shelf.Ren := ⟨fun | 155 => 93 | 154 => 134 | 138 => 169 | 165 => 100 | 143 => 170 | 166 => 101 | 197 => 171 | 169 => 102 | 195 => 202 | 218 => 203 | 240 => 142 | 241 => 143 | 219 => 204 | 260 => 205 | 276 => 178 | 277 => 179 | 217 => 154 | 225 => 177 | 224 => 176 | 267 => 219 | 266 => 191 | 314 => 229 | n => n, fun | 9 => 9 | 3 => 3 | 4 => 4 | 72 => 148 | 0 => 0 | 76 => 152 | 105 => 218 | 21 => 21 | 5 => 5 | 70 => 145 | 20 => 20 | 37 => 146 | 75 => 151 | 127 => 194 | 164 => 226 | 46 => 224 | 119 => 234 | 139 => 237 | 138 => 236 | 146 => 255 | 51 => 242 | 80 => 154 | n => n, fun | 1 => 3 | 3 => 0 | 4 => 1 | n => n⟩
theorem Tryz.lays155 : Go.Proofs.Lays.n155 Tryz.prog Tryz.lays155_ren := {
  mixed := by kernel_rfl
  f138 := Tryz.func169.trans (congrArg some (by kernel_rfl))
  f143 := Tryz.func170.trans (congrArg some (by kernel_rfl))
  f154 := Tryz.func134.trans (congrArg some (by kernel_rfl))
  f155 := Tryz.func93.trans (congrArg some (by kernel_rfl))
  f165 := Tryz.func100.trans (congrArg some (by kernel_rfl))
  f166 := Tryz.func101.trans (congrArg some (by kernel_rfl))
  f169 := Tryz.func102.trans (congrArg some (by kernel_rfl))
  f195 := Tryz.func202.trans (congrArg some (by kernel_rfl))
  f197 := Tryz.func171.trans (congrArg some (by kernel_rfl))
  f217 := Tryz.func154.trans (congrArg some (by kernel_rfl))
  f218 := Tryz.func203.trans (congrArg some (by kernel_rfl))
  f219 := Tryz.func204.trans (congrArg some (by kernel_rfl))
  f224 := Tryz.func176.trans (congrArg some (by kernel_rfl))
  f225 := Tryz.func177.trans (congrArg some (by kernel_rfl))
  f240 := Tryz.func142.trans (congrArg some (by kernel_rfl))
  f241 := Tryz.func143.trans (congrArg some (by kernel_rfl))
  f260 := Tryz.func205.trans (congrArg some (by kernel_rfl))
  f266 := Tryz.func191.trans (congrArg some (by kernel_rfl))
  f267 := Tryz.func219.trans (congrArg some (by kernel_rfl))
  f276 := Tryz.func178.trans (congrArg some (by kernel_rfl))
  f277 := Tryz.func179.trans (congrArg some (by kernel_rfl))
  f314 := Tryz.func229.trans (congrArg some (by kernel_rfl))
  t0 := Tryz.underlying0
  a0 := Tryz.isAgg0
  z0 := Tryz.sizeOf0
  v0 := Tryz.zeroValue0
  t3 := Tryz.underlying3
  a3 := Tryz.isAgg3
  z3 := Tryz.sizeOf3
  v3 := Tryz.zeroValue3
  t4 := Tryz.underlying4
  a4 := Tryz.isAgg4
  z4 := Tryz.sizeOf4
  v4 := Tryz.zeroValue4
  t5 := Tryz.underlying5
  a5 := Tryz.isAgg5
  z5 := Tryz.sizeOf5
  v5 := Tryz.zeroValue5
  t9 := Tryz.underlying9
  a9 := Tryz.isAgg9
  z9 := Tryz.sizeOf9
  v9 := Tryz.zeroValue9
  t20 := Tryz.underlying20
  a20 := Tryz.isAgg20
  z20 := Tryz.sizeOf20
  v20 := Tryz.zeroValue20
  t21 := Tryz.underlying21
  a21 := Tryz.isAgg21
  z21 := Tryz.sizeOf21
  v21 := Tryz.zeroValue21
  t37 := Tryz.underlying146
  a37 := Tryz.isAgg146
  z37 := Tryz.sizeOf146
  v37 := Tryz.zeroValue146
  t46 := Tryz.underlying224
  a46 := Tryz.isAgg224
  z46 := Tryz.sizeOf224
  v46 := Tryz.zeroValue224
  t51 := Tryz.underlying242
  a51 := Tryz.isAgg242
  z51 := Tryz.sizeOf242
  v51 := Tryz.zeroValue242
  t70 := Tryz.underlying145
  a70 := Tryz.isAgg145
  z70 := Tryz.sizeOf145
  v70 := Tryz.zeroValue145
  t72 := Tryz.underlying148
  a72 := Tryz.isAgg148
  z72 := Tryz.sizeOf148
  v72 := Tryz.zeroValue148
  t75 := Tryz.underlying151
  a75 := Tryz.isAgg151
  z75 := Tryz.sizeOf151
  v75 := Tryz.zeroValue151
  t76 := Tryz.underlying152
  a76 := Tryz.isAgg152
  z76 := Tryz.sizeOf152
  v76 := Tryz.zeroValue152
  t105 := Tryz.underlying218
  a105 := Tryz.isAgg218
  z105 := Tryz.sizeOf218
  v105 := Tryz.zeroValue218
  t119 := Tryz.underlying234
  a119 := Tryz.isAgg234
  z119 := Tryz.sizeOf234
  t127 := Tryz.underlying194
  a127 := Tryz.isAgg194
  z127 := Tryz.sizeOf194
  v127 := Tryz.zeroValue194
  t138 := Tryz.underlying236
  a138 := Tryz.isAgg236
  z138 := Tryz.sizeOf236
  v138 := Tryz.zeroValue236
  t139 := Tryz.underlying237
  a139 := Tryz.isAgg237
  z139 := Tryz.sizeOf237
  v139 := Tryz.zeroValue237
  t146 := Tryz.underlying255
  a146 := Tryz.isAgg255
  z146 := Tryz.sizeOf255
  v146 := Tryz.zeroValue255
  t164 := Tryz.underlying226
  a164 := Tryz.isAgg226
  z164 := Tryz.sizeOf226
  v164 := Tryz.zeroValue226
  g1 := by kernel_rfl
  g3 := by kernel_rfl
  g4 := by kernel_rfl }
theorem Tryz.Builder_Extra_155 : Builder.Extra Tryz.prog Tryz.lays155_ren := {
  sizeBuilder := by kernel_rfl
  liesBuilder := by kernel_rfl
  t5 := Tryz.underlying5
  a5 := Tryz.isAgg5
  z5 := Tryz.sizeOf5
  v5 := Tryz.zeroValue5
  infoByte := by kernel_rfl
  cellsByte := by kernel_rfl
  sizeByte := by kernel_rfl
  neB5 := by decide }
open Go.RowKit in
theorem Tryz.strings_Join_none (a : Option Addr) (c : Nat) (sep : ByteArray) (w : World) :
    Calls Tryz.prog 61 #[.slice a 0 c, .string sep] w fun e w' => e = .returned (.string ⟨#[]⟩) /\ w' = w := Any.strings_Join_none Tryz.lays156 Tryz.Builder_Extra_156 a c sep w
open Go.RowKit in
theorem Tryz.strings_Join (bk o c : Nat) (xs : List ByteArray) (sep : ByteArray) (w : World) (hcells : ∀ (j : Nat) x, xs[j]? = some x -> w.cell? ⟨bk, o + j, none⟩ = some (.string x)) (hbk : bk < w.heap.size) (hN : xs.length <= 140737488355328) (hcap : xs.length <= c) (hlen : (Lib.join (xs.map (·.data.toList)) sep.data.toList).length <= 140737488355328) :
    Calls Tryz.prog 61 #[.slice (some ⟨bk, o, none⟩) xs.length c, .string sep] w fun e w' => e = .returned (.string ⟨(Lib.join (xs.map (·.data.toList)) sep.data.toList).toArray⟩) /\ Below w.heap.size w w' := Any.strings_Join Tryz.lays156 Tryz.Builder_Extra_156 bk o c xs sep w hcells hbk hN hcap hlen
open Go.RowKit Go.Lib in
theorem Tryz.stringslite_IndexByte (s : ByteArray) (c : Int) (w : World) :
    Calls Tryz.prog 154 #[.string s, .int .u8 c] w fun e w' => e = .returned (.int .i64 (Lib.indexByte s.data.toList c.toNat.toUInt8)) /\ w' = w := Any.stringslite_IndexByte Tryz.lays217 s c w
open Go.RowKit Go.Lib in
theorem Tryz.strings_ReplaceAll (s old new : ByteArray) (m : Int) (w : World) (hs : s.size < 4294967281) (hm : w.cell? ⟨3, 0, none⟩ = some (.int .i64 m)) (h1 : 1 <= old.size) (hlen : s.size + Lib.countB s old * new.size <= 140737488355328) :
    Calls Tryz.prog 93 #[.string s, .string old, .string new] w fun e w' =>
      e = .returned (.string ⟨(Lib.replaceAll s.data.toList old.data.toList new.data.toList).toArray⟩) /\ Below w.heap.size w w' := Any.strings_ReplaceAll Tryz.lays155 Tryz.Builder_Extra_155 s old new m w hs hm h1 hlen
end Go.Proofs
end

section
namespace Go.Det
inductive DV where
  | any
  | unk
  | bool (b : Bool)
  | int (k : IntKind) (n : Int)
  | str (s : List UInt8)
  | nilptr
  | ptr (b n i off : Nat)
  | eptr (n : Nat) (es : List DV) (i off : Nat)
  | gptr (g off : Nat)
  | nilsl
  | rsl (b n off len : Nat)
  | psl (n : Nat) (es : List DV)
  | fn (f : Fn) (first captured : List DV)
  | nilfn
  | iface (t : TypeId) (v : DV)
  | niliface
  | map (b : Nat)
  | nilmap
  | agg (cs : List DV)
  | tup (vs : List DV)
  deriving Inhabited
def DV.cells : DV -> List DV
  | .agg cs => cs
  | .unk => []
  | .tup _ => []
  | v => [v]
inductive Blk where
  | box (cs : List DV)
  | row (n : Nat) (es : List DV)
  | iter (s : List UInt8) (pos : Nat)
  deriving Inhabited
abbrev Heap := List (Option Blk)
structure St where
  t : List DV
  h : Heap
  deriving Inhabited
inductive Td where
  | bool | int (k : IntKind) | str | ptr (e : TypeId) | sl (e : TypeId) | arr (n : Nat) (e : TypeId) | map (k e : TypeId)
  | st (fs : List (Nat × TypeId)) | fn | ifc | other
  deriving Inhabited
structure Ti where
  d : Td
  size : Nat
  bytes : Nat
  zero : List DV
  deriving Inhabited
structure Fi where
  nt : Nat
  res : List ResultVar
  code : Code
  deriving Inhabited
inductive Ex where
  | normal | exit (id : Nat) | goto (l : Nat) | ret
  deriving Inhabited
structure Cfg where
  T : Nat -> Option Ti
  F : Nat -> Option Fi
  prim : Nat -> Option (List DV -> Option DV)
  glob : Nat -> Option (List DV)
  live : Nat -> Nat -> Option (List Nat)
  scal : Nat -> Bool
  own : Nat -> Bool
  keep : Nat -> Nat -> Bool     -- function, slot: a buildSlice there makes a row of its own (else sealed memory)
  sem : Nat -> Nat -> Code -> St -> Ex -> St -> Prop := fun _ _ _ _ _ _ => False     -- pieces of code whose runs are known otherwise
def hget (h : Heap) (b : Nat) : Option Blk := (h[b]?).getD none
def sget (t : List DV) (i : Nat) : DV := t.getD i (.tup [])
mutual
def DV.ments : DV -> List Nat
  | .ptr b _ _ _ => [b]
  | .rsl b _ _ _ => [b]
  | .map b => [b]
  | .fn _ a c => mentsL a ++ mentsL c
  | .iface _ v => v.ments
  | .agg cs => mentsL cs
  | .tup vs => mentsL vs
  | _ => []
def mentsL : List DV -> List Nat
  | [] => []
  | v :: l => v.ments ++ mentsL l
end
def DV.pure (v : DV) : Bool := v.ments.isEmpty
def pureL (l : List DV) : Bool := (mentsL l).isEmpty
mutual
def DV.forget (φ : List Nat) : DV -> DV
  | .ptr b n i o => if φ.contains b then .any else .ptr b n i o
  | .rsl b n i o => if φ.contains b then .any else .rsl b n i o
  | .map b => if φ.contains b then .any else .map b
  | .fn f a c => .fn f (forgetL φ a) (forgetL φ c)
  | .iface t v => .iface t (v.forget φ)
  | .agg cs => .agg (forgetL φ cs)
  | .tup vs => .tup (forgetL φ vs)
  | v => v
def forgetL (φ : List Nat) : List DV -> List DV
  | [] => []
  | v :: l => v.forget φ :: forgetL φ l
end
def Blk.forget (φ : List Nat) : Blk -> Blk
  | .box cs => .box (forgetL φ cs)
  | b => b
def ofCell : Value -> Option DV
  | .bool b => some (.bool b)
  | .int k n => some (.int k n)
  | .string s => some (.str s.data.toList)
  | .pointer none => some .nilptr
  | .slice none 0 0 => some .nilsl
  | .map none => some .nilmap
  | .nilFunc => some .nilfn
  | .nilIface => some .niliface
  | _ => none
def ofCells : List Value -> Option (List DV)
  | [] => some []
  | v :: l => match ofCell v, ofCells l with
    | some x, some y => some (x :: y)
    | _, _ => none
def ofConst : Value -> Option DV
  | .agg cs => (ofCells cs.toList).map .agg
  | .tuple vs => if vs.size = 0 then some (.tup []) else none
  | v => ofCell v
def opnd (t : List DV) : Operand -> DV
  | .tmp i => sget t i
  | .const v => (ofConst v).getD .unk
  | .global g => .gptr g 0
  | .func f => .fn (.func f) [] []
def bytesLess : List UInt8 -> List UInt8 -> Bool := Op.bytesLess
def intOp (op : BinOp) (k : IntKind) (x y : Int) : Option DV :=
  match op with
  | .add => some (.int k (k.wrap (x + y)))
  | .sub => some (.int k (k.wrap (x - y)))
  | .mul => some (.int k (k.wrap (x * y)))
  | .quo => if y = 0 then none else some (.int k (k.wrap (x.tdiv y)))
  | .rem => if y = 0 then none else some (.int k (x.tmod y))
  | .and => some (.int k (k.wrap (BitVec.ofInt k.bits x &&& BitVec.ofInt k.bits y).toNat))
  | .or => some (.int k (k.wrap (BitVec.ofInt k.bits x ||| BitVec.ofInt k.bits y).toNat))
  | .xor => some (.int k (k.wrap (BitVec.ofInt k.bits x ^^^ BitVec.ofInt k.bits y).toNat))
  | .andNot => some (.int k (k.wrap (BitVec.ofInt k.bits x &&& ~~~ BitVec.ofInt k.bits y).toNat))
  | .eql => some (.bool (x == y))
  | .neq => some (.bool (x != y))
  | .lss => some (.bool (x < y))
  | .leq => some (.bool (x <= y))
  | .gtr => some (.bool (x > y))
  | .geq => some (.bool (x ≥ y))
  | _ => none
def shiftOp (op : BinOp) (k : IntKind) (x y : Int) : Option DV :=
  if y < 0 then none else
  match op with
  | .shl => some (.int k (k.wrap (x * 2 ^ (min y.toNat k.bits))))
  | .shr => some (.int k (x.fdiv (2 ^ (min y.toNat k.bits))))
  | _ => none
def strOp (op : BinOp) (x y : List UInt8) : Option DV :=
  match op with
  | .add => if x.length + y.length <= 2 ^ 32 then some (.str (x ++ y)) else none
  | .eql => some (.bool (x == y))
  | .neq => some (.bool (!(x == y)))
  | .lss => some (.bool (bytesLess x y))
  | .leq => some (.bool (bytesLess x y || x == y))
  | .gtr => some (.bool (!(bytesLess x y || x == y)))
  | .geq => some (.bool (!bytesLess x y))
  | _ => none
def isAggT (T : Nat -> Option Ti) (t : Nat) : Option Bool :=
  match T t with
  | some ti => some (match ti.d with | .st _ => true | .arr _ _ => true | _ => false)
  | none => none
def partT (T : Nat -> Option Ti) (t : Nat) (cs : List DV) (off : Nat) : Option DV :=
  match T t with
  | some ti =>
    match ti.d with
    | .st _ => some (.agg ((cs.drop off).take ti.size))
    | .arr _ _ => some (.agg ((cs.drop off).take ti.size))
    | _ => cs[off]?
  | none => none
def eqF (T : Nat -> Option Ti) (f : Nat -> DV -> DV -> Option Bool) : List (Nat × Nat) -> List DV -> List DV -> Option Bool
  | [], _, _ => some true
  | (off, ft) :: fs, xs, ys =>
    match partT T ft xs off, partT T ft ys off with
    | some a, some b =>
      match f ft a b with
      | some true => eqF T f fs xs ys
      | some false => some false
      | none => none
    | _, _ => none
def eqT (T : Nat -> Option Ti) : Nat -> Nat -> DV -> DV -> Option Bool
  | 0, _, _, _ => none
  | d + 1, t, x, y =>
    match T t with
    | none => none
    | some ti =>
      match ti.d, x, y with
      | .bool, .bool a, .bool b => some (a == b)
      | .int _, .int k a, .int k' b => if k = k' then some (a == b) else none
      | .str, .str a, .str b => some (a == b)
      | .sl _, .nilsl, .nilsl => some true
      | .sl _, .nilsl, .rsl .. => some false
      | .sl _, .rsl .., .nilsl => some false
      | .sl _, .nilsl, .psl _ (_ :: _) => some false
      | .sl _, .psl _ (_ :: _), .nilsl => some false
      | .ifc, .niliface, .niliface => some true
      | .ifc, .niliface, .iface _ _ => some false
      | .ifc, .iface _ _, .niliface => some false
      | .st fs, .agg xs, .agg ys => eqF T (eqT T d) fs xs ys
      | _, _, _ => none
def binOp (T : Nat -> Option Ti) (op : BinOp) (t : Nat) (x y : DV) : Option DV :=
  match x, y with
  | .int k a, .int k' b =>
    match op with
    | .shl => shiftOp .shl k a b
    | .shr => shiftOp .shr k a b
    | op => if k = k' then intOp op k a b else none
  | .str a, .str b => strOp op a b
  | x, y =>
    match op with
    | .eql => (eqT T 20 t x y).map .bool
    | .neq => (eqT T 20 t x y).map fun b => .bool (!b)
    | _ => none
def unOp (op : UnOp) (x : DV) : Option DV :=
  match op, x with
  | .neg, .int k n => intOp .sub k 0 n
  | .xor, .int k n => intOp .xor k (if k.signed then -1 else k.max) n
  | .not, .bool b => some (.bool !b)
  | _, _ => none
def asNat : DV -> Option Nat
  | .int _ n => if 0 <= n then some n.toNat else none
  | _ => none
def bound (x : Option DV) (dflt y : Nat) : Option Nat :=
  match x with
  | none => some dflt
  | some v => match asNat v with
    | some n => if n <= y then some n else none
    | none => none
def sliceOp (T : Nat -> Option Ti) (t : Nat) (x : DV) (lo hi : Option DV) : Option DV :=
  match T t with
  | none => none
  | some ti =>
    match ti.d, x with
    | .str, .str s =>
      match bound hi s.length s.length with
      | some h => match bound lo 0 h with
        | some l => some (.str ((s.take h).drop l))
        | none => none
      | none => none
    | .sl e, .nilsl =>
      match T e with
      | none => none
      | some _ =>
        match bound hi 0 0 with
        | some h => match bound lo 0 h with
          | some l => some .nilsl
          | none => none
        | none => none
    | .sl e, .psl n es =>
      match T e with
      | none => none
      | some te =>
        if te.size ≠ n then none else
        match bound hi es.length es.length with
        | some h => match bound lo 0 h with
          | some l => some (.psl n ((es.take h).drop l))
          | none => none
        | none => none
    | .sl e, .rsl b n off len =>
      match T e with
      | none => none
      | some te =>
        if te.size ≠ n then none else
        match bound hi len len with
        | some h => match bound lo 0 h with
          | some l => if l = 0 \/ l < h then some (.rsl b n (off + l) (h - l)) else some (.psl n [])
          | none => none
        | none => none
    | _, _ => none
def indexOp (T : Nat -> Option Ti) (t : Nat) (x i : DV) : Option DV :=
  match asNat i, T t with
  | some i, some ti =>
    match ti.d, x with
    | .str, .str s => (s[i]?).map fun b => .int .u8 b.toNat
    | .arr n e, .agg cs => if i < n then (match T e with | some te => partT T e cs (i * te.size) | none => none) else none
    | _, _ => none
  | _, _ => none
def fieldOp (T : Nat -> Option Ti) (t : Nat) (x : DV) (f : Nat) : Option DV :=
  match T t, x with
  | some ti, .agg cs =>
    match ti.d with
    | .st fs => match fs[f]? with
      | some (off, ft) => partT T ft cs off
      | none => none
    | _ => none
  | _, _ => none
def shiftPtr (x : DV) (o : Nat) : Option DV :=
  match x with
  | .ptr b n i off => if off + o < n then some (.ptr b n i (off + o)) else none
  | .eptr n es i off => if off + o < n then some (.eptr n es i (off + o)) else none
  | .gptr g off => some (.gptr g (off + o))
  | _ => none
def fieldAddrOp (T : Nat -> Option Ti) (t : Nat) (x : DV) (f : Nat) : Option DV :=
  match T t with
  | some ti =>
    match ti.d with
    | .st fs => match fs[f]? with
      | some (off, ft) => match T ft with
        | some tf => if tf.size = 0 then none else shiftPtr x off
        | none => none
      | none => none
    | _ => none
  | none => none
def indexAddrOp (T : Nat -> Option Ti) (t : Nat) (x i : DV) : Option DV :=
  match asNat i, x with
  | some i, .psl n es =>
    match T t with
    | some ti => match ti.d with
      | .sl e => match T e with
        | some te => if te.size = n /\ i < es.length then some (.eptr n es i 0) else none
        | none => none
      | _ => none
    | none => none
  | some i, .rsl b n off len =>
    match T t with
    | some ti => match ti.d with
      | .sl e => match T e with
        | some te => if te.size = n /\ i < len then some (.ptr b n (off + i) 0) else none
        | none => none
      | _ => none
    | none => none
  | some i, x =>
    match T t with
    | some ti => match ti.d with
      | .arr n e => match T e with
        | some te => if i < n /\ te.size ≠ 0 then shiftPtr x (i * te.size) else none
        | none => none
      | _ => none
    | none => none
  | none, _ => none
def over (cs : List DV) (off : Nat) : List DV -> List DV
  | [] => cs
  | v :: l => over (cs.set off v) (off + 1) l
def fill (place : Nat -> Option (Nat × Nat)) : List DV -> List (Nat × DV) -> Option (List DV)
  | cs, [] => some cs
  | cs, (i, v) :: rest =>
    match place i with
    | none => none
    | some (off, size) => if v.cells.length = size /\ size ≠ 0 /\ off + size <= cs.length then fill place (over cs off v.cells) rest else none
def placeOf (T : Nat -> Option Ti) (fs : List (Nat × Nat)) (i : Nat) : Option (Nat × Nat) :=
  match fs[i]? with
  | some (off, ft) => match T ft with
    | some tf => some (off, tf.size)
    | none => none
  | none => none
def buildOp (T : Nat -> Option Ti) (t : Nat) (parts : List (Nat × DV)) : Option DV :=
  match T t with
  | some ti =>
    match ti.d with
    | .st fs => if ti.zero = [] then none else (fill (placeOf T fs) ti.zero parts).map .agg
    | .arr _ e => match T e with
      | some te => if ti.zero = [] then none else (fill (fun i => some (i * te.size, te.size)) ti.zero parts).map .agg
      | none => none
    | _ => none
  | none => none
def whole (agg : Bool) (cs : List DV) : DV := if agg then .agg cs else cs.headD .any
def rowOf (agg : Bool) (n : Nat) : Nat -> List DV -> List DV
  | 0, _ => []
  | k + 1, cs => whole agg (cs.take n) :: rowOf agg n k (cs.drop n)
def zeros (k : Nat) (z : List DV) : List DV := (List.replicate k z).flatten
def agD : Td -> Bool
  | .st _ => true
  | .arr _ _ => true
  | _ => false
def loadIn (ti : Ti) (n : Nat) (e : DV) (off : Nat) : Option DV :=
  if off = 0 /\ ti.size = n /\ n ≠ 0 then
    if agD ti.d then (match e with | .agg cs => some (.agg cs) | _ => none)
    else (match e with | .agg (c :: _) => some c | .agg [] => none | .unk => none | .tup _ => none | e => some e)
  else if off + ti.size <= e.cells.length /\ ti.size ≠ 0 then
    if agD ti.d then some (.agg ((e.cells.drop off).take ti.size)) else e.cells[off]?
  else none
def loadOp (C : Cfg) (h : Heap) (t : Nat) (a : DV) : Option DV :=
  match C.T t with
  | none => none
  | some ti =>
    match a with
    | .ptr b n i off =>
      match hget h b with
      | some (.box cs) => if i = 0 /\ n = cs.length /\ off + ti.size <= n /\ ti.size ≠ 0 then
          (if agD ti.d then some (.agg ((cs.drop off).take ti.size)) else cs[off]?) else none
      | some (.row m es) =>
        if n = m then
          match es[i]? with
          | some e => loadIn ti n e off
          | none => none
        else none
      | _ => none
    | .eptr n es i off =>
      match es[i]? with
      | some e => loadIn ti n e off
      | none => none
    | .gptr g off =>
      match C.glob g with
      | some cs => if off + ti.size <= cs.length /\ ti.size ≠ 0 then
          (if agD ti.d then some (.agg ((cs.drop off).take ti.size)) else cs[off]?) else none
      | none => none
    | _ => none
structure Out where
  v : DV
  δ : List (Nat × Option Blk) := []
  φ : List Nat := []
  deriving Inhabited
def storeOp (C : Cfg) (h : Heap) (t : Nat) (a v : DV) : Option Out :=
  match C.T t with
  | none => none
  | some ti =>
    if v.cells.length ≠ ti.size \/ ti.size = 0 then none else
    match a with
    | .ptr b n i off =>
      match hget h b with
      | some (.box cs) => if i = 0 /\ n = cs.length /\ off + ti.size <= n then some { v := .tup [], δ := [(b, some (.box (over cs off v.cells)))] } else none
      | some (.row m es) =>
        if n = m /\ v.pure then
          match es[i]? with
          | some e =>
            if off = 0 /\ ti.size = n then some { v := .tup [], δ := [(b, some (.row m (es.set i v)))] }
            else match e with
              | .agg cs => if off + ti.size <= n then some { v := .tup [], δ := [(b, some (.row m (es.set i (.agg (over cs off v.cells)))))] } else none
              | _ => none
          | none => none
        else none
      | _ => none
    | _ => none
def elems (h : Heap) (n : Nat) (x : DV) : Option (List DV) :=
  match x with
  | .nilsl => some []
  | .psl m es => if m = n \/ es = [] then some es else none
  | .rsl b m off len =>
    match hget h b with
    | some (.row m' es) => if m = n /\ m' = n /\ off + len <= es.length then some ((es.drop off).take len) else none
    | _ => none
  | .str s => if n = 1 then some (s.map fun c => .int .u8 c.toNat) else none
  | _ => none
def roomy (bytes k : Nat) : Bool := decide (k <= 2 ^ 32) && decide (bytes * k <= 2 ^ 32)
def appendOp (C : Cfg) (h : Heap) (dst : Nat) (t : Nat) (s x : DV) : Option Out :=
  match C.T t with
  | some ti =>
    match ti.d with
    | .sl e =>
      match C.T e with
      | some te =>
        if te.size = 0 \/ te.zero.length ≠ te.size then none else
        match elems h te.size x with
        | none => none
        | some xs =>
          match s with
          | .nilsl =>
            match xs with
            | [] => some { v := .nilsl }
            | _ => if roomy te.bytes xs.length then some { v := .rsl dst te.size 0 xs.length, δ := [(dst, some (.row te.size xs))], φ := [dst] } else none
          | .rsl b n off len =>
            match hget h b with
            | some (.row m es) =>
              if n = te.size /\ m = n /\ off + len <= es.length /\ roomy te.bytes (len + xs.length) then
                some { v := .rsl dst n 0 (len + xs.length), δ := [(b, none), (dst, some (.row n ((es.drop off).take len ++ xs)))], φ := [b, dst] }
              else none
            | _ => none
          | _ => none
      | none => none
    | _ => none
  | none => none
def copyOp (C : Cfg) (h : Heap) (t : Nat) (d s : DV) : Option Out :=
  match C.T t with
  | some ti =>
    match ti.d with
    | .sl e =>
      match C.T e with
      | some te =>
        if te.size = 0 then none else
        match elems h te.size s with
        | none => none
        | some xs =>
          match d with
          | .nilsl => some { v := .int .i64 0 }
          | .rsl b n off len =>
            match hget h b with
            | some (.row m es) =>
              if n = te.size /\ m = n /\ off + len <= es.length then
                let ys := xs.take len
                some { v := .int .i64 ys.length, δ := [(b, some (.row n (es.take off ++ ys ++ es.drop (off + ys.length))))] }
              else none
            | _ => none
          | _ => none
      | none => none
    | _ => none
  | none => none
def lenOp (T : Nat -> Option Ti) (t : Nat) (x : DV) : Option DV :=
  match T t with
  | none => none
  | some ti =>
    match ti.d, x with
    | .str, .str s => some (.int .i64 s.length)
    | .sl _, .nilsl => some (.int .i64 0)
    | .sl _, .psl _ es => some (.int .i64 es.length)
    | .sl _, .rsl _ _ _ len => some (.int .i64 len)
    | .map _ _, .nilmap => some (.int .i64 0)
    | _, _ => none
def mm2 (mx : Bool) : DV -> DV -> Option DV
  | .int k x, .int _ y => some (.int k (if mx then (if y > x then y else x) else (if y < x then y else x)))
  | _, _ => none
def mmL (mx : Bool) : DV -> List DV -> Option DV
  | x, [] => some x
  | x, y :: l => match mm2 mx x y with | some z => mmL mx z l | none => none
def bytesOf : List DV -> Option (List UInt8)
  | [] => some []
  | .int .u8 n :: l => match bytesOf l with
    | some r => some (UInt8.ofNat n.toNat :: r)
    | none => none
  | _ => none
def convertOp (C : Cfg) (h : Heap) (dst : Nat) (a b : Nat) (x : DV) : Option Out :=
  match C.T a, C.T b with
  | some ta, some tb =>
    match ta.d, tb.d, x with
    | _, .int k, .int _ n => some { v := .int k (k.wrap n) }
    | _, .str, .int _ n => some { v := .str (Utf8.encode n).data.toList }
    | _, .str, .str s => some { v := .str s }
    | _, .sl e, .str s =>
      match C.T e with
      | some te => match te.d with
        | .int .u8 => if te.size = 1 /\ roomy 1 s.length then some { v := .rsl dst 1 0 s.length, δ := [(dst, some (.row 1 (s.map fun c => .int .u8 c.toNat)))], φ := [dst] } else none
        | _ => none
      | none => none
    | .sl e, .str, x =>
      match C.T e with
      | some te => match te.d with
        | .int .u8 => if te.size = 1 then (match (elems h 1 x).bind bytesOf with
          | some s => some { v := .str s }
          | none => none) else none
        | _ => none
      | none => none
    | _, _, _ => none
  | _, _ => none
def nilPair : DV -> DV -> Bool
  | .niliface, .niliface => true
  | _, _ => false
def isC : Operand -> Bool
  | .const _ => true
  | _ => false
def parts (t : List DV) (ps : Array (Nat × Operand)) : List (Nat × DV) := ps.toList.map fun p => (p.1, opnd t p.2)
def sliceLit (C : Cfg) (own : Bool) (dst : Nat) (t len : Nat) (ps : List (Nat × DV)) : Option Out :=
  match C.T t with
  | some ti =>
    match ti.d with
    | .sl e =>
      match C.T e, isAggT C.T e with
      | some te, some ag =>
        if te.size = 0 \/ 2 ^ 20 < len * te.size \/ (ag = false /\ te.size ≠ 1) \/ te.zero.length ≠ te.size then none else
        match fill (fun i => some (i * te.size, te.size)) (zeros len te.zero) ps with
        | some cs =>
          let es := rowOf ag te.size len cs
          if pureL es then
            if own then some { v := .rsl dst te.size 0 len, δ := [(dst, some (.row te.size es))], φ := [dst] }
            else some { v := .psl te.size es }
          else none
        | none => none
      | _, _ => none
    | _ => none
  | none => none
def makeSliceOp (C : Cfg) (dst : Nat) (t : Nat) (l c : DV) : Option Out :=
  match C.T t, asNat l, asNat c with
  | some ti, some l, some c =>
    match ti.d with
    | .sl e =>
      match C.T e, isAggT C.T e with
      | some te, some ag =>
        if te.size = 0 \/ c < l \/ roomy te.bytes c = false \/ 2 ^ 32 < c \/ (ag = false /\ te.size ≠ 1) \/ te.zero.length ≠ te.size then none else
        some { v := .rsl dst te.size 0 l, δ := [(dst, some (.row te.size (List.replicate c (whole ag te.zero))))], φ := [dst] }
      | _, _ => none
    | _ => none
  | _, _, _ => none
def pv (v : Option DV) : Option Out := v.map fun v => { v := v }
def act (C : Cfg) (f : Nat) (t : List DV) (h : Heap) (dst : Option Nat) (op : Op) : Option Out :=
  match op with
  | .move x => some { v := opnd t x }
  | .assign x => some { v := opnd t x }
  | .pick c a b => match opnd t c with | .bool b' => some { v := if b' then opnd t a else opnd t b } | _ => none
  | .alloc e => match C.T e, dst with
    | some te, some d => if te.zero.length = te.size /\ te.size ≠ 0 then some { v := .ptr d te.size 0 0, δ := [(d, some (.box te.zero))], φ := [d] } else none
    | _, _ => none
  | .box e x => match C.T e, dst with
    | some te, some d => if (opnd t x).cells.length = te.size /\ te.size ≠ 0 then some { v := .ptr d te.size 0 0, δ := [(d, some (.box (forgetL [d] (opnd t x).cells)))], φ := [d] } else none
    | _, _ => none
  | .build ty ps => pv (buildOp C.T ty (parts t ps))
  | .buildSlice ty len ps => match dst with | some d => sliceLit C (C.keep f d) d ty len (parts t ps) | none => none
  | .load ty a => pv (loadOp C h ty (opnd t a))
  | .store ty a v => storeOp C h ty (opnd t a) (opnd t v)
  | .nilCheck x => match opnd t x with
    | .ptr b n i off => some { v := .ptr b n i off }
    | .eptr n es i off => some { v := .eptr n es i off }
    | _ => none
  | .binOp op ty x y _ => if nilPair (opnd t x) (opnd t y) && !(isC x || isC y) then none else pv (binOp C.T op ty (opnd t x) (opnd t y))
  | .unOp op _ x => pv (unOp op (opnd t x))
  | .convert a b x => match dst with | some d => convertOp C h d a b (opnd t x) | none => none
  | .makeInterface ty x => match C.T ty with
    | some ti => match ti.d with | .ifc => none | _ => some { v := .iface ty (opnd t x) }
    | none => none
  | .makeFunc fn first cap => some { v := .fn fn (first.toList.map (opnd t)) (cap.toList.map (opnd t)) }
  | .makeSlice ty l c => match dst with | some d => makeSliceOp C d ty (opnd t l) (opnd t c) | none => none
  | .slice ty x lo hi mx => match mx with | none => pv (sliceOp C.T ty (opnd t x) (lo.map (opnd t)) (hi.map (opnd t))) | some _ => none
  | .fieldAddr ty x fi => pv (fieldAddrOp C.T ty (opnd t x) fi)
  | .field ty x fi => pv (fieldOp C.T ty (opnd t x) fi)
  | .indexAddr ty x i => pv (indexAddrOp C.T ty (opnd t x) (opnd t i))
  | .index ty x i => pv (indexOp C.T ty (opnd t x) (opnd t i))
  | .range ty x => match C.T ty, dst with
    | some ti, some d => match ti.d, opnd t x with
      | .str, .str s => some { v := .ptr d 0 0 0, δ := [(d, some (.iter s 0))], φ := [d] }
      | _, _ => none
    | _, _ => none
  | .next it true => match opnd t it with
    | .ptr b 0 0 0 => match hget h b with
      | some (.iter s pos) =>
        if pos < s.length then
          some { v := .tup [.bool true, .int .i64 pos, .int .i32 (Utf8.decode ⟨s.toArray⟩ pos).1], δ := [(b, some (.iter s (pos + (Utf8.decode ⟨s.toArray⟩ pos).2)))] }
        else some { v := .tup [.bool false] }
      | _ => none
    | _ => none
  | .extract x ix => match opnd t x with | .tup vs => pv vs[ix]? | _ => none
  | .call { callee := .builtin b, args := as1, argTypes := ts } =>
    match b, as1.toList, ts.toList with
    | .append, [s, x], [ty, tx] => match dst, C.T tx with | some d, some ux => (match ux.d with | .sl _ => appendOp C h d ty (opnd t s) (opnd t x) | .str => appendOp C h d ty (opnd t s) (opnd t x) | _ => none) | _, _ => none
    | .copy, [a, b], ty :: _ => copyOp C h ty (opnd t a) (opnd t b)
    | .len, [x], ty :: _ => pv (lenOp C.T ty (opnd t x))
    | .max, x :: l, _ => pv (mmL true (opnd t x) (l.map (opnd t)))
    | .min, x :: l, _ => pv (mmL false (opnd t x) (l.map (opnd t)))
    | _, _, _ => none
  | _ => none
structure Imp where
  exts : List Nat := []
  views : List Nat := []
def Imp.ext (s : Imp) (b : Nat) : Nat × Imp :=
  match s.exts.findIdx? (· == b) with
  | some j => (j, s)
  | none => (s.exts.length, { s with exts := s.exts ++ [b] })
def viewRow (h : Heap) (b n off len : Nat) : Option DV :=
  match hget h b with
  | some (.row m es) => if m = n /\ off + len <= es.length then some (.psl n ((es.drop off).take len)) else none
  | _ => none
mutual
def imp (h : Heap) (base : Nat) : DV -> Imp -> Option (DV × Imp)
  | .ptr b n i off, s => if i = 0 /\ off = 0 then some (.ptr (base + (s.ext b).1) n 0 0, (s.ext b).2) else none
  | .map b, s => some (.map (base + (s.ext b).1), (s.ext b).2)
  | .rsl b n off len, s => (viewRow h b n off len).map fun v => (v, { s with views := b :: s.views })
  | .fn f a c, s => match impL h base a s with
    | some (a', s1) => (impL h base c s1).map fun (c', s2) => (.fn f a' c', s2)
    | none => none
  | .iface t v, s => (imp h base v s).map fun (v', s1) => (.iface t v', s1)
  | .agg cs, s => (impL h base cs s).map fun (cs', s1) => (.agg cs', s1)
  | .tup vs, s => (impL h base vs s).map fun (vs', s1) => (.tup vs', s1)
  | .any, _ => none
  | .unk, _ => none
  | v, s => some (v, s)
def impL (h : Heap) (base : Nat) : List DV -> Imp -> Option (List DV × Imp)
  | [], s => some ([], s)
  | v :: l, s => match imp h base v s with
    | some (v', s1) => (impL h base l s1).map fun (l', s2) => (v' :: l', s2)
    | none => none
end
mutual
def sealV (h : Heap) : DV -> Option DV
  | .rsl b n off len => viewRow h b n off len
  | .ptr .. => none
  | .map _ => none
  | .any => none
  | .unk => none
  | .fn f a c => match sealL h a, sealL h c with
    | some a', some c' => some (.fn f a' c')
    | _, _ => none
  | .iface t v => (sealV h v).map fun v' => .iface t v'
  | .agg cs => (sealL h cs).map .agg
  | .tup vs => (sealL h vs).map .tup
  | v => some v
def sealL (h : Heap) : List DV -> Option (List DV)
  | [] => some []
  | v :: l => match sealV h v, sealL h l with
    | some v', some l' => some (v' :: l')
    | _, _ => none
end
def sealB (h : Heap) : Blk -> Option Blk
  | .box cs => (sealL h cs).map .box
  | b => some b
def sealBs (h : Heap) : List (Option Blk) -> Option (List Blk)
  | [] => some []
  | some b :: l => match sealB h b, sealBs h l with
    | some b', some l' => some (b' :: l')
    | _, _ => none
  | none :: _ => none
mutual
def DV.noPsl : DV -> Bool
  | .psl _ _ => false
  | .eptr _ _ _ _ => false
  | .fn _ a c => noPslL a && noPslL c
  | .iface _ v => v.noPsl
  | .agg cs => noPslL cs
  | .tup vs => noPslL vs
  | _ => true
def noPslL : List DV -> Bool
  | [] => true
  | v :: l => v.noPsl && noPslL l
end
def outB (h : Heap) : List Nat -> Option (List Blk × List Nat)
  | [] => some ([], [])
  | b :: l =>
    match hget h b with
    | some (.box cs) => match sealL h cs, outB h l with
      | some cs', some (r, vs) => some (.box cs' :: r, mentsL cs ++ vs)
      | _, _ => none
    | _ => none
abbrev CallF := Nat -> List DV -> List Blk -> Option (DV × List Blk)
def backs : List Nat -> List Blk -> List (Nat × Option Blk)
  | b :: l, x :: r => (b, some x) :: backs l r
  | _, _ => []
def baseOf (C : Cfg) (g : Nat) : Nat := match C.F g with | some fi => fi.nt | none => 0
def callOp (C : Cfg) (call : CallF) (h : Heap) (dst : Option Nat) (g : Nat) (args : List DV) : Option Out :=
  match impL h (baseOf C g) args {} with
  | none => none
  | some (args', s) =>
    match outB h s.exts with
    | none => none
    | some (ex, vs) =>
      match call g args' ex with
      | none => none
      | some (r, ex') =>
        if ex'.length ≠ s.exts.length then none else
        if C.scal g then
          if r.noPsl /\ s.exts = [] then some { v := r } else none
        else
          let δ := (s.views ++ vs).map (fun b => (b, none)) ++ backs s.exts ex'
          if C.own g then
            if s.exts ≠ [] then none else
            match r, dst with
            | .psl n [], _ => some { v := .psl n [], δ := δ, φ := s.views ++ vs }
            | .psl n es, some d => some { v := .rsl d n 0 es.length, δ := δ ++ [(d, some (.row n es))], φ := d :: (s.views ++ vs) }
            | .nilsl, _ => some { v := .nilsl, δ := δ, φ := s.views ++ vs }
            | _, _ => none
          else some { v := r, δ := δ, φ := s.views ++ vs }
def calleeOf : DV -> Option (Nat × List DV × List DV)
  | .fn (.func g) first cap => some (g, first, cap)
  | _ => none
def setAll : Heap -> List (Nat × Option Blk) -> Heap
  | h, [] => h
  | h, (b, x) :: l => setAll (h.set b x) l
def apply (st : St) (dst : Option Nat) (o : Out) : St :=
  match o.φ with
  | [] => { t := (match dst with | some d => st.t.set d o.v | none => st.t), h := setAll st.h o.δ }
  | φ => { t := (match dst with | some d => (forgetL φ st.t).set d o.v | none => forgetL φ st.t),
           h := setAll (st.h.map fun b => b.map (Blk.forget φ)) o.δ }
def wants (ops : List Oper) (t : List DV) (o : Oper) : Option Bool :=
  match o.guard with
  | none => some true
  | some (j, want) =>
    match (ops[j]?).bind (·.dst) with
    | some d => match sget t d with
      | .bool b => some (b == want)
      | .tup [] => some false
      | _ => none
    | none => none
def tidyT (live : List Nat) : Nat -> List DV -> List DV
  | _, [] => []
  | i, v :: l => (if live.contains i then v else .unk) :: tidyT live (i + 1) l
def boxMents : Option Blk -> List Nat
  | some (.box cs) => mentsL cs
  | _ => []
def tidyH (keep : List Nat) (base : Nat) : Nat -> Heap -> Heap
  | _, [] => []
  | i, b :: l => (if base <= i \/ keep.contains i then b else none) :: tidyH keep base (i + 1) l
def resOf (C : Cfg) (st : St) : ResultVar -> Option DV
  | .tmp i => some (sget st.t i)
  | .cell a t => loadOp C st.h t (sget st.t a)
def resL (C : Cfg) (st : St) : List ResultVar -> Option (List DV)
  | [] => some []
  | r :: l => match resOf C st r, resL C st l with
    | some v, some vs => some (v :: vs)
    | _, _ => none
def one : List DV -> DV
  | [v] => v
  | vs => .tup vs
end Go.Det
end

section
namespace Go.Det
structure Loc where
  blk : Nat
  base : Nat
  size : Nat
abbrev Rho := Nat -> Option Loc
structure Ro where
  c : Nat -> Option (Array Value)
  o : Nat -> Option Obj
instance : CoeFun Ro (fun _ => Nat -> Option (Array Value)) := ⟨Ro.c⟩
def Ro.none : Ro := ⟨fun _ => .none, fun _ => .none⟩
def isCellsO : Obj -> Bool
  | .cells .. => true
  | .stringIter .. => true
  | _ => false
def SubO (m m' : Ro) : Prop := ∀ r x, m.o r = some x -> m'.o r = some x
mutual
def VR (ρ : Rho) (m : Ro) : DV -> Value -> Prop
  | .any, v => v.oneCell' = true
  | .unk, _ => True
  | .bool b, v => v = .bool b
  | .int k n, v => v = .int k n
  | .str s, v => v = .string ⟨s.toArray⟩
  | .nilptr, v => v = .pointer none
  | .ptr b n i off, v => ∃ p, ρ b = some p /\ v = .pointer (some ⟨p.blk, p.base + i * n + off, none⟩)
  | .eptr n es i off, v => ∃ r base c, m r = some c /\ mentsL es = [] /\ VRE ρ m n es c base /\ i < es.length /\ v = .pointer (some ⟨r, base + i * n + off, none⟩)
  | .gptr g off, v => v = .pointer (some ⟨g, off, none⟩)
  | .nilsl, v => v = .slice none 0 0
  | .rsl b n off len, v => ∃ p cap, ρ b = some p /\ len <= cap /\ p.base + (off + cap) * n <= p.size /\ v = .slice (some ⟨p.blk, p.base + off * n, none⟩) len cap
  | .psl n es, v => ∃ a cap, es.length <= cap /\ v = .slice a es.length cap /\ mentsL es = [] /\
      (es = [] \/ ∃ r base c, m r = some c /\ a = some ⟨r, base, none⟩ /\ VRE ρ m n es c base)
  | .fn f a c, v => ∃ a' c', v = .func f a' c' /\ VRL ρ m a a'.toList /\ VRL ρ m c c'.toList
  | .nilfn, v => v = .nilFunc
  | .iface t x, v => ∃ x', v = .iface t x' /\ VR ρ m x x'
  | .niliface, v => v = .nilIface
  | .map b, v => ∃ p, ρ b = some p /\ v = .map (some p.blk)
  | .nilmap, v => v = .map none
  | .agg cs, v => ∃ vs, v = .agg vs /\ VRL ρ m cs vs.toList /\ ∀ u ∈ vs.toList, u.oneCell' = true
  | .tup cs, v => ∃ vs, v = .tuple vs /\ VRL ρ m cs vs.toList
def VRL (ρ : Rho) (m : Ro) : List DV -> List Value -> Prop
  | [], vs => vs = []
  | x :: l, vs => ∃ v r, vs = v :: r /\ VR ρ m x v /\ VRL ρ m l r
def VRE (ρ : Rho) (m : Ro) (n : Nat) : List DV -> Array Value -> Nat -> Prop
  | [], _, _ => True
  | x :: l, c, o => (∃ v, VR ρ m x v /\ v.cells.size = n /\ (∀ u ∈ v.cells.toList, u.oneCell' = true) /\ (∀ j u, v.cells[j]? = some u -> c[o + j]? = some u)) /\ VRE ρ m n l c (o + n)
end
def Sub (m m' : Ro) : Prop := ∀ r c, m r = some c -> m' r = some c
theorem Sub.refl (m : Ro) : Sub m m := fun _ _ h => h
def Blk.isRow : Blk -> Bool
  | .row _ _ => true
  | _ => false
theorem Blk.isRow_forget (φ : List Nat) (b : Blk) : (b.forget φ).isRow = b.isRow := by cases b <;> rfl
structure Grows (N : Nat) (m m' : Ro) : Prop where
  sub : Sub m m'
  old : ∀ r, r < N -> m' r = m r
  oth : SubO m m'
theorem Grows.refl (N : Nat) (m : Ro) : Grows N m m := ⟨Sub.refl m, fun _ _ => rfl, fun _ _ h => h⟩
theorem Sub.trans {a b c : Ro} (h : Sub a b) (k : Sub b c) : Sub a c := fun r x hx => k r x (h r x hx)
mutual
theorem VR.mono {ρ : Rho} {m m' : Ro} (hm : Sub m m') : ∀ (x : DV) {v : Value}, VR ρ m x v -> VR ρ m' x v
  | .any, _, h => h
  | .unk, _, h => h
  | .bool _, _, h => h
  | .int _ _, _, h => h
  | .str _, _, h => h
  | .nilptr, _, h => h
  | .ptr _ _ _ _, _, h => h
  | .eptr n es i off, _, h => by
    simp only [VR] at h ⊢
    obtain ⟨r, base, c, h1, h2, h3, h4, h5⟩ := h
    exact ⟨r, base, c, hm _ _ h1, h2, VRE.mono hm es h3, h4, h5⟩
  | .gptr _ _, _, h => h
  | .nilsl, _, h => h
  | .rsl _ _ _ _, _, h => h
  | .psl n es, _, h => by
    simp only [VR] at h ⊢
    obtain ⟨a, cap, h1, h2, h3, h4⟩ := h
    refine ⟨a, cap, h1, h2, h3, ?_⟩
    rcases h4 with h4 | ⟨r, base, c, h4, h5, h6⟩
    · exact .inl h4
    · exact .inr ⟨r, base, c, hm _ _ h4, h5, VRE.mono hm es h6⟩
  | .fn f a c, _, h => by
    simp only [VR] at h ⊢
    obtain ⟨a', c', h1, h2, h3⟩ := h
    exact ⟨a', c', h1, VRL.mono hm a h2, VRL.mono hm c h3⟩
  | .nilfn, _, h => h
  | .iface t x, _, h => by
    simp only [VR] at h ⊢
    obtain ⟨x', h1, h2⟩ := h
    exact ⟨x', h1, VR.mono hm x h2⟩
  | .niliface, _, h => h
  | .map _, _, h => h
  | .nilmap, _, h => h
  | .agg cs, _, h => by
    simp only [VR] at h ⊢
    obtain ⟨vs, h1, h2, h3⟩ := h
    exact ⟨vs, h1, VRL.mono hm cs h2, h3⟩
  | .tup cs, _, h => by
    simp only [VR] at h ⊢
    obtain ⟨vs, h1, h2⟩ := h
    exact ⟨vs, h1, VRL.mono hm cs h2⟩
theorem VRL.mono {ρ : Rho} {m m' : Ro} (hm : Sub m m') : ∀ (l : List DV) {vs : List Value}, VRL ρ m l vs -> VRL ρ m' l vs
  | [], _, h => h
  | x :: l, _, h => by
    simp only [VRL] at h ⊢
    obtain ⟨v, r, h1, h2, h3⟩ := h
    exact ⟨v, r, h1, VR.mono hm x h2, VRL.mono hm l h3⟩
theorem VRE.mono {ρ : Rho} {m m' : Ro} (hm : Sub m m') {n : Nat} : ∀ (l : List DV) {c : Array Value} {o : Nat}, VRE ρ m n l c o -> VRE ρ m' n l c o
  | [], _, _, h => h
  | x :: l, _, _, h => by
    simp only [VRE] at h ⊢
    obtain ⟨⟨v, h1, h2⟩, h3⟩ := h
    exact ⟨⟨v, VR.mono hm x h1, h2⟩, VRE.mono hm l h3⟩
end
mutual
theorem VR.rho {ρ ρ' : Rho} {m : Ro} : ∀ (x : DV) {v : Value}, (∀ b ∈ x.ments, ρ b = ρ' b) -> VR ρ m x v -> VR ρ' m x v
  | .any, _, _, h => h
  | .unk, _, _, h => h
  | .bool _, _, _, h => h
  | .int _ _, _, _, h => h
  | .str _, _, _, h => h
  | .nilptr, _, _, h => h
  | .ptr b n i off, _, hr, h => by
    simp only [VR] at h ⊢
    rw [← hr b (by simp [DV.ments])]; exact h
  | .eptr n es i off, _, hr, h => by
    simp only [VR] at h ⊢
    obtain ⟨r, base, c, h1, h2, h3, h4, h5⟩ := h
    exact ⟨r, base, c, h1, h2, VRE.rho es (by rw [h2]; simp) h3, h4, h5⟩
  | .gptr _ _, _, _, h => h
  | .nilsl, _, _, h => h
  | .rsl b n off len, _, hr, h => by
    simp only [VR] at h ⊢
    rw [← hr b (by simp [DV.ments])]; exact h
  | .psl n es, _, hr, h => by
    simp only [VR] at h ⊢
    obtain ⟨a, cap, h1, h2, h3, h4⟩ := h
    refine ⟨a, cap, h1, h2, h3, ?_⟩
    rcases h4 with h4 | ⟨r, base, c, h4, h5, h6⟩
    · exact .inl h4
    · exact .inr ⟨r, base, c, h4, h5, VRE.rho es (by rw [h3]; simp) h6⟩
  | .fn f a c, _, hr, h => by
    simp only [VR] at h ⊢
    obtain ⟨a', c', h1, h2, h3⟩ := h
    exact ⟨a', c', h1, VRL.rho a (fun b hb => hr b (by simp [DV.ments, hb])) h2, VRL.rho c (fun b hb => hr b (by simp [DV.ments, hb])) h3⟩
  | .nilfn, _, _, h => h
  | .iface t x, _, hr, h => by
    simp only [VR] at h ⊢
    obtain ⟨x', h1, h2⟩ := h
    exact ⟨x', h1, VR.rho x (fun b hb => hr b (by simp [DV.ments, hb])) h2⟩
  | .niliface, _, _, h => h
  | .map b, _, hr, h => by
    simp only [VR] at h ⊢
    rw [← hr b (by simp [DV.ments])]; exact h
  | .nilmap, _, _, h => h
  | .agg cs, _, hr, h => by
    simp only [VR] at h ⊢
    obtain ⟨vs, h1, h2, h3⟩ := h
    exact ⟨vs, h1, VRL.rho cs (fun b hb => hr b (by simp [DV.ments, hb])) h2, h3⟩
  | .tup cs, _, hr, h => by
    simp only [VR] at h ⊢
    obtain ⟨vs, h1, h2⟩ := h
    exact ⟨vs, h1, VRL.rho cs (fun b hb => hr b (by simp [DV.ments, hb])) h2⟩
theorem VRL.rho {ρ ρ' : Rho} {m : Ro} : ∀ (l : List DV) {vs : List Value}, (∀ b ∈ mentsL l, ρ b = ρ' b) -> VRL ρ m l vs -> VRL ρ' m l vs
  | [], _, _, h => h
  | x :: l, _, hr, h => by
    simp only [VRL] at h ⊢
    obtain ⟨v, r, h1, h2, h3⟩ := h
    exact ⟨v, r, h1, VR.rho x (fun b hb => hr b (by simp [mentsL, hb])) h2, VRL.rho l (fun b hb => hr b (by simp [mentsL, hb])) h3⟩
theorem VRE.rho {ρ ρ' : Rho} {m : Ro} {n : Nat} : ∀ (l : List DV) {c : Array Value} {o : Nat}, (∀ b ∈ mentsL l, ρ b = ρ' b) -> VRE ρ m n l c o -> VRE ρ' m n l c o
  | [], _, _, _, h => h
  | x :: l, _, _, hr, h => by
    simp only [VRE] at h ⊢
    obtain ⟨⟨v, h1, h2⟩, h3⟩ := h
    exact ⟨⟨v, VR.rho x (fun b hb => hr b (by simp [mentsL, hb])) h1, h2⟩, VRE.rho l (fun b hb => hr b (by simp [mentsL, hb])) h3⟩
end
def DV.scal : DV -> Bool
  | .agg _ | .tup _ | .unk => false
  | _ => true
theorem VR.one {ρ : Rho} {m : Ro} {x : DV} {v : Value} (h : VR ρ m x v) (hs : x.scal = true) : v.oneCell' = true := by
  cases x <;> simp only [DV.scal] at hs <;> first | (exact absurd hs (by decide)) | skip
  all_goals simp only [VR] at h
  all_goals first
    | exact h
    | (subst h; rfl)
    | (obtain ⟨_, _, rfl⟩ := h; rfl)
    | (obtain ⟨_, rfl, _⟩ := h; rfl)
    | (obtain ⟨_, _, _, _, _, _, _, rfl⟩ := h; rfl)
    | (obtain ⟨_, _, _, _, _, rfl⟩ := h; rfl)
    | (obtain ⟨_, _, _, rfl, _⟩ := h; rfl)
    | (obtain ⟨_, _, rfl, _⟩ := h; rfl)
theorem oneCells {v : Value} (h : v.oneCell' = true) : v.cells = #[v] := by
  cases v <;> first | rfl | (simp [Value.oneCell'] at h)
mutual
theorem VR.forget {ρ : Rho} {m : Ro} (φ : List Nat) : ∀ (x : DV) {v : Value}, VR ρ m x v -> VR ρ m (x.forget φ) v
  | .any, _, h => h
  | .unk, _, h => h
  | .bool _, _, h => h
  | .int _ _, _, h => h
  | .str _, _, h => h
  | .nilptr, _, h => h
  | .ptr b n i off, v, h => by
    simp only [DV.forget]
    split
    · simp only [VR] at h ⊢
      obtain ⟨_, _, rfl⟩ := h; rfl
    · exact h
  | .eptr n es i off, _, h => h
  | .gptr _ _, _, h => h
  | .nilsl, _, h => h
  | .rsl b n off len, _, h => by
    simp only [DV.forget]
    split
    · simp only [VR] at h ⊢
      obtain ⟨_, _, _, _, _, rfl⟩ := h; rfl
    · exact h
  | .psl n es, _, h => h
  | .fn f a c, _, h => by
    simp only [VR, DV.forget] at h ⊢
    obtain ⟨a', c', h1, h2, h3⟩ := h
    exact ⟨a', c', h1, VRL.forget φ a h2, VRL.forget φ c h3⟩
  | .nilfn, _, h => h
  | .iface t x, _, h => by
    simp only [VR, DV.forget] at h ⊢
    obtain ⟨x', h1, h2⟩ := h
    exact ⟨x', h1, VR.forget φ x h2⟩
  | .niliface, _, h => h
  | .map b, _, h => by
    simp only [DV.forget]
    split
    · simp only [VR] at h ⊢
      obtain ⟨_, _, rfl⟩ := h; rfl
    · exact h
  | .nilmap, _, h => h
  | .agg cs, _, h => by
    simp only [VR, DV.forget] at h ⊢
    obtain ⟨vs, h1, h2, h3⟩ := h
    exact ⟨vs, h1, VRL.forget φ cs h2, h3⟩
  | .tup cs, _, h => by
    simp only [VR, DV.forget] at h ⊢
    obtain ⟨vs, h1, h2⟩ := h
    exact ⟨vs, h1, VRL.forget φ cs h2⟩
theorem VRL.forget {ρ : Rho} {m : Ro} (φ : List Nat) : ∀ (l : List DV) {vs : List Value}, VRL ρ m l vs -> VRL ρ m (forgetL φ l) vs
  | [], _, h => h
  | x :: l, _, h => by
    simp only [VRL, forgetL] at h ⊢
    obtain ⟨v, r, h1, h2, h3⟩ := h
    exact ⟨v, r, h1, VR.forget φ x h2, VRL.forget φ l h3⟩
end
mutual
theorem ments_forget (φ : List Nat) : ∀ (x : DV) (b : Nat), b ∈ (x.forget φ).ments -> b ∈ x.ments /\ b ∉ φ
  | .any, _, h => by simp [DV.forget, DV.ments] at h
  | .unk, _, h => by simp [DV.forget, DV.ments] at h
  | .bool _, _, h => by simp [DV.forget, DV.ments] at h
  | .int _ _, _, h => by simp [DV.forget, DV.ments] at h
  | .str _, _, h => by simp [DV.forget, DV.ments] at h
  | .nilptr, _, h => by simp [DV.forget, DV.ments] at h
  | .ptr b' n i off, b, h => by
    simp only [DV.forget] at h
    split at h
    · simp [DV.ments] at h
    · rename_i hc
      simp only [DV.ments, List.mem_singleton] at h ⊢
      subst h; exact ⟨rfl, by simpa using hc⟩
  | .eptr n es i off, _, h => by simp [DV.forget, DV.ments] at h
  | .gptr _ _, _, h => by simp [DV.forget, DV.ments] at h
  | .nilsl, _, h => by simp [DV.forget, DV.ments] at h
  | .rsl b' n off len, b, h => by
    simp only [DV.forget] at h
    split at h
    · simp [DV.ments] at h
    · rename_i hc
      simp only [DV.ments, List.mem_singleton] at h ⊢
      subst h; exact ⟨rfl, by simpa using hc⟩
  | .psl n es, _, h => by simp [DV.forget, DV.ments] at h
  | .fn f a c, b, h => by
    simp only [DV.forget, DV.ments, List.mem_append] at h ⊢
    rcases h with h | h
    · exact ⟨.inl (mentsL_forget φ a b h).1, (mentsL_forget φ a b h).2⟩
    · exact ⟨.inr (mentsL_forget φ c b h).1, (mentsL_forget φ c b h).2⟩
  | .nilfn, _, h => by simp [DV.forget, DV.ments] at h
  | .iface t x, b, h => by
    simp only [DV.forget, DV.ments] at h ⊢
    exact ments_forget φ x b h
  | .niliface, _, h => by simp [DV.forget, DV.ments] at h
  | .map b', b, h => by
    simp only [DV.forget] at h
    split at h
    · simp [DV.ments] at h
    · rename_i hc
      simp only [DV.ments, List.mem_singleton] at h ⊢
      subst h; exact ⟨rfl, by simpa using hc⟩
  | .nilmap, _, h => by simp [DV.forget, DV.ments] at h
  | .agg cs, b, h => by
    simp only [DV.forget, DV.ments] at h ⊢
    exact mentsL_forget φ cs b h
  | .tup cs, b, h => by
    simp only [DV.forget, DV.ments] at h ⊢
    exact mentsL_forget φ cs b h
theorem mentsL_forget (φ : List Nat) : ∀ (l : List DV) (b : Nat), b ∈ mentsL (forgetL φ l) -> b ∈ mentsL l /\ b ∉ φ
  | [], _, h => by simp [forgetL, mentsL] at h
  | x :: l, b, h => by
    simp only [forgetL, mentsL, List.mem_append] at h ⊢
    rcases h with h | h
    · exact ⟨.inl (ments_forget φ x b h).1, (ments_forget φ x b h).2⟩
    · exact ⟨.inr (mentsL_forget φ l b h).1, (mentsL_forget φ l b h).2⟩
end
theorem VRL.step {ρ ρ' : Rho} {m m' : Ro} (hm : Sub m m') (φ : List Nat) (hr : ∀ b, b ∉ φ -> ρ b = ρ' b) (x : List DV) {v : List Value} (h : VRL ρ m x v) : VRL ρ' m' (forgetL φ x) v :=
  VRL.rho _ (fun b hb => hr b (mentsL_forget φ x b hb).2) (VRL.forget φ x (VRL.mono hm x h))
theorem VRL.length {ρ : Rho} {m : Ro} : ∀ {l : List DV} {vs : List Value}, VRL ρ m l vs -> vs.length = l.length
  | [], _, h => by simp only [VRL] at h; simp [h]
  | x :: l, _, h => by
    simp only [VRL] at h
    obtain ⟨v, r, rfl, _, h3⟩ := h
    simp [VRL.length h3]
theorem VRL.get {ρ : Rho} {m : Ro} : ∀ {l : List DV} {vs : List Value}, VRL ρ m l vs -> ∀ (i : Nat) (x : DV), l[i]? = some x -> ∃ v, vs[i]? = some v /\ VR ρ m x v
  | [], _, _, i, x, hx => by simp at hx
  | y :: l, _, h, i, x, hx => by
    simp only [VRL] at h
    obtain ⟨v, r, rfl, h2, h3⟩ := h
    cases i with
    | zero => simp at hx; subst hx; exact ⟨v, rfl, h2⟩
    | succ i => simp at hx ⊢; exact VRL.get h3 i x hx
theorem VRL.cons {ρ : Rho} {m : Ro} {x : DV} {v : Value} {l : List DV} {vs : List Value} (h : VR ρ m x v) (k : VRL ρ m l vs) : VRL ρ m (x :: l) (v :: vs) := by
  simp only [VRL]; exact ⟨v, vs, rfl, h, k⟩
theorem VRL.append {ρ : Rho} {m : Ro} : ∀ {l l' : List DV} {vs vs' : List Value}, VRL ρ m l vs -> VRL ρ m l' vs' -> VRL ρ m (l ++ l') (vs ++ vs')
  | [], l', vs, vs', h, k => by simp only [VRL] at h; subst h; exact k
  | x :: l, l', vs, vs', h, k => by
    simp only [VRL] at h
    obtain ⟨v, r, rfl, h2, h3⟩ := h
    exact VRL.cons h2 (VRL.append h3 k)
theorem VRL.take {ρ : Rho} {m : Ro} : ∀ (n : Nat) {l : List DV} {vs : List Value}, VRL ρ m l vs -> VRL ρ m (l.take n) (vs.take n)
  | 0, _, _, _ => by simp [VRL]
  | n + 1, [], _, h => by simp only [VRL] at h; subst h; simp [VRL]
  | n + 1, x :: l, _, h => by
    simp only [VRL] at h
    obtain ⟨v, r, rfl, h2, h3⟩ := h
    exact VRL.cons h2 (VRL.take n h3)
theorem VRL.drop {ρ : Rho} {m : Ro} : ∀ (n : Nat) {l : List DV} {vs : List Value}, VRL ρ m l vs -> VRL ρ m (l.drop n) (vs.drop n)
  | 0, _, _, h => h
  | n + 1, [], _, h => by simp only [VRL] at h; subst h; simp [VRL]
  | n + 1, x :: l, _, h => by
    simp only [VRL] at h
    obtain ⟨v, r, rfl, h2, h3⟩ := h
    exact VRL.drop n h3
theorem VRL.set {ρ : Rho} {m : Ro} {x : DV} {v : Value} (hx : VR ρ m x v) : ∀ (i : Nat) {l : List DV} {vs : List Value}, VRL ρ m l vs -> VRL ρ m (l.set i x) (vs.set i v)
  | _, [], _, h => by simp only [VRL] at h; subst h; simp [VRL]
  | 0, y :: l, _, h => by
    simp only [VRL] at h
    obtain ⟨w, r, rfl, h2, h3⟩ := h
    exact VRL.cons hx h3
  | i + 1, y :: l, _, h => by
    simp only [VRL] at h
    obtain ⟨w, r, rfl, h2, h3⟩ := h
    exact VRL.cons h2 (VRL.set hx i h3)
theorem VRL.map {ρ : Rho} {m : Ro} {α : Type} (f : α -> DV) (g : α -> Value) : ∀ (l : List α), (∀ a ∈ l, VR ρ m (f a) (g a)) -> VRL ρ m (l.map f) (l.map g)
  | [], _ => by simp [VRL]
  | a :: l, h => VRL.cons (h a (by simp)) (VRL.map f g l fun b hb => h b (by simp [hb]))
theorem VR.cells {ρ : Rho} {m : Ro} {x : DV} {v : Value} (h : VR ρ m x v) (hn : x.cells ≠ []) : VRL ρ m x.cells v.cells.toList /\ ∀ u ∈ v.cells.toList, u.oneCell' = true := by
  by_cases hs : x.scal = true
  · have h1 := h.one hs
    have hc : x.cells = [x] := by cases x <;> first | rfl | (simp [DV.scal] at hs)
    rw [hc, oneCells h1]
    exact ⟨VRL.cons h (by simp [VRL]), by simpa using h1⟩
  · cases x <;> first | (simp [DV.scal] at hs; done) | skip
    · exact absurd rfl hn
    · simp only [VR] at h
      obtain ⟨vs, rfl, h2, h3⟩ := h
      exact ⟨h2, h3⟩
    · exact absurd rfl hn
theorem VRE.get {ρ : Rho} {m : Ro} {n : Nat} : ∀ {l : List DV} {c : Array Value} {o : Nat}, VRE ρ m n l c o -> ∀ (i : Nat) (x : DV), l[i]? = some x -> 
    ∃ v, VR ρ m x v /\ v.cells.size = n /\ (∀ u ∈ v.cells.toList, u.oneCell' = true) /\ (∀ j u, v.cells[j]? = some u -> c[o + i * n + j]? = some u)
  | [], _, _, _, i, x, hx => by simp at hx
  | y :: l, c, o, h, i, x, hx => by
    simp only [VRE] at h
    obtain ⟨h1, h2⟩ := h
    cases i with
    | zero => simp at hx; subst hx; simpa using h1
    | succ i =>
      obtain ⟨v, k1, k2, k3, k4⟩ := VRE.get h2 i x (by simpa using hx)
      exact ⟨v, k1, k2, k3, fun j u hu => by rw [show o + (i + 1) * n + j = o + n + i * n + j by rw [Nat.succ_mul]; omega]; exact k4 j u hu⟩
theorem VRE.of_get {ρ : Rho} {m : Ro} {n : Nat} : ∀ {l : List DV} {c : Array Value} {o : Nat},
    (∀ (i : Nat) (x : DV), l[i]? = some x -> ∃ v, VR ρ m x v /\ v.cells.size = n /\ (∀ u ∈ v.cells.toList, u.oneCell' = true) /\ (∀ j u, v.cells[j]? = some u -> c[o + i * n + j]? = some u)) -> VRE ρ m n l c o
  | [], _, _, _ => by simp [VRE]
  | y :: l, c, o, h => by
    simp only [VRE]
    refine ⟨by simpa using h 0 y rfl, VRE.of_get fun i x hx => ?_⟩
    obtain ⟨v, k1, k2, k3, k4⟩ := h (i + 1) x (by simpa using hx)
    exact ⟨v, k1, k2, k3, fun j u hu => by rw [show o + n + i * n + j = o + (i + 1) * n + j by rw [Nat.succ_mul]; omega]; exact k4 j u hu⟩
theorem mentsL_append (l l' : List DV) : mentsL (l ++ l') = mentsL l ++ mentsL l' := by
  induction l with
  | nil => rfl
  | cons x l ih => simp [mentsL, ih]
theorem mentsL_mem {l : List DV} {x : DV} (h : x ∈ l) {b : Nat} (hb : b ∈ x.ments) : b ∈ mentsL l := by
  induction l with
  | nil => cases h
  | cons y l ih =>
    simp only [mentsL, List.mem_append]
    rcases List.mem_cons.1 h with rfl | h
    · exact .inl hb
    · exact .inr (ih h)
theorem of_mentsL {l : List DV} {b : Nat} (h : b ∈ mentsL l) : ∃ x ∈ l, b ∈ x.ments := by
  induction l with
  | nil => simp [mentsL] at h
  | cons y l ih =>
    simp only [mentsL, List.mem_append] at h
    rcases h with h | h
    · exact ⟨y, by simp, h⟩
    · obtain ⟨x, h1, h2⟩ := ih h
      exact ⟨x, by simp [h1], h2⟩
theorem mentsL_nil_iff {l : List DV} : mentsL l = [] ↔ ∀ x ∈ l, x.ments = [] := by
  constructor
  · intro h x hx
    refine List.eq_nil_iff_forall_not_mem.2 fun b hb => ?_
    have := mentsL_mem hx hb
    rw [h] at this; cases this
  · intro h
    refine List.eq_nil_iff_forall_not_mem.2 fun b hb => ?_
    obtain ⟨x, h1, h2⟩ := of_mentsL hb
    rw [h x h1] at h2; cases h2
theorem Grows.trans {N : Nat} {a b c : Ro} (h : Grows N a b) (k : Grows N b c) : Grows N a c := ⟨h.1.trans k.1, fun r hr => (k.2 r hr).trans (h.2 r hr), fun r x hx => k.3 r x (h.3 r x hx)⟩
end Go.Det
end

section
namespace Go.Det
def nf (c : Array Value) (fr : Nat × Nat) : Prop := ∀ o, o < c.size -> ¬ (fr.1 <= o /\ o < fr.2)
def BR (ρ : Rho) (m : Ro) (w : World) (p : Loc) : Blk -> Prop
  | .box cs => ∃ c el fr, w.heap[p.blk]? = some (.cells c el fr) /\ p.base = 0 /\ c.size = p.size /\ nf c fr /\ VRL ρ m cs c.toList /\ ∀ u ∈ c.toList, u.oneCell' = true
  | .row n es => ∃ c el fr, w.heap[p.blk]? = some (.cells c el fr) /\ c.size = p.size /\ nf c fr /\ 0 < n /\ p.base + es.length * n <= p.size /\ mentsL es = [] /\ VRE ρ m n es c p.base
  | .iter s pos => w.heap[p.blk]? = some (.stringIter ⟨s.toArray⟩ pos) /\ p.base = 0
theorem BR.lt {ρ : Rho} {m : Ro} {w : World} {p : Loc} {x : Blk} (h : BR ρ m w p x) : p.blk < w.heap.size := by
  cases x <;> simp only [BR] at h
  · obtain ⟨c, el, fr, h1, _⟩ := h; exact (Array.getElem?_eq_some_iff.1 h1).1
  · obtain ⟨c, el, fr, h1, _⟩ := h; exact (Array.getElem?_eq_some_iff.1 h1).1
  · exact (Array.getElem?_eq_some_iff.1 h.1).1
theorem BR.step {ρ ρ' : Rho} {m m' : Ro} {w w' : World} {p : Loc} {x : Blk} (hm : Sub m m') (φ : List Nat) (hr : ∀ b, b ∉ φ -> ρ b = ρ' b) (hw : w'.heap[p.blk]? = w.heap[p.blk]?) (h : BR ρ m w p x) :
    BR ρ' m' w' p (x.forget φ) := by
  cases x <;> simp only [BR, Blk.forget] at h ⊢
  · obtain ⟨c, el, fr, h1, h2, h3, h4, h5, h6⟩ := h
    exact ⟨c, el, fr, hw.trans h1, h2, h3, h4, VRL.step hm φ hr _ h5, h6⟩
  · obtain ⟨c, el, fr, h1, h2, h3, h4, h5, h6, h7⟩ := h
    exact ⟨c, el, fr, hw.trans h1, h2, h3, h4, h5, h6, VRE.rho _ (by rw [h6]; simp) (VRE.mono hm _ h7)⟩
  · exact ⟨hw.trans h.1, h.2⟩
structure Evo (L : List Nat) (w w' : World) : Prop where
  os : w'.os = w.os
  tape : w'.tape = w.tape
  output : w'.output = w.output
  size : w.heap.size <= w'.heap.size
  keep : ∀ r, r < w.heap.size -> r ∉ L -> w'.heap[r]? = w.heap[r]?
theorem Evo.refl (L : List Nat) (w : World) : Evo L w w := ⟨rfl, rfl, rfl, Nat.le_refl _, fun _ _ _ => rfl⟩
structure Inv (ρ : Rho) (m : Ro) (L : List Nat) (N : Nat) (h : Heap) (w : World) : Prop where
  blk : ∀ b x, hget h b = some x -> ∃ p, ρ b = some p /\ BR ρ m w p x /\ m p.blk = none /\ (p.blk ∈ L \/ N <= p.blk) /\ (x.isRow = true -> N <= p.blk)
  inj : ∀ b b' x x' p p', hget h b = some x -> hget h b' = some x' -> ρ b = some p -> ρ b' = some p' -> p.blk = p'.blk -> b = b'
  ro : ∀ r c, m r = some c -> ∃ el fr, w.heap[r]? = some (.cells c el fr)
  oth : ∀ r x, m.o r = some x -> w.heap[r]? = some x /\ isCellsO x = false
def upd (ρ : Rho) (d : Nat) (p : Loc) : Rho := fun b => if b = d then some p else ρ b
theorem upd_same (ρ : Rho) (d : Nat) (p : Loc) : upd ρ d p d = some p := by simp [upd]
theorem upd_other (ρ : Rho) (d : Nat) (p : Loc) {b : Nat} (h : b ≠ d) : upd ρ d p b = ρ b := by simp [upd, h]
def forgetH (φ : List Nat) (h : Heap) : Heap := h.map fun b => b.map (Blk.forget φ)
theorem hget_set (h : Heap) (b b' : Nat) (x : Option Blk) : hget (h.set b x) b' = if b' = b then (if b < h.length then x else none) else hget h b' := by
  unfold hget
  by_cases hb : b' = b
  · subst hb
    by_cases hl : b' < h.length
    · simp [hl]
    · simp [hl, List.getElem?_eq_none_iff.2 (show (h.set b' x).length <= b' by simp; omega)]
  · rw [List.getElem?_set]
    simp [hb, Ne.symm hb]
theorem hget_forget (φ : List Nat) (h : Heap) (b : Nat) : hget (forgetH φ h) b = (hget h b).map (Blk.forget φ) := by
  unfold hget forgetH
  rw [List.getElem?_map]
  cases h[b]? with
  | none => rfl
  | some x => cases x <;> rfl
theorem forgetH_length (φ : List Nat) (h : Heap) : (forgetH φ h).length = h.length := by simp [forgetH]
mutual
theorem forget_nil : ∀ (x : DV), x.forget [] = x
  | .any => rfl
  | .unk => rfl
  | .bool _ => rfl
  | .int _ _ => rfl
  | .str _ => rfl
  | .nilptr => rfl
  | .ptr .. => by simp [DV.forget]
  | .eptr .. => rfl
  | .gptr .. => rfl
  | .nilsl => rfl
  | .rsl .. => by simp [DV.forget]
  | .psl .. => rfl
  | .fn f a c => by simp [DV.forget, forgetL_nil a, forgetL_nil c]
  | .nilfn => rfl
  | .iface t v => by simp [DV.forget, forget_nil v]
  | .niliface => rfl
  | .map _ => by simp [DV.forget]
  | .nilmap => rfl
  | .agg cs => by simp [DV.forget, forgetL_nil cs]
  | .tup cs => by simp [DV.forget, forgetL_nil cs]
theorem forgetL_nil : ∀ (l : List DV), forgetL [] l = l
  | [] => rfl
  | x :: l => by simp [forgetL, forget_nil x, forgetL_nil l]
end
theorem Blk.forget_nil (b : Blk) : b.forget [] = b := by
  cases b <;> simp [Blk.forget, forgetL_nil]
theorem forgetH_nil (h : Heap) : forgetH [] h = h := by
  unfold forgetH
  have : (fun b : Option Blk => b.map (Blk.forget [])) = id := by
    funext b; cases b <;> simp [Blk.forget_nil]
  rw [this, List.map_id]
theorem apply_eq (st : St) (dst : Option Nat) (o : Out) : apply st dst o =
    { t := (match dst with | some d => (forgetL o.φ st.t).set d o.v | none => forgetL o.φ st.t), h := setAll (forgetH o.φ st.h) o.δ } := by
  unfold apply
  cases hφ : o.φ with
  | nil => simp [forgetL_nil, forgetH_nil] <;> (cases dst <;> rfl)
  | cons b l => simp [forgetH] <;> (cases dst <;> rfl)
structure Post (L : List Nat) (N : Nat) (h : Heap) (w0 w : World) (ρ : Rho) (m : Ro) (out : Out) (v' : Value) (w' : World) (ρ' : Rho) (m' : Ro) : Prop where
  val : VR ρ' m' out.v v'
  sub : Grows N m m'
  rho : ∀ b, b ∉ out.φ -> ρ b = ρ' b
  inv : Inv ρ' m' L N (setAll (forgetH out.φ h) out.δ) w'
  evo : Evo L w0 w'
structure Marks (N : Nat) (m : Ro) (ds : List Deferred) : Prop where
  mark : ∀ d ∈ ds, ∃ D, d = { target := .collected D, args := #[] } /\ m.o D = some (.deferred (some [])) /\ N <= D
  nodup : ds.Nodup
theorem Marks.nil (N : Nat) (m : Ro) : Marks N m [] := ⟨by simp, List.nodup_nil⟩
theorem Marks.mono {N : Nat} {m m' : Ro} {ds : List Deferred} (h : Marks N m ds) (hs : SubO m m') : Marks N m' ds :=
  ⟨fun d hd => by obtain ⟨D, h1, h2, h3⟩ := h.mark d hd; exact ⟨D, h1, hs _ _ h2, h3⟩, h.nodup⟩
structure Rel (w0 : World) (L : List Nat) (m0 : Ro) (st : St) (a : Act) (w : World) (ρ : Rho) (m : Ro) : Prop where
  slots : VRL ρ m st.t a.tmps.toList
  defers : Marks w0.heap.size m a.defers
  inv : Inv ρ m L w0.heap.size st.h w
  evo : Evo L w0 w
  sub : Grows w0.heap.size m0 m
theorem Rel.apply {w0 : World} {L : List Nat} {m0 : Ro} {st : St} {a : Act} {w : World} {ρ : Rho} {m : Ro} (r : Rel w0 L m0 st a w ρ m) {out : Out} {v' : Value} {w' : World} {ρ' : Rho} {m' : Ro}
    (p : Post L w0.heap.size st.h w0 w ρ m out v' w' ρ' m') (dst : Option Nat) : Rel w0 L m0 (apply st dst out) (a.put dst v') w' ρ' m' := by
  have hs : VRL ρ' m' (forgetL out.φ st.t) a.tmps.toList := VRL.step p.sub.1 _ p.rho _ r.slots
  refine ⟨?_, ?_, ?_, p.evo, r.sub.trans p.sub⟩
  · rw [apply_eq]
    cases dst with
    | none => exact hs
    | some d =>
      simp only [Act.put, Array.toList_setIfInBounds]
      exact VRL.set p.val d hs
  · cases dst <;> exact r.defers.mono p.sub.3
  · rw [apply_eq]; exact p.inv
theorem Rel.sget {w0 : World} {L : List Nat} {m0 : Ro} {st : St} {a : Act} {w : World} {ρ : Rho} {m : Ro} (r : Rel w0 L m0 st a w ρ m) (i : Nat) : VR ρ m (sget st.t i) (a.tmps.getD i undef) := by
  unfold Det.sget
  rw [List.getD_eq_getElem?_getD]
  cases hx : st.t[i]? with
  | some x =>
    obtain ⟨v, hv, h⟩ := r.slots.get i x hx
    have : a.tmps.getD i undef = v := by
      rw [Array.getD_eq_getD_getElem?]
      simp at hv
      simp [hv]
    rw [this]; exact h
  | none =>
    have hl := r.slots.length
    have : a.tmps[i]? = none := by
      have h1 := List.getElem?_eq_none_iff.1 hx
      simp only [Array.length_toList] at hl
      rw [Array.getElem?_eq_none_iff]; omega
    rw [Array.getD_eq_getD_getElem?, this]
    simp only [Option.getD_none]
    simp only [VR, VRL, undef]
    exact ⟨#[], rfl, rfl⟩
theorem ofCell_ok {ρ : Rho} {m : Ro} {v : Value} {x : DV} (h : ofCell v = some x) : VR ρ m x v /\ v.oneCell' = true /\ x.ments = [] := by
  unfold ofCell at h
  split at h <;> first
    | (simp at h; done)
    | (simp only [Option.some.injEq] at h; subst h; exact ⟨by simp [VR], rfl, rfl⟩)
theorem ofCells_ok {ρ : Rho} {m : Ro} : ∀ {vs : List Value} {l : List DV}, ofCells vs = some l -> VRL ρ m l vs /\ (∀ u ∈ vs, u.oneCell' = true) /\ mentsL l = []
  | [], l, h => by simp [ofCells] at h; subst h; exact ⟨by simp [VRL], by simp, rfl⟩
  | v :: vs, l, h => by
    unfold ofCells at h
    split at h
    · rename_i x y hx hy
      simp only [Option.some.injEq] at h; subst h
      obtain ⟨a1, a2, a3⟩ := ofCell_ok (ρ := ρ) (m := m) hx
      obtain ⟨b1, b2, b3⟩ := ofCells_ok (ρ := ρ) (m := m) hy
      exact ⟨VRL.cons a1 b1, by simpa using ⟨a2, b2⟩, by simp [mentsL, a3, b3]⟩
    · simp at h
theorem ofConst_ok {ρ : Rho} {m : Ro} {v : Value} {x : DV} (h : ofConst v = some x) : VR ρ m x v := by
  unfold ofConst at h
  split at h
  · rename_i cs
    simp only [Option.map_eq_some_iff] at h
    obtain ⟨l, hl, rfl⟩ := h
    obtain ⟨b1, b2, b3⟩ := ofCells_ok (ρ := ρ) (m := m) hl
    simp only [VR]
    exact ⟨cs, rfl, b1, b2⟩
  · rename_i vs
    split at h
    · rename_i hz
      simp only [Option.some.injEq] at h; subst h
      simp only [VR, VRL]
      exact ⟨vs, rfl, by simpa using hz⟩
    · simp at h
  · exact (ofCell_ok h).1
theorem Rel.opnd {w0 : World} {L : List Nat} {m0 : Ro} {st : St} {a : Act} {w : World} {ρ : Rho} {m : Ro} (r : Rel w0 L m0 st a w ρ m) (x : Operand) : VR ρ m (opnd st.t x) (a.eval x) := by
  cases x with
  | tmp i => exact r.sget i
  | const v =>
    simp only [Det.opnd, Act.eval]
    cases h : ofConst v with
    | some y => exact ofConst_ok h
    | none => simp [VR]
  | global g => simp [Det.opnd, Act.eval, VR]
  | func f => simp [Det.opnd, Act.eval, VR, VRL]
end Go.Det
end

section
namespace Go.Det
section
variable {ρ : Rho} {m : Ro} {L : List Nat} {N : Nat} {h : Heap} {w : World}
theorem alloc_get (w : World) (o : Obj) (r : Nat) : (w.alloc o).heap[r]? = if r = w.heap.size then some o else w.heap[r]? := by
  simp only [World.alloc, Array.getElem?_push]
theorem alloc_get_lt (w : World) (o : Obj) {r : Nat} (hr : r < w.heap.size) : (w.alloc o).heap[r]? = w.heap[r]? := by
  rw [alloc_get, if_neg (by omega)]
theorem alloc_get_new (w : World) (o : Obj) : (w.alloc o).heap[w.heap.size]? = some o := by
  rw [alloc_get, if_pos rfl]
theorem Evo.alloc {w0 : World} (e : Evo L w0 w) (o : Obj) : Evo L w0 (w.alloc o) :=
  ⟨e.os, e.tape, e.output, by rw [World.size_alloc]; have := e.size; omega, fun r hr hL => (alloc_get_lt w o (by have := e.size; omega)).trans (e.keep r hr hL)⟩
theorem Evo.drew {w0 : World} (e : Evo L w0 w) : Evo L w0 w.drew := ⟨e.os, e.tape, e.output, e.size, e.keep⟩
theorem Inv.ro_lt (i : Inv ρ m L N h w) {r : Nat} {c : Array Value} (hm : m r = some c) : r < w.heap.size := by
  obtain ⟨_, _, hc⟩ := i.ro r c hm
  exact (Array.getElem?_eq_some_iff.1 hc).1
theorem Inv.oth_lt (i : Inv ρ m L N h w) {r : Nat} {x : Obj} (hm : m.o r = some x) : r < w.heap.size :=
  (Array.getElem?_eq_some_iff.1 (i.oth r x hm).1).1
theorem Inv.oth_ne (i : Inv ρ m L N h w) {p : Loc} {y : Blk} (hB : BR ρ m w p y) {r : Nat} {z : Obj} (hz : m.o r = some z) : r ≠ p.blk := by
  rintro rfl
  obtain ⟨h1, h2⟩ := i.oth _ _ hz
  cases y <;> simp only [BR] at hB
  · obtain ⟨c, el, fr, k, _⟩ := hB; rw [h1] at k; cases k; simp [isCellsO] at h2
  · obtain ⟨c, el, fr, k, _⟩ := hB; rw [h1] at k; cases k; simp [isCellsO] at h2
  · rw [h1] at hB; obtain ⟨k, _⟩ := hB; cases k; simp [isCellsO] at h2
theorem Inv.new_ro (i : Inv ρ m L N h w) : m w.heap.size = none := by
  cases hm : m w.heap.size with
  | none => rfl
  | some c => exact absurd (i.ro_lt hm) (by omega)
theorem Inv.drew (i : Inv ρ m L N h w) : Inv ρ m L N h w.drew :=
  ⟨fun b x hx => by
    obtain ⟨p, h1, h2, h3⟩ := i.blk b x hx
    refine ⟨p, h1, ?_, h3⟩
    have := BR.step (Sub.refl m) [] (fun _ _ => rfl) (w' := w.drew) rfl h2
    rwa [Blk.forget_nil] at this, i.inj, i.ro, i.oth⟩
theorem Inv.grow (i : Inv ρ m L N h w) (hN : N <= w.heap.size) {w' : World} (hold : ∀ r, r < w.heap.size -> w'.heap[r]? = w.heap[r]?) (φ : List Nat) (d : Nat) (hd : d ∈ φ) (x : Blk) (sz : Nat) (hx : BR (upd ρ d ⟨w.heap.size, 0, sz⟩) m w' ⟨w.heap.size, 0, sz⟩ x) :
    Inv (upd ρ d ⟨w.heap.size, 0, sz⟩) m L N ((forgetH φ h).set d (some x)) w' := by
  refine ⟨fun b y hy => ?_, fun b b' y y' p p' hy hy' hp hp' he => ?_, fun r c hc => ?_, fun r x hx => ⟨(hold _ (i.oth_lt hx)).trans (i.oth r x hx).1, (i.oth r x hx).2⟩⟩
  · rw [hget_set] at hy
    split at hy
    · rename_i hb; subst hb
      split at hy
      · simp only [Option.some.injEq] at hy; subst hy
        exact ⟨_, upd_same .., hx, i.new_ro, .inr hN, fun _ => hN⟩
      · simp at hy
    · rename_i hb
      rw [hget_forget] at hy
      simp only [Option.map_eq_some_iff] at hy
      obtain ⟨z, hz, rfl⟩ := hy
      obtain ⟨p, h1, h2, h3⟩ := i.blk b z hz
      refine ⟨p, by rw [upd_other _ _ _ hb]; exact h1, BR.step (Sub.refl m) φ (fun b' hb' => (upd_other _ _ _ (fun e => hb' (by rw [e]; exact hd))).symm) ?_ h2, h3.1, h3.2.1, fun hr => h3.2.2 (by rwa [Blk.isRow_forget] at hr)⟩
      exact hold _ h2.lt
  · rw [hget_set] at hy hy'
    by_cases hb : b = d
    · by_cases hb' : b' = d
      · rw [hb, hb']
      · rw [if_neg hb', hget_forget] at hy'
        simp only [Option.map_eq_some_iff] at hy'
        obtain ⟨z, hz, _⟩ := hy'
        obtain ⟨q, h1, h2, h3⟩ := i.blk b' z hz
        rw [upd_other _ _ _ hb', h1] at hp'
        rw [hb, upd_same] at hp
        simp only [Option.some.injEq] at hp hp'
        subst hp hp'
        have := h2.lt
        simp at he; omega
    · by_cases hb' : b' = d
      · rw [if_neg hb, hget_forget] at hy
        simp only [Option.map_eq_some_iff] at hy
        obtain ⟨z, hz, _⟩ := hy
        obtain ⟨q, h1, h2, h3⟩ := i.blk b z hz
        rw [upd_other _ _ _ hb, h1] at hp
        rw [hb', upd_same] at hp'
        simp only [Option.some.injEq] at hp hp'
        subst hp hp'
        have := h2.lt
        simp at he; omega
      · rw [if_neg hb, hget_forget] at hy
        rw [if_neg hb', hget_forget] at hy'
        simp only [Option.map_eq_some_iff] at hy hy'
        obtain ⟨z, hz, _⟩ := hy
        obtain ⟨z', hz', _⟩ := hy'
        rw [upd_other _ _ _ hb] at hp
        rw [upd_other _ _ _ hb'] at hp'
        exact i.inj b b' z z' p p' hz hz' hp hp' he
  · obtain ⟨el, fr, hh⟩ := i.ro r c hc
    exact ⟨el, fr, (hold _ (i.ro_lt hc)).trans hh⟩
theorem Inv.less (i : Inv ρ m L N h w) {h' : Heap} (hs : ∀ b x, hget h' b = some x -> hget h b = some x) : Inv ρ m L N h' w :=
  ⟨fun b x hx => i.blk b x (hs b x hx), fun b b' x x' p p' hx hx' => i.inj b b' x x' p p' (hs b x hx) (hs b' x' hx'), i.ro, i.oth⟩
theorem set_none_less (H : Heap) (b d : Nat) (y : Blk) (b' : Nat) (x : Blk) (hx : hget (setAll H [(b, none), (d, some y)]) b' = some x) : hget (H.set d (some y)) b' = some x := by
  simp only [setAll] at hx
  rw [hget_set] at hx ⊢
  by_cases e : b' = d
  · rw [if_pos e] at hx ⊢
    simpa using hx
  · rw [if_neg e] at hx ⊢
    rw [hget_set] at hx
    split at hx
    · split at hx <;> simp at hx
    · exact hx
theorem Evo.grow {w0 w' : World} (e : Evo L w0 w) (hold : ∀ r, r < w.heap.size -> w'.heap[r]? = w.heap[r]?) (h1 : w'.os = w.os) (h2 : w'.tape = w.tape) (h3 : w'.output = w.output) (h4 : w.heap.size <= w'.heap.size) : Evo L w0 w' :=
  ⟨h1.trans e.os, h2.trans e.tape, h3.trans e.output, Nat.le_trans e.size h4, fun r hr hL => (hold r (by have := e.size; omega)).trans (e.keep r hr hL)⟩
def seal1 (m : Ro) (r : Nat) (c : Array Value) : Ro := ⟨fun r' => if r' = r then some c else m r', m.o⟩
theorem sub_seal1 {m : Ro} {r : Nat} (c : Array Value) (hr : m r = none) : Sub m (seal1 m r c) := by
  intro r' c' h'
  show (if r' = r then some c else m r') = some c'
  by_cases e : r' = r
  · subst e; rw [hr] at h'; cases h'
  · rw [if_neg e]; exact h'
theorem Inv.allocSealed (i : Inv ρ m L N h w) (c : Array Value) (el : TypeId) (fr : Nat × Nat) :
    Inv ρ (seal1 m w.heap.size c) L N h (w.alloc (.cells c el fr)) := by
  have hs := sub_seal1 c i.new_ro
  refine ⟨fun b y hy => ?_, i.inj, fun r c' hc => ?_, fun r x hx => ⟨(alloc_get_lt w _ (i.oth_lt hx)).trans (i.oth r x hx).1, (i.oth r x hx).2⟩⟩
  · obtain ⟨p, h1, h2, h3, h4⟩ := i.blk b y hy
    have hlt := h2.lt
    have := BR.step hs [] (fun _ _ => rfl) (w' := w.alloc (.cells c el fr)) (alloc_get_lt w _ hlt) h2
    rw [Blk.forget_nil] at this
    refine ⟨p, h1, this, ?_, h4⟩
    show (if p.blk = w.heap.size then some c else m p.blk) = none
    rw [if_neg (by omega)]; exact h3
  · replace hc : (if r = w.heap.size then some c else m r) = some c' := hc
    by_cases e : r = w.heap.size
    · rw [if_pos e] at hc
      subst e
      simp only [Option.some.injEq] at hc; subst hc
      exact ⟨el, fr, alloc_get_new w _⟩
    · rw [if_neg e] at hc
      obtain ⟨el', fr', hh⟩ := i.ro r c' hc
      exact ⟨el', fr', (alloc_get_lt w _ (i.ro_lt hc)).trans hh⟩
def World.setBlk (w : World) (r : Nat) (o : Obj) : World := { w with heap := w.heap.setIfInBounds r o }
theorem setBlk_get (w : World) (r : Nat) (o : Obj) (r' : Nat) : (World.setBlk w r o).heap[r']? = if r' = r then (if r < w.heap.size then some o else none) else w.heap[r']? := by
  simp only [World.setBlk, Array.getElem?_setIfInBounds]
  by_cases e : r = r'
  · subst e; simp
  · simp [e, Ne.symm e]
theorem Evo.setBlk {w0 : World} (e : Evo L w0 w) {r : Nat} (o : Obj) (hr : r ∈ L \/ w0.heap.size <= r) : Evo L w0 (World.setBlk w r o) := by
  refine ⟨e.os, e.tape, e.output, by simp [World.setBlk]; exact e.size, fun r' hr' hL => ?_⟩
  rw [setBlk_get, if_neg ?_]
  · exact e.keep r' hr' hL
  · rintro rfl
    rcases hr with hr | hr
    · exact hL hr
    · omega
theorem Inv.setBlk (i : Inv ρ m L N h w) {b : Nat} {x y : Blk} {p : Loc} (hb : hget h b = some x) (hp : ρ b = some p) (o : Obj) (hy : BR ρ m (World.setBlk w p.blk o) p y) (hxy : y.isRow = x.isRow) :
    Inv ρ m L N (h.set b (some y)) (World.setBlk w p.blk o) := by
  obtain ⟨p', h1, h2, h3, h4⟩ := i.blk b x hb
  rw [hp] at h1; simp only [Option.some.injEq] at h1; subst h1
  refine ⟨fun b' y' hy' => ?_, fun b1 b2 y1 y2 p1 p2 hy1 hy2 hp1 hp2 he => ?_, fun r c hc => ?_, fun r z hz => ⟨?_, (i.oth r z hz).2⟩⟩
  rotate_right
  · rw [setBlk_get, if_neg (i.oth_ne h2 hz)]; exact (i.oth r z hz).1
  · rw [hget_set] at hy'
    split at hy'
    · rename_i e; subst e
      split at hy'
      · simp only [Option.some.injEq] at hy'; subst hy'
        exact ⟨p, hp, hy, h3, h4.1, fun hr => h4.2 (by rwa [hxy] at hr)⟩
      · simp at hy'
    · rename_i e
      obtain ⟨q, k1, k2, k3, k4⟩ := i.blk b' y' hy'
      have hne : q.blk ≠ p.blk := fun he => e (i.inj b' b y' x q p hy' hb k1 hp he)
      have := BR.step (Sub.refl m) [] (fun _ _ => rfl) (w' := World.setBlk w p.blk o) (by rw [setBlk_get, if_neg hne]) k2
      rw [Blk.forget_nil] at this
      exact ⟨q, k1, this, k3, k4⟩
  · have aux : ∀ b1 y1, hget (h.set b (some y)) b1 = some y1 -> ∃ z, hget h b1 = some z := by
      intro b1 y1 h'
      rw [hget_set] at h'
      split at h'
      · rename_i e; subst e; exact ⟨x, hb⟩
      · exact ⟨_, h'⟩
    obtain ⟨z1, e1⟩ := aux b1 y1 hy1
    obtain ⟨z2, e2⟩ := aux b2 y2 hy2
    exact i.inj b1 b2 z1 z2 p1 p2 e1 e2 hp1 hp2 he
  · obtain ⟨el, fr, hh⟩ := i.ro r c hc
    refine ⟨el, fr, ?_⟩
    rw [setBlk_get, if_neg ?_]
    · exact hh
    · rintro rfl; rw [h3] at hc; cases hc
theorem Inv.move (i : Inv ρ m L N h w) {b d : Nat} {x y : Blk} {p q : Loc} (hb : hget h b = some x) (hp : ρ b = some p) (hq : q.blk = p.blk) (o : Obj) (hy : BR (upd ρ d q) m (World.setBlk w p.blk o) q y) (hxy : y.isRow = x.isRow) :
    Inv (upd ρ d q) m L N (setAll (forgetH [b, d] h) [(b, none), (d, some y)]) (World.setBlk w p.blk o) := by
  obtain ⟨p', h1, h2, h3, h4⟩ := i.blk b x hb
  rw [hp] at h1; simp only [Option.some.injEq] at h1; subst h1
  have key : ∀ b' y', hget (setAll (forgetH [b, d] h) [(b, none), (d, some y)]) b' = some y' -> (b' = d /\ y' = y) \/ (b' ≠ d /\ b' ≠ b /\ ∃ z, hget h b' = some z /\ y' = z.forget [b, d]) := by
    intro b' y' hh
    simp only [setAll] at hh
    rw [hget_set] at hh
    by_cases e : b' = d
    · rw [if_pos e] at hh
      split at hh
      · simp only [Option.some.injEq] at hh; exact .inl ⟨e, hh.symm⟩
      · simp at hh
    · rw [if_neg e, hget_set] at hh
      split at hh
      · split at hh <;> simp at hh
      · rename_i e2
        rw [hget_forget] at hh
        simp only [Option.map_eq_some_iff] at hh
        obtain ⟨z, hz, rfl⟩ := hh
        exact .inr ⟨e, e2, z, hz, rfl⟩
  have far : ∀ b' z p1, b' ≠ b -> hget h b' = some z -> ρ b' = some p1 -> p1.blk ≠ p.blk := fun b' z p1 hne hz hp1 he => hne (i.inj b' b z x p1 p hz hb hp1 hp he)
  refine ⟨fun b' y' hh => ?_, fun b1 b2 y1 y2 p1 p2 hy1 hy2 hp1 hp2 he => ?_, fun r c hc => ?_, fun r z hz => ⟨?_, (i.oth r z hz).2⟩⟩
  rotate_right
  · rw [setBlk_get, if_neg (i.oth_ne h2 hz)]; exact (i.oth r z hz).1
  · rcases key b' y' hh with ⟨rfl, rfl⟩ | ⟨hd, hnb, z, hz, rfl⟩
    · exact ⟨q, upd_same .., hy, by rw [hq]; exact h3, by rw [hq]; exact h4.1, fun hr => by rw [hq]; exact h4.2 (by rwa [hxy] at hr)⟩
    · obtain ⟨p1, k1, k2, k3⟩ := i.blk b' z hz
      exact ⟨p1, by rw [upd_other _ _ _ hd]; exact k1, BR.step (Sub.refl m) [b, d] (fun b2 hb2 => (upd_other _ _ _ (fun e => hb2 (by simp [e]))).symm) (by rw [setBlk_get, if_neg (far b' z p1 hnb hz k1)]) k2, k3.1, k3.2.1, fun hr => k3.2.2 (by rwa [Blk.isRow_forget] at hr)⟩
  · rcases key b1 y1 hy1 with ⟨rfl, rfl⟩ | ⟨hd, hnb, z, hz, rfl⟩
    · rcases key b2 y2 hy2 with ⟨rfl, rfl⟩ | ⟨hd', hnb', z', hz', rfl⟩
      · rfl
      · rw [upd_same] at hp1; simp only [Option.some.injEq] at hp1; subst hp1
        rw [upd_other _ _ _ hd'] at hp2
        exact absurd (he.symm.trans hq) (far b2 z' p2 hnb' hz' hp2)
    · rcases key b2 y2 hy2 with ⟨rfl, rfl⟩ | ⟨hd', hnb', z', hz', rfl⟩
      · rw [upd_same] at hp2; simp only [Option.some.injEq] at hp2; subst hp2
        rw [upd_other _ _ _ hd] at hp1
        exact absurd (he.trans hq) (far b1 z p1 hnb hz hp1)
      · rw [upd_other _ _ _ hd] at hp1
        rw [upd_other _ _ _ hd'] at hp2
        exact i.inj b1 b2 z z' p1 p2 hz hz' hp1 hp2 he
  · obtain ⟨el, fr, hh⟩ := i.ro r c hc
    refine ⟨el, fr, ?_⟩
    rw [setBlk_get, if_neg ?_]
    · exact hh
    · rintro rfl; rw [h3] at hc; cases hc
end
theorem cell_at {w : World} {r : Nat} {c : Array Value} {el : TypeId} {fr : Nat × Nat} (hh : w.heap[r]? = some (.cells c el fr)) (o : Nat) : w.cell? ⟨r, o, none⟩ = c[o]? := by
  simp [World.cell?, hh]
theorem frozen_at {w : World} {r : Nat} {c : Array Value} {el : TypeId} {fr : Nat × Nat} (hh : w.heap[r]? = some (.cells c el fr)) (hf : nf c fr) {o : Nat} (ho : o < c.size) : w.frozen? ⟨r, o, none⟩ = false := by
  have := hf o ho
  simp only [World.frozen?, hh]
  simpa using this
def overA (c : Array Value) (o : Nat) : List Value -> Array Value
  | [] => c
  | v :: l => overA (c.setIfInBounds o v) (o + 1) l
theorem overA_size (c : Array Value) (o : Nat) (l : List Value) : (overA c o l).size = c.size := by
  induction l generalizing c o with
  | nil => rfl
  | cons v l ih => simp [overA, ih]
theorem overA_get (l : List Value) : ∀ (c : Array Value) (o j : Nat), o + l.length <= c.size -> (overA c o l)[j]? = if o <= j /\ j < o + l.length then l[j - o]? else c[j]? := by
  induction l with
  | nil => intro c o j _; simp [overA]; omega
  | cons v l ih =>
    intro c o j h
    simp only [List.length_cons] at h
    rw [overA, ih _ _ _ (by simp; omega), Array.getElem?_setIfInBounds]
    by_cases h1 : o + 1 <= j /\ j < o + 1 + l.length
    · rw [if_pos h1, if_pos (by simp; omega), show j - o = (j - (o + 1)) + 1 by omega]
      simp
    · rw [if_neg h1]
      by_cases h2 : o = j
      · subst h2; rw [if_pos rfl, if_pos (by omega), if_pos (by simp)]; simp
      · rw [if_neg h2, if_neg (by simp; omega)]
theorem setCell_cells {w : World} {r : Nat} {c : Array Value} {el : TypeId} {fr : Nat × Nat} (hh : w.heap[r]? = some (.cells c el fr)) (o : Nat) (v : Value) :
    w.setCell ⟨r, o, none⟩ v = World.setBlk w r (.cells (c.setIfInBounds o v) el fr) := by
  obtain ⟨hlt, hval⟩ := Array.getElem?_eq_some_iff.1 hh
  unfold World.setCell World.setBlk
  congr 1
  apply Array.ext_getElem?
  intro i
  rw [Array.getElem?_modify, Array.getElem?_setIfInBounds]
  by_cases e : r = i
  · subst e
    simp [hlt, hval]
  · simp [e]
theorem setBlk_setBlk (w : World) (r : Nat) (o o' : Obj) : World.setBlk (World.setBlk w r o) r o' = World.setBlk w r o' := by
  simp [World.setBlk]
theorem setBlk_self {w : World} {r : Nat} {o : Obj} (hh : w.heap[r]? = some o) : World.setBlk w r o = w := by
  obtain ⟨hlt, hval⟩ := Array.getElem?_eq_some_iff.1 hh
  unfold World.setBlk
  have : w.heap.setIfInBounds r o = w.heap := by
    apply Array.ext_getElem?
    intro i
    rw [Array.getElem?_setIfInBounds]
    by_cases e : r = i
    · subst e; simp [hlt, hval]
    · simp [e]
  rw [this]
theorem run_storeCells_over {P : Program} {r : Nat} {el : TypeId} {fr : Nat × Nat} : ∀ (vs : List Value) (i o : Nat) (c : Array Value) (w : World), w.heap[r]? = some (.cells c el fr) -> nf c fr -> 
    o + i + vs.length <= c.size -> (∀ v ∈ vs, v.oneCell' = true) -> 
    (storeCells ⟨r, o, none⟩ vs i).run P w = .ok () (World.setBlk w r (.cells (overA c (o + i) vs) el fr))
  | [], i, o, c, w, hh, hf, hs, h1 => by
    simp only [storeCells, overA]
    rw [setBlk_self hh]; rfl
  | v :: vs, i, o, c, w, hh, hf, hs, h1 => by
    simp only [List.length_cons] at hs
    have hlt : o + i < c.size := by omega
    have hadd : (⟨r, o, none⟩ : Addr).add i = ⟨r, o + i, none⟩ := by
      unfold Addr.add; split
      · rename_i e; subst e; rfl
      · rfl
    have hst : (store ((⟨r, o, none⟩ : Addr).add i) v).run P w = .ok () (World.setBlk w r (.cells (c.setIfInBounds (o + i) v) el fr)) := by
      rw [hadd, run_store P w _ v .plain (h1 v (by simp)), cell_at hh, frozen_at hh hf hlt, setCell_cells hh]
      simp [hlt]
    have hlt' := (Array.getElem?_eq_some_iff.1 hh).1
    have ih := run_storeCells_over (P := P) (r := r) (el := el) (fr := fr) vs (i + 1) o (c.setIfInBounds (o + i) v) (World.setBlk w r (.cells (c.setIfInBounds (o + i) v) el fr))
      (by rw [setBlk_get]; simp [hlt']) (by intro o' ho'; exact hf o' (by simpa using ho')) (by simp; omega) (fun u hu => h1 u (by simp [hu]))
    rw [setBlk_setBlk] at ih
    simp only [storeCells, overA]
    show (Sem.bind _ _).run P w = _
    have : (Sem.bind (store ((⟨r, o, none⟩ : Addr).add i) v) (fun _ => storeCells ⟨r, o, none⟩ vs (i + 1))).run P w = (storeCells ⟨r, o, none⟩ vs (i + 1)).run P (World.setBlk w r (.cells (c.setIfInBounds (o + i) v) el fr)) := by
      rw [Sem.run_bind', hst]; rfl
    rw [this, ih, Nat.add_assoc]
end Go.Det
end

section
namespace Go.Det
def TdOK (P : Program) (t : Nat) (d : TypeDesc) : Td -> Prop
  | .bool => d = .bool
  | .int k => d = .int k
  | .str => d = .string
  | .ptr e => d = .pointer e
  | .sl e => d = .slice e
  | .arr n e => d = .array n e
  | .map k e => d = .map k e
  | .st fs => ∃ fields, d = .struct fields /\ fs = fields.toList.map (fun f => (f.offset, f.type)) /\ (∀ f ∈ fields.toList, f.name ≠ "_") /\ P.stoodInHeld t = false /\ P.eqGuardType P.depth t = false /\
      (∀ f ∈ fields.toList, (P.info? f.type).isSome = true)
  | .fn => ∃ a b c, d = .func a b c
  | .ifc => ∃ ms, d = .interface ms
  | .other => (∀ fs, d ≠ .struct fs) /\ (∀ n e, d ≠ .array n e) /\ ∀ ms, d ≠ .interface ms
structure TiOK (P : Program) (t : Nat) (ti : Ti) : Prop where
  info : ∃ i, P.info? t = some i /\ i.size = ti.size /\ i.bytes = ti.bytes /\
    (ti.zero ≠ [] -> ∃ z, i.zero = some z /\ VRL (fun _ => none) Ro.none ti.zero z.cells.toList /\ (∀ u ∈ z.cells.toList, u.oneCell' = true) /\ mentsL ti.zero = [])
  desc : ∃ d, P.underlying t = some d /\ TdOK P t d ti.d
def aggDesc : TypeDesc -> Bool
  | .struct _ => true
  | .array _ _ => true
  | _ => false
theorem agD_of {P : Program} {t : Nat} {d : TypeDesc} {td : Td} (h : TdOK P t d td) : aggDesc d = agD td := by
  cases td <;> simp only [TdOK] at h <;> first
    | (subst h; rfl)
    | (obtain ⟨_, rfl, _⟩ := h; rfl)
    | (obtain ⟨_, _, _, rfl⟩ := h; rfl)
    | (obtain ⟨_, rfl⟩ := h; rfl)
    | (obtain ⟨h1, h2, _⟩ := h
       cases d <;> first | rfl | exact absurd rfl (h1 _) | exact absurd rfl (h2 _ _))
section
variable {P : Program} {t : Nat} {ti : Ti} (hT : TiOK P t ti)
include hT
theorem run_size (w : World) : (sizeOf t).run P w = .ok ti.size w := by
  obtain ⟨i, hi, hs, _⟩ := hT.info
  simp [sizeOf, typeInfo, hi, hs]
theorem run_isAggT (w : World) : (isAgg t).run P w = .ok (agD ti.d) w := by
  obtain ⟨d, hd, h⟩ := hT.desc
  have := agD_of h
  simp only [isAgg, Sem.run_bind, run_underlying hd, Result.andThen_ok]
  rw [← this]
  cases d <;> rfl
theorem run_loadVar {w : World} {r : Nat} {c : Array Value} {el : TypeId} {fr : Nat × Nat} (hh : w.heap[r]? = some (.cells c el fr)) (o : Nat) (ho : o + ti.size <= c.size) :
    (agD ti.d = true -> (loadVar t ⟨r, o, none⟩).run P w = .ok (.agg ((c.toList.drop o).take ti.size).toArray) w) /\
    (agD ti.d = false -> ∀ v, c[o]? = some v -> (loadVar t ⟨r, o, none⟩).run P w = .ok v w) := by
  constructor
  · intro ha
    have hl : ((c.toList.drop o).take ti.size).length = ti.size := by simp; omega
    have hc := run_loadCells_list (P := P) w ⟨r, o, none⟩ ((c.toList.drop o).take ti.size) (by
      intro j v hj
      rw [List.getElem?_take] at hj
      split at hj
      · rw [List.getElem?_drop] at hj
        have hadd : (⟨r, o, none⟩ : Addr).add j = ⟨r, o + j, none⟩ := by
          unfold Addr.add; split
          · rename_i e; subst e; rfl
          · rfl
        rw [hadd, cell_at hh]
        simpa using hj
      · cases hj)
    rw [hl] at hc
    simp only [loadVar, Sem.run_bind, run_isAggT hT, Result.andThen_ok, ha, if_true, run_size hT, hc, Sem.run_pure]
  · intro ha v hv
    simp only [loadVar, Sem.run_bind, run_isAggT hT, Result.andThen_ok, ha]
    simp [cell_at hh, hv]
theorem run_storeVar {w : World} {r : Nat} {c : Array Value} {el : TypeId} {fr : Nat × Nat} (hh : w.heap[r]? = some (.cells c el fr)) (hf : nf c fr) (o : Nat) (v : Value) (hv : v.cells.size = ti.size) (ho : o + ti.size <= c.size)
    (h1 : ∀ u ∈ v.cells.toList, u.oneCell' = true) :
    (storeVar t ⟨r, o, none⟩ v).run P w = .ok () (World.setBlk w r (.cells (overA c o v.cells.toList) el fr)) := by
  have := run_storeCells_over (P := P) (r := r) (el := el) (fr := fr) v.cells.toList 0 o c w hh hf (by simp; omega) h1
  simp only [storeVar, Sem.run_bind, run_size hT, Result.andThen_ok, hv, ne_eq, not_true, if_false]
  simpa using this
theorem run_part {w : World} (cs : Array Value) (off : Nat) :
    (agD ti.d = true -> (part t cs off).run P w = .ok (.agg ((cs.toList.drop off).take ti.size).toArray) w) /\
    (agD ti.d = false -> ∀ v, cs[off]? = some v -> (part t cs off).run P w = .ok v w) := by
  constructor
  · intro ha
    simp only [part, Sem.run_bind, run_isAggT hT, Result.andThen_ok, ha, if_true, run_size hT, Sem.run_pure]
    congr 2
    apply Array.ext'
    simp [Array.toList_extract, List.extract_eq_take_drop]
  · intro ha v hv
    simp only [part, Sem.run_bind, run_isAggT hT, Result.andThen_ok, ha, hv]
    rfl
end
section
variable {ρ : Rho} {m : Ro}
theorem VRL.aggPart {l : List DV} {vs : List Value} (h : VRL ρ m l vs) (h1 : ∀ u ∈ vs, u.oneCell' = true) (o n : Nat) : VR ρ m (.agg ((l.drop o).take n)) (.agg ((vs.drop o).take n).toArray) := by
  simp only [VR]
  exact ⟨_, rfl, by simpa using (h.drop o).take n, fun u hu => h1 u (by
    simp at hu
    exact List.mem_of_mem_drop (List.mem_of_mem_take hu))⟩
end
end Go.Det
end

section
namespace Go.Det
section
variable {P : Program} {ρ : Rho} {m : Ro}
theorem intOp_ok {op : BinOp} {k : IntKind} {x y : Int} {z : DV} (h : intOp op k x y = some z) (hs : op ≠ .shl) (hr : op ≠ .shr) (t : Nat) (w : World) :
    ∃ v, (Go.binOp op t (.int k x) (.int k y)).run P w = .ok v w /\ VR ρ m z v := by
  cases op <;> simp only [intOp] at h <;> first
    | (exact absurd rfl hs)
    | (exact absurd rfl hr)
    | skip
  all_goals first
    | (split at h
       · simp at h
       · rename_i hy
         simp only [Option.some.injEq] at h; subst h
         refine ⟨_, ?_, rfl⟩
         simp [Go.binOp, Op.intDiv, hy])
    | (simp only [Option.some.injEq] at h; subst h
       refine ⟨_, ?_, rfl⟩
       simp [Go.binOp, Op.intArith, Op.intBits, Op.intCmp])
theorem shiftOp_ok {op : BinOp} {k k' : IntKind} {x y : Int} {z : DV} (h : shiftOp op k x y = some z) (t : Nat) (w : World) :
    ∃ v, (Go.binOp op t (.int k x) (.int k' y)).run P w = .ok v w /\ VR ρ m z v := by
  unfold shiftOp at h
  split at h
  · simp at h
  · rename_i hy
    cases op <;> simp only [Option.some.injEq] at h <;> first
      | (simp at h; done)
      | (subst h
         refine ⟨_, ?_, rfl⟩
         simp [Go.binOp, Op.shift, hy])
theorem toArr (s : List UInt8) : (⟨s.toArray⟩ : ByteArray).toList = s := by
  rw [ByteArray.toList_eq]
theorem baSize (s : List UInt8) : (⟨s.toArray⟩ : ByteArray).size = s.length := rfl
theorem baAppend (s t : List UInt8) : (⟨s.toArray⟩ : ByteArray) ++ ⟨t.toArray⟩ = ⟨(s ++ t).toArray⟩ := by
  apply ByteArray.ext
  simp
theorem strOp_ok {op : BinOp} {x y : List UInt8} {z : DV} (h : strOp op x y = some z) (t : Nat) (w : World) :
    ∃ v, (Go.binOp op t (.string ⟨x.toArray⟩) (.string ⟨y.toArray⟩)).run P w = .ok v w /\ VR ρ m z v := by
  cases op <;> simp only [strOp] at h <;> first
    | (simp at h; done)
    | skip
  · split at h
    · rename_i hl
      simp only [Option.some.injEq] at h; subst h
      refine ⟨.string ⟨(x ++ y).toArray⟩, ?_, rfl⟩
      have : ¬ ((((⟨x.toArray⟩ : ByteArray).size + (⟨y.toArray⟩ : ByteArray).size : Nat) : Int) > IntKind.i64.max) := by
        rw [baSize, baSize]
        have : IntKind.i64.max = 9223372036854775807 := rfl
        omega
      simp only [Go.binOp, Op.stringOp, this, if_false, baAppend]
      rfl
    · simp at h
  all_goals
    simp only [Option.some.injEq] at h; subst h
    refine ⟨_, ?_, rfl⟩
    simp [Go.binOp, Op.stringOp, toArr, bytesLess]
variable {T : Nat -> Option Ti} (hT : ∀ t ti, T t = some ti -> TiOK P t ti)
include hT
theorem partT_ok {t : Nat} {cs : List DV} {off : Nat} {x : DV} (h : partT T t cs off = some x) {vs : Array Value} (hv : VRL ρ m cs vs.toList) (h1 : ∀ u ∈ vs.toList, u.oneCell' = true) (w : World) :
    ∃ v, (part t vs off).run P w = .ok v w /\ VR ρ m x v := by
  unfold partT at h
  split at h
  · rename_i ti ht
    have hk := hT t ti ht
    obtain ⟨ha, hb⟩ := run_part hk (w := w) vs off
    split at h
    · rename_i fs hd
      simp only [Option.some.injEq] at h; subst h
      exact ⟨_, ha (by rw [hd]; rfl), hv.aggPart h1 off ti.size⟩
    · rename_i n e hd
      simp only [Option.some.injEq] at h; subst h
      exact ⟨_, ha (by rw [hd]; rfl), hv.aggPart h1 off ti.size⟩
    · rename_i hn1 hn2
      obtain ⟨v, h2, h3⟩ := hv.get off x h
      refine ⟨v, hb ?_ v (by simpa using h2), h3⟩
      cases hd : ti.d <;> first | rfl | exact absurd hd (hn1 _) | exact absurd hd (hn2 _ _)
  · simp at h
theorem eqF_ok {d : Nat} {f : Nat -> DV -> DV -> Option Bool}
    (hf : ∀ t x y b a c (w : World), f t x y = some b -> VR ρ m x a -> VR ρ m y c -> (Op.equalIn d t a c).run P w = .ok b w) : ∀ (fs : List Field) (xs ys : List DV) (b : Bool) (as' bs : Array Value) (w : World),
    eqF T f (fs.map fun f => (f.offset, f.type)) xs ys = some b -> (∀ f ∈ fs, f.name ≠ "_") -> VRL ρ m xs as'.toList -> VRL ρ m ys bs.toList -> (∀ u ∈ as'.toList, u.oneCell' = true) -> (∀ u ∈ bs.toList, u.oneCell' = true) -> 
    (Op.eqFields d as' bs fs).run P w = .ok b w
  | [], xs, ys, b, as', bs, w, h, hn, hx, hy, h1, h2 => by
    simp [eqF] at h; subst h; simp [Op.eqFields]
  | g :: fs, xs, ys, b, as', bs, w, h, hn, hx, hy, h1, h2 => by
    simp only [List.map_cons, eqF] at h
    split at h
    · rename_i a c ha hc
      obtain ⟨va, ka, ra⟩ := partT_ok hT ha hx h1 w
      obtain ⟨vc, kc, rc⟩ := partT_ok hT hc hy h2 w
      have hg : g.name ≠ "_" := hn g (by simp)
      simp only [Op.eqFields, if_pos hg, Sem.run_bind, ka, kc, Result.andThen_ok]
      split at h
      · rename_i he
        rw [hf _ _ _ _ _ _ w he ra rc]
        simp only [Result.andThen_ok, Bool.not_true, Bool.false_eq_true, if_false]
        exact eqF_ok hf fs xs ys b as' bs w h (fun f hf => hn f (by simp [hf])) hx hy h1 h2
      · rename_i he
        rw [hf _ _ _ _ _ _ w he ra rc]
        simp only [Option.some.injEq] at h; subst h
        simp
      · simp at h
    · simp at h
theorem eqT_ok : ∀ (d D : Nat) (t : Nat) (x y : DV) (b : Bool) (a c : Value) (w : World), d <= D -> eqT T d t x y = some b -> VR ρ m x a -> VR ρ m y c -> (Op.equalIn D t a c).run P w = .ok b w
  | 0, _, _, _, _, _, _, _, _, _, h, _, _ => by simp [eqT] at h
  | d + 1, 0, _, _, _, _, _, _, _, hle, _, _, _ => by omega
  | d + 1, D + 1, t, x, y, b, a, c, w, hle, h, hx, hy => by
    unfold eqT at h
    split at h
    · simp at h
    · rename_i ti ht
      have hk := hT t ti ht
      obtain ⟨dd, hu, hd⟩ := hk.desc
      split at h <;> (try (simp at h; done)) <;> (rename_i he; rw [he] at hd; simp only [TdOK] at hd)
      · subst hd; simp only [VR] at hx hy; subst hx hy
        simp only [Option.some.injEq] at h; subst h
        simp [Op.equalIn, run_underlying hu]
      · subst hd; simp only [VR] at hx hy; subst hx hy
        split at h
        · rename_i hkk; subst hkk
          simp only [Option.some.injEq] at h; subst h
          simp [Op.equalIn, run_underlying hu]
        · simp at h
      · subst hd; simp only [VR] at hx hy; subst hx hy
        simp only [Option.some.injEq] at h; subst h
        rw [run_equalIn_string w D t _ _ hu, toArr, toArr]
      · subst hd; simp only [VR] at hx hy; subst hx hy
        simp only [Option.some.injEq] at h; subst h
        simp [Op.equalIn, run_underlying hu]
      · subst hd; simp only [VR] at hx hy; subst hx
        obtain ⟨p, cap, _, _, _, rfl⟩ := hy
        simp only [Option.some.injEq] at h; subst h
        simp [Op.equalIn, run_underlying hu]
      · subst hd; simp only [VR] at hx hy; subst hy
        obtain ⟨p, cap, _, _, _, rfl⟩ := hx
        simp only [Option.some.injEq] at h; subst h
        simp [Op.equalIn, run_underlying hu]
      · subst hd; simp only [VR] at hx hy; subst hx
        obtain ⟨aa, cap, _, rfl, _, hh⟩ := hy
        simp only [Option.some.injEq] at h; subst h
        rcases hh with hh | ⟨_, _, _, _, rfl, _⟩
        · simp at hh
        · simp [Op.equalIn, run_underlying hu]
      · subst hd; simp only [VR] at hx hy; subst hy
        obtain ⟨aa, cap, _, rfl, _, hh⟩ := hx
        simp only [Option.some.injEq] at h; subst h
        rcases hh with hh | ⟨_, _, _, _, rfl, _⟩
        · simp at hh
        · simp [Op.equalIn, run_underlying hu]
      · obtain ⟨ms, rfl⟩ := hd; simp only [VR] at hx hy; subst hx hy
        simp only [Option.some.injEq] at h; subst h
        simp [Op.equalIn, run_underlying hu]
      · obtain ⟨ms, rfl⟩ := hd; simp only [VR] at hx hy; subst hx
        obtain ⟨x', rfl, _⟩ := hy
        simp only [Option.some.injEq] at h; subst h
        simp [Op.equalIn, run_underlying hu]
      · obtain ⟨ms, rfl⟩ := hd; simp only [VR] at hx hy; subst hy
        obtain ⟨x', rfl, _⟩ := hx
        simp only [Option.some.injEq] at h; subst h
        simp [Op.equalIn, run_underlying hu]
      · obtain ⟨fields, rfl, rfl, hn, hs, hg⟩ := hd
        simp only [VR] at hx hy
        obtain ⟨va, rfl, ka, oa⟩ := hx
        obtain ⟨vb, rfl, kb, ob⟩ := hy
        have hf : P.fieldsOf t = fields := by simp [Program.fieldsOf, hu]
        rw [run_equalIn_struct (P := P) w D t va vb (by rw [hf]; exact hu) hs, hf]
        exact eqF_ok hT (fun t x y b a c w h hx hy => eqT_ok d D t x y b a c w (by omega) h hx hy) fields.toList _ _ b va vb w h hn ka kb oa ob
end
end Go.Det
end
