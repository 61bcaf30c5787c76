/- TextMovesCardSaid: part 14 of the texts behind it: Lf1, Lf2, Lf3, Lf4, Lg1, Pl4, Tre3, Fn11, Sg1, Sg2, Sg4, Lg2. No premise of its own. -/
import Derived.Test.YtpfjeinhmmmhkaaGreatDoorD13
import Derived.Lib.ItoaNum
set_option linter.all false
section
namespace Go.Det.Sea
open Go Go.Det
def letP : List UInt8 := [65, 66, 67, 68, 69, 70, 71, 72, 73, 74, 75, 76, 77, 78, 79, 80, 81, 82, 83, 84, 85, 86, 87, 88, 89, 90]
def wrdP : List UInt8 := [65, 66, 67, 68, 69, 70, 71, 72, 73, 74, 75, 76, 77, 78, 79, 80, 81, 82, 83, 84, 85, 86, 87, 88, 89, 90, 48, 49, 50, 51, 52, 53, 54, 55, 56, 57, 36, 39]
def E181 : Env := { cs := [(109, hpS)] }
theorem vc181 (s g : List UInt8) (row col e no : Int) (p : Nat) (Φ : DV -> List Blk -> Prop) : (vcF cfg E181 181 [.ptr 16 6 0 0, .str g] [rdr s row col p e no] Φ) =
    (obB (decide (p <= List.length s)) (Φ (DV.bool (hp (List.drop p (List.take (List.length s) s)) g)) [rdr s row col p e no])) := by kernel_rfl
def E180 (s : List UInt8) (row col : Int) (p p2 : Nat) (w : List UInt8) : Env := { cs := [(111, callE True [.ptr 41 6 0 0, .str wrdP] [rdr s row col p 0 0] (.str w) [rdr s row col p2 0 0])] }
theorem vc180 (s : List UInt8) (row col : Int) (p p2 : Nat) (w : List UInt8) (Φ : DV -> List Blk -> Prop) : (vcF cfg (E180 s row col p p2 w) 180 [.ptr 39 6 0 0] [rdr s row col p 0 0] Φ) =
    (brB (decide ((↑p : Int) < (↑(List.length s) : Int))) (obB (decide (p < List.length s)) (brB (decide ((↑(UInt8.toNat (List.getD s p (0 : UInt8))) : Int) ≥ 48)) (obB (decide (p < List.length s)) (brB (decide ((↑(UInt8.toNat (List.getD s p (0 : UInt8))) : Int) <= 57)) (Φ (DV.str []) [rdr s row col p 0 0]) ((True /\ [DV.ptr 41 6 0 0, DV.str [65, 66, 67, 68, 69, 70, 71, 72, 73, 74, 75, 76, 77, 78, 79, 80, 81, 82, 83, 84, 85, 86, 87, 88, 89, 90, 48, 49, 50, 51, 52, 53, 54, 55, 56, 57, 36, 39]] = [DV.ptr 41 6 0 0, DV.str [65, 66, 67, 68, 69, 70, 71, 72, 73, 74, 75, 76, 77, 78, 79, 80, 81, 82, 83, 84, 85, 86, 87, 88, 89, 90, 48, 49, 50, 51, 52, 53, 54, 55, 56, 57, 36, 39]] /\ [rdr s row col p 0 0] = [rdr s row col p 0 0]) /\ Φ (DV.str w) [rdr s row col p2 0 0]))) ((True /\ [DV.ptr 41 6 0 0, DV.str [65, 66, 67, 68, 69, 70, 71, 72, 73, 74, 75, 76, 77, 78, 79, 80, 81, 82, 83, 84, 85, 86, 87, 88, 89, 90, 48, 49, 50, 51, 52, 53, 54, 55, 56, 57, 36, 39]] = [DV.ptr 41 6 0 0, DV.str [65, 66, 67, 68, 69, 70, 71, 72, 73, 74, 75, 76, 77, 78, 79, 80, 81, 82, 83, 84, 85, 86, 87, 88, 89, 90, 48, 49, 50, 51, 52, 53, 54, 55, 56, 57, 36, 39]] /\ [rdr s row col p 0 0] = [rdr s row col p 0 0]) /\ Φ (DV.str w) [rdr s row col p2 0 0]))) ((True /\ [DV.ptr 41 6 0 0, DV.str [65, 66, 67, 68, 69, 70, 71, 72, 73, 74, 75, 76, 77, 78, 79, 80, 81, 82, 83, 84, 85, 86, 87, 88, 89, 90, 48, 49, 50, 51, 52, 53, 54, 55, 56, 57, 36, 39]] = [DV.ptr 41 6 0 0, DV.str [65, 66, 67, 68, 69, 70, 71, 72, 73, 74, 75, 76, 77, 78, 79, 80, 81, 82, 83, 84, 85, 86, 87, 88, 89, 90, 48, 49, 50, 51, 52, 53, 54, 55, 56, 57, 36, 39]] /\ [rdr s row col p 0 0] = [rdr s row col p 0 0]) /\ Φ (DV.str w) [rdr s row col p2 0 0])) := by kernel_rfl
def cpF (a b : List UInt8) : List UInt8 × Bool := bif hp a b then (a.drop b.length, true) else (a, false)
def hsF (a b : List UInt8) : Bool := decide (b.length <= a.length) && (a.drop (a.length - b.length) == b)
def csF (a b : List UInt8) : List UInt8 × Bool := bif hsF a b then (a.take (a.length - b.length), true) else (a, false)
def E188 : Env := { cs := [(149, hpS)] }
theorem vc188 (a : List UInt8) (y : UInt8) (Φ : DV -> List Blk -> Prop) : (vcF cfg E188 188 [.str a, .str [y]] [] Φ) =
    (brB (!hp a [y]) (Φ (DV.tup [DV.str a, DV.bool false]) []) (obB (decide (Int.toNat (↑1 : Int) <= List.length a)) (Φ (DV.tup [DV.str (List.drop (Int.toNat (↑1 : Int)) (List.take (List.length a) a)), DV.bool true]) []))) := by kernel_rfl
def E150 (a b : List UInt8) (r : List UInt8 × Bool) : Env := { cs := [(188, callG True [.str a, .str b] (.tup [.str r.1, .bool r.2]))] }
theorem vc150 (a b : List UInt8) (r : List UInt8 × Bool) (Φ : DV -> List Blk -> Prop) : (vcF cfg (E150 a b r) 150 [.str a, .str b] [] Φ) =
    (True /\ [DV.str a, DV.str b] = [DV.str a, DV.str b] /\ Φ (DV.tup [DV.str r.fst, DV.bool r.snd]) []) := by kernel_rfl
theorem vc213 (a : List UInt8) (y : UInt8) (Φ : DV -> List Blk -> Prop) : (vcF cfg E188 213 [.str a, .str [y]] [] Φ) =
    (brB (hp a [y]) (obB (decide (Int.toNat (↑1 : Int) <= List.length a)) (Φ (DV.str (List.drop (Int.toNat (↑1 : Int)) (List.take (List.length a) a))) [])) (Φ (DV.str a) [])) := by kernel_rfl
def E185 (a b r : List UInt8) : Env := { cs := [(213, callG True [.str a, .str b] (.str r))] }
theorem vc185 (a b r : List UInt8) (Φ : DV -> List Blk -> Prop) : (vcF cfg (E185 a b r) 185 [.str a, .str b] [] Φ) =
    (True /\ [DV.str a, DV.str b] = [DV.str a, DV.str b] /\ Φ (DV.str r) []) := by kernel_rfl
theorem vc190 (a : List UInt8) (y : UInt8) (Φ : DV -> List Blk -> Prop) : (vcF cfg E0 190 [.str a, .str [y]] [] Φ) =
    (obB (inR .i64 ((↑(List.length a) : Int) - (↑1 : Int)) || !decide ((↑(List.length a) : Int) ≥ (↑1 : Int))) (obB (decide ((0 : Int) <= (↑(List.length a) : Int) - (↑1 : Int)) || !decide ((↑(List.length a) : Int) ≥ (↑1 : Int))) (obB (decide (Int.toNat ((↑(List.length a) : Int) - (↑1 : Int)) <= List.length a) || !decide ((↑(List.length a) : Int) ≥ (↑1 : Int))) (Φ (DV.bool (decide ((↑(List.length a) : Int) ≥ (↑1 : Int)) && List.drop (Int.toNat ((↑(List.length a) : Int) - (↑1 : Int))) (List.take (List.length a) a) == [y])) [])))) := by kernel_rfl
def E152 (a b : List UInt8) (r : Bool) : Env := { cs := [(190, callG True [.str a, .str b] (.bool r))] }
theorem vc152 (a b : List UInt8) (r : Bool) (Φ : DV -> List Blk -> Prop) : (vcF cfg (E152 a b r) 152 [.str a, .str b] [] Φ) =
    (True /\ [DV.str a, DV.str b] = [DV.str a, DV.str b] /\ Φ (DV.bool r) []) := by kernel_rfl
theorem vc215 (a : List UInt8) (y : UInt8) (r : Bool) (Φ : DV -> List Blk -> Prop) : (vcF cfg (E152 a [y] r) 215 [.str a, .str [y]] [] Φ) =
    (True /\ [DV.str a, DV.str [y]] = [DV.str a, DV.str [y]] /\ brB (!r) (Φ (DV.tup [DV.str a, DV.bool false]) []) (obB (inR .i64 ((↑(List.length a) : Int) - (↑1 : Int))) (obB (decide ((0 : Int) <= (↑(List.length a) : Int) - (↑1 : Int))) (obB (decide (Int.toNat ((↑(List.length a) : Int) - (↑1 : Int)) <= List.length a)) (Φ (DV.tup [DV.str (List.drop 0 (List.take (Int.toNat ((↑(List.length a) : Int) - (↑1 : Int))) a)), DV.bool true]) []))))) := by kernel_rfl
def E187 (a b : List UInt8) (r : List UInt8 × Bool) : Env := { cs := [(215, callG True [.str a, .str b] (.tup [.str r.1, .bool r.2]))] }
theorem vc187 (a b : List UInt8) (r : List UInt8 × Bool) (Φ : DV -> List Blk -> Prop) : (vcF cfg (E187 a b r) 187 [.str a, .str b] [] Φ) =
    (True /\ [DV.str a, DV.str b] = [DV.str a, DV.str b] /\ Φ (DV.tup [DV.str r.fst, DV.bool r.snd]) []) := by kernel_rfl
def idxS : Spec := fun xs ex k => match xs, ex with
  | [.str s, .int .u8 c], [] => k (.int .i64 (Lib.indexByte s c.toNat.toUInt8)) []
  | _, _ => False
def E112 : Env := { cs := [(154, idxS)] }
theorem vc112 (s : List UInt8) (c : Int) (Φ : DV -> List Blk -> Prop) : (vcF cfg E112 112 [.str s, .int .u8 c] [] Φ) =
    (Φ (DV.int .i64 (Lib.indexByte s (Nat.toUInt8 (Int.toNat c)))) []) := by kernel_rfl
def E138 : Env := { cs := [(112, idxS)] }
theorem vc138 (s : List UInt8) (c : Int) (Φ : DV -> List Blk -> Prop) : (vcF cfg E138 138 [.str s, .int .i32 c] [] Φ) =
    (brB (decide ((0 : Int) <= c) && decide (c < (128 : Int))) (Φ (DV.int .i64 (Lib.indexByte s (Nat.toUInt8 (Int.toNat (IntKind.wrap .u8 c))))) []) (obB (c == (65533 : Int)) False)) := by kernel_rfl
theorem vc139 (n : Int) (Φ : DV -> List Blk -> Prop) : (vcF cfg E0 139 [.int .i64 n] [] Φ) =
    (Φ (DV.bool (decide (n > (8 : Int)))) []) := by kernel_rfl
def E204 : Env := { cs := [(154, idxS)] }
def E189 (s g : List UInt8) (i : Int) : Env := { cs := [(204, callG True [.str s, .str g] (.int .i64 i))] }
theorem vc189 (s : List UInt8) (y : UInt8) (i : Int) (Φ : DV -> List Blk -> Prop) : (vcF cfg (E189 s [y] i) 189 [.str s, .str [y]] [] Φ) =
    (True /\ [DV.str s, DV.str [y]] = [DV.str s, DV.str [y]] /\ brB (decide (i ≥ (0 : Int))) (obB (decide ((0 : Int) <= i)) (obB (decide (Int.toNat i <= List.length s)) (obB (inR .i64 (i + (↑1 : Int))) (obB (decide ((0 : Int) <= i + (↑1 : Int))) (obB (decide (Int.toNat (i + (↑1 : Int)) <= List.length s)) (Φ (DV.tup [DV.str (List.drop 0 (List.take (Int.toNat i) s)), DV.str (List.drop (Int.toNat (i + (↑1 : Int))) (List.take (List.length s) s)), DV.bool true]) [])))))) (Φ (DV.tup [DV.str s, DV.str [], DV.bool false]) [])) := by kernel_rfl
def E151 (s g : List UInt8) (a b : List UInt8) (f : Bool) : Env := { cs := [(189, callG True [.str s, .str g] (.tup [.str a, .str b, .bool f]))] }
theorem vc151 (s g a b : List UInt8) (f : Bool) (Φ : DV -> List Blk -> Prop) : (vcF cfg (E151 s g a b f) 151 [.str s, .str g] [] Φ) =
    (True /\ [DV.str s, DV.str g] = [DV.str s, DV.str g] /\ Φ (DV.tup [DV.str a, DV.str b, DV.bool f]) []) := by kernel_rfl
theorem vc204 (s : List UInt8) (c : UInt8) (Φ : DV -> List Blk -> Prop) : (vcF cfg E204 204 [.str s, .str [c]] [] Φ) =
    (brB ([c] == s) (Φ (DV.int .i64 0) []) (Φ (DV.int .i64 (Lib.indexByte s (Nat.toUInt8 (List.getD [c] 0 (0 : UInt8)).toBitVec.toFin.1))) [])) := by kernel_rfl
end Go.Det.Sea
end

section
namespace Go.Det.Sea
open Go Go.Det
def digL : List UInt8 := [48, 49, 50, 51, 52, 53, 54, 55, 56, 57]
def qutL : List UInt8 := [36, 39]
def hd97 (s set : List UInt8) (j : Nat) : St := mkS 55 [(1, .str set), (45, .ptr 45 0 0 0)] [(45, .iter s j)] []
def F97 (r : Int) (k : Ex -> St -> Prop) : Prop := brB (decide (r ≥ 0)) (k .ret (mkS 55 [(4, .int .i64 r)] [] [])) (k (.exit 2) (mkS 55 [] [] []))
def E97 (L : St -> Prop) (n : Int) (r : Int) : Env := { cs := [(139, callG True [.int .i64 n] (.bool false))], ls := [(2, loopS [1, 45] [45] 55 L (F97 r))] }
def E97b (g : Prop) (c : Nat) (set : List UInt8) (i : Int) : Env := { an := [(46, .ptr c 1 0 0)], cs := [(138, callG g [.str set, .int .i32 c] (.int .i64 i))] }
theorem vc97d (s : List UInt8) (r : Int) (L : St -> Prop) (Φ : DV -> List Blk -> Prop) : (vcF cfg (E97 L (s.length : Int) r) 97 [.str s, .str digL] [] Φ) =
    (True /\ [DV.int .i64 (↑(List.length s) : Int)] = [DV.int .i64 (↑(List.length s) : Int)] /\ L (mkS 55 [(1, DV.str [48, 49, 50, 51, 52, 53, 54, 55, 56, 57]), (45, DV.ptr 45 0 0 0)] [(45, Blk.iter s 0)] []) /\ brB (decide (r ≥ (0 : Int))) (Φ (DV.int .i64 r) []) (Φ (DV.int .i64 (-1)) [])) := by kernel_rfl
theorem vc97q (s : List UInt8) (r : Int) (L : St -> Prop) (Φ : DV -> List Blk -> Prop) : (vcF cfg (E97 L (s.length : Int) r) 97 [.str s, .str qutL] [] Φ) =
    (True /\ [DV.int .i64 (↑(List.length s) : Int)] = [DV.int .i64 (↑(List.length s) : Int)] /\ L (mkS 55 [(1, DV.str [36, 39]), (45, DV.ptr 45 0 0 0)] [(45, Blk.iter s 0)] []) /\ brB (decide (r ≥ (0 : Int))) (Φ (DV.int .i64 r) []) (Φ (DV.int .i64 (-1)) [])) := by kernel_rfl
theorem vc97b (g : Prop) (s set : List UInt8) (j c : Nat) (i : Int) (L : St -> Prop) (K : Ex -> St -> Prop) : (vcB cfg (E97b g c set i) 97 2 (hd97 s set j) (bodyK L [1, 45] [45] [4] [] 55 K)) =
    (brB (decide (j < List.length s)) (Utf8.decode (ByteArray.mk (List.toArray s)) j = (c, 1) /\ g /\ [DV.str set, DV.int .i32 (↑c : Int)] = [DV.str set, DV.int .i32 (↑c : Int)] /\ brB (decide (i ≥ (0 : Int))) (K Ex.ret (mkS 55 [(4, DV.int .i64 j)] [] [])) (L (mkS 55 [(1, DV.str set), (45, DV.ptr 45 0 0 0)] [(45, Blk.iter s (j + 1))] []))) (K (Ex.exit 2) (mkS 55 [] [] []))) := by kernel_rfl
def E225 (s set : List UInt8) (i : Int) : Env := { cs := [(97, callG True [.str s, .str set] (.int .i64 i))] }
theorem vc225 (s set : List UInt8) (i : Int) (Φ : DV -> List Blk -> Prop) : (vcF cfg (E225 s set i) 225 [.str s, .str set] [] Φ) =
    (True /\ [DV.str s, DV.str set] = [DV.str s, DV.str set] /\ Φ (DV.bool (decide (i ≥ (0 : Int)))) []) := by kernel_rfl
def asD : List DV := (List.range 256).map fun n => DV.bool (Nat.ble 65 n && Nat.ble n 90)
def E141 (b : Bool) : Env := { an := [(9, .bool b)] }
theorem vc141 (c : Nat) (b : Bool) (Φ : DV -> List Blk -> Prop) : (vcF cfg (E141 b) 141 [.ptr 10 256 0 0, .int .u8 c] [.box asD] Φ) =
    (obB (decide (c < 256)) (obB (decide (0 + c * 1 < 256)) (((0 = 0 /\ 256 = 256) /\ asD[0 + Int.toNat (↑c : Int) * (256, (Ti.mk Td.bool 1 1 [DV.bool false]).size).snd]? = some (DV.bool b)) /\ Φ (DV.bool b) [Blk.box asD]))) := by kernel_rfl
def hd236 (s : List UInt8) : St := mkS 16 [(0, .str s), (1, .ptr 16 256 0 0)] [] [.box asD]
def F236 (t : List UInt8) (k : Ex -> St -> Prop) : Prop := k (.exit 0) (mkS 16 [(0, .str t)] [] [.box asD])
def E236 (L : St -> Prop) (t : List UInt8) : Env := { ls := [(0, loopS [0, 1] [] 16 L (F236 t))] }
def E236b (g : Prop) (c : Nat) (b : Bool) : Env := { cs := [(141, callE g [.ptr 10 256 0 0, .int .u8 c] [.box asD] (.bool b) [.box asD])] }
theorem vc236 (s t : List UInt8) (L : St -> Prop) (Φ : DV -> List Blk -> Prop) : (vcF cfg (E236 L t) 236 [.str s, .ptr 16 256 0 0] [.box asD] Φ) =
    (L (mkS 16 [(0, DV.str s), (1, DV.ptr 16 256 0 0)] [] [Blk.box asD]) /\ Φ (DV.str t) [Blk.box asD]) := by kernel_rfl
theorem vc236b (g : Prop) (s : List UInt8) (c : Nat) (b : Bool) (L : St -> Prop) (K : Ex -> St -> Prop) : (vcB cfg (E236b g c b) 236 0 (hd236 s) (bodyK L [0, 1] [] [0] [] 16 K)) =
    (brB (decide ((↑(List.length s) : Int) > 0)) (obB (decide (0 < List.length s)) ((g /\ [DV.ptr 10 256 0 0, DV.int .u8 (↑(UInt8.toNat (List.getD s 0 (0 : UInt8))) : Int)] = [DV.ptr 10 256 0 0, DV.int .u8 (↑c : Int)] /\ [Blk.box asD] = [Blk.box asD]) /\ brB (!b) (K (Ex.exit 0) (mkS 16 [(0, DV.str s)] [] [Blk.box asD])) (obB (decide (1 <= List.length s)) (L (mkS 16 [(0, DV.str (List.drop 1 (List.take (List.length s) s))), (1, DV.ptr 16 256 0 0)] [] [Blk.box asD]))))) (K (Ex.exit 0) (mkS 16 [(0, DV.str s)] [] [Blk.box asD]))) := by kernel_rfl
def E224 (s t : List UInt8) : Env := { cs := [(140, callG True [.str letP] (.tup [.agg asD, .bool true])), (236, callE True [.str s, .ptr 16 256 0 0] [.box asD] (.str t) [.box asD])] }
theorem vc224 (s t : List UInt8) (Φ : DV -> List Blk -> Prop) : (vcF cfg (E224 s t) 224 [.str s, .str letP] [] Φ) =
    (brB (s == #[].toList || false) (Φ (DV.str s) []) (True /\ [DV.str [65, 66, 67, 68, 69, 70, 71, 72, 73, 74, 75, 76, 77, 78, 79, 80, 81, 82, 83, 84, 85, 86, 87, 88, 89, 90]] = [DV.str [65, 66, 67, 68, 69, 70, 71, 72, 73, 74, 75, 76, 77, 78, 79, 80, 81, 82, 83, 84, 85, 86, 87, 88, 89, 90]] /\ (True /\ [DV.str s, DV.ptr 16 256 0 0] = [DV.str s, DV.ptr 16 256 0 0] /\ [Blk.box asD] = [Blk.box asD]) /\ Φ (DV.str t) [])) := by kernel_rfl
end Go.Det.Sea
end

section
namespace Go.Det.Sea
open Go Go.Det
theorem vc136 (n b : Int) (Φ : DV -> List Blk -> Prop) : (vcF cfg E0 136 [.int .i64 n, .int .i64 b] [] Φ) =
    (obB (decide (b ≠ (0 : Int))) (obB (inR .i64 (Int.tmod n b + b)) (obB (decide (b ≠ (0 : Int))) (Φ (DV.int .i64 (Int.tmod (Int.tmod n b + b) b)) [])))) := by kernel_rfl
def modS : Spec := fun xs ex k => match xs, ex with
  | [.int .i64 n, .int .i64 b], [] => (0 < b /\ b <= 65536 /\ -1000000000000 <= n /\ n <= 1000000000000) /\ k (.int .i64 (n % b)) []
  | _, _ => False
def sumS : Spec := fun xs ex k => match xs, ex with
  | [.int .i64 n, .int .i64 m, .int .i64 b], [] => (0 < b /\ b <= 65536 /\ -1000000000000 <= n /\ n <= 1000000000000 /\ -1000000000000 <= m /\ m <= 1000000000000) /\ k (.int .i64 ((n % b + m % b) % b)) []
  | _, _ => False
def E137 : Env := { cs := [(136, modS)] }
theorem vc137 (n m b : Int) (Φ : DV -> List Blk -> Prop) : (vcF cfg E137 137 [.int .i64 n, .int .i64 m, .int .i64 b] [] Φ) =
    (((0 : Int) < b /\ b <= (65536 : Int) /\ (-1000000000000 : Int) <= n /\ n <= (1000000000000 : Int)) /\ ((0 : Int) < b /\ b <= (65536 : Int) /\ (-1000000000000 : Int) <= m /\ m <= (1000000000000 : Int)) /\ obB (inR .i64 (n % b + m % b)) (((0 : Int) < b /\ b <= (65536 : Int) /\ (-1000000000000 : Int) <= n % b + m % b /\ n % b + m % b <= (1000000000000 : Int)) /\ Φ (DV.int .i64 ((n % b + m % b) % b)) [])) := by kernel_rfl
def E96 : Env := { cs := [(136, modS), (137, sumS)] }
theorem vc96 (r : Rf) (row col : Int) (Φ : DV -> List Blk -> Prop) : (vcF cfg E96 96 [r.dv, .agg [.int .i64 row, .int .i64 col]] [] Φ) =
    (((0 : Int) < 65536 /\ (65536 : Int) <= 65536 /\ (-1000000000000 : Int) <= r.row /\ r.row <= (1000000000000 : Int)) /\ ((0 : Int) < 256 /\ (256 : Int) <= 65536 /\ (-1000000000000 : Int) <= r.col /\ r.col <= (1000000000000 : Int)) /\ brB r.rr (((0 : Int) < 65536 /\ (65536 : Int) <= 65536 /\ (-1000000000000 : Int) <= r.row /\ r.row <= (1000000000000 : Int) /\ (-1000000000000 : Int) <= row /\ row <= (1000000000000 : Int)) /\ brB r.rc (((0 : Int) < 256 /\ (256 : Int) <= 65536 /\ (-1000000000000 : Int) <= r.col /\ r.col <= (1000000000000 : Int) /\ (-1000000000000 : Int) <= col /\ col <= (1000000000000 : Int)) /\ Φ (DV.agg [DV.int .i64 ((r.row % (65536 : Int) + row % (65536 : Int)) % (65536 : Int)), DV.int .i64 ((r.col % (256 : Int) + col % (256 : Int)) % (256 : Int))]) []) (Φ (DV.agg [DV.int .i64 ((r.row % (65536 : Int) + row % (65536 : Int)) % (65536 : Int)), DV.int .i64 (r.col % (256 : Int))]) [])) (brB r.rc (((0 : Int) < 256 /\ (256 : Int) <= 65536 /\ (-1000000000000 : Int) <= r.col /\ r.col <= (1000000000000 : Int) /\ (-1000000000000 : Int) <= col /\ col <= (1000000000000 : Int)) /\ Φ (DV.agg [DV.int .i64 (r.row % (65536 : Int)), DV.int .i64 ((r.col % (256 : Int) + col % (256 : Int)) % (256 : Int))]) []) (Φ (DV.agg [DV.int .i64 (r.row % (65536 : Int)), DV.int .i64 (r.col % (256 : Int))]) []))) := by kernel_rfl
theorem vc227 (r c row col : Int) (a b : Bool) (Φ : DV -> List Blk -> Prop) : (vcF cfg E137 227 [.agg [.int .i64 r, .int .i64 c], .agg [.int .i64 row, .int .i64 col], .bool a, .bool b] [] Φ) =
    (((0 : Int) < 65536 /\ (65536 : Int) <= 65536 /\ (-1000000000000 : Int) <= r /\ r <= (1000000000000 : Int)) /\ ((0 : Int) < 256 /\ (256 : Int) <= 65536 /\ (-1000000000000 : Int) <= c /\ c <= (1000000000000 : Int)) /\ brB a (((0 : Int) < 65536 /\ (65536 : Int) <= 65536 /\ (-1000000000000 : Int) <= row /\ row <= (1000000000000 : Int)) /\ obB (inR .i64 (r % (65536 : Int) - row % (65536 : Int))) (((0 : Int) < 65536 /\ (65536 : Int) <= 65536 /\ (-1000000000000 : Int) <= r % (65536 : Int) - row % (65536 : Int) /\ r % (65536 : Int) - row % (65536 : Int) <= 1000000000000) /\ brB b (((0 : Int) < 256 /\ (256 : Int) <= 65536 /\ (-1000000000000 : Int) <= col /\ col <= (1000000000000 : Int)) /\ obB (inR .i64 (c % (256 : Int) - col % (256 : Int))) (((0 : Int) < 256 /\ (256 : Int) <= 65536 /\ (-1000000000000 : Int) <= c % (256 : Int) - col % (256 : Int) /\ c % (256 : Int) - col % (256 : Int) <= 1000000000000) /\ Φ (DV.agg [DV.int .i64 ((r % (65536 : Int) - row % (65536 : Int)) % (65536 : Int)), DV.int .i64 ((c % (256 : Int) - col % (256 : Int)) % (256 : Int)), DV.bool a, DV.bool b]) [])) (Φ (DV.agg [DV.int .i64 ((r % (65536 : Int) - row % (65536 : Int)) % (65536 : Int)), DV.int .i64 (c % (256 : Int)), DV.bool a, DV.bool b]) []))) (brB b (((0 : Int) < 256 /\ (256 : Int) <= 65536 /\ (-1000000000000 : Int) <= col /\ col <= (1000000000000 : Int)) /\ obB (inR .i64 (c % (256 : Int) - col % (256 : Int))) (((0 : Int) < 256 /\ (256 : Int) <= 65536 /\ (-1000000000000 : Int) <= c % (256 : Int) - col % (256 : Int) /\ c % (256 : Int) - col % (256 : Int) <= 1000000000000) /\ Φ (DV.agg [DV.int .i64 (r % (65536 : Int)), DV.int .i64 ((c % (256 : Int) - col % (256 : Int)) % (256 : Int)), DV.bool a, DV.bool b]) [])) (Φ (DV.agg [DV.int .i64 (r % (65536 : Int)), DV.int .i64 (c % (256 : Int)), DV.bool a, DV.bool b]) []))) := by kernel_rfl
def itoaS : Spec := fun xs ex k => match xs, ex with
  | [.int .i64 n], [] => (0 <= n /\ n <= 9223372036854775807) /\ k (.str (Lib.itoa n)) []
  | _, _ => False
def hd95 (s : List UInt8) (n row col : Int) : St := mkS 27 [(1, .ptr 1 2 0 0), (3, .str s), (4, .int .i64 n)] [(1, .box [.int .i64 row, .int .i64 col])] []
def F95 (t : List UInt8) (row col : Int) (k : Ex -> St -> Prop) : Prop := k (.exit 0) (mkS 27 [(1, .ptr 1 2 0 0), (3, .str t)] [(1, .box [.int .i64 row, .int .i64 col])] [])
def E95 (L : St -> Prop) (t : List UInt8) (row col : Int) : Env := { cs := [(54, itoaS)], ls := [(0, loopS [1, 3, 4] [1] 27 L (F95 t row col))] }
theorem vc95 (t : List UInt8) (row col : Int) (L : St -> Prop) (Φ : DV -> List Blk -> Prop) : (vcF cfg (E95 L t row col) 95 [.agg [.int .i64 row, .int .i64 col]] [] Φ) =
    (obB (inR .i64 (col + (1 : Int))) (L (mkS 27 [(1, DV.ptr 1 2 0 0), (3, DV.str []), (4, DV.int .i64 (col + (1 : Int)))] [(1, Blk.box [DV.int .i64 row, DV.int .i64 col])] []) /\ obB (inR .i64 (row + (1 : Int))) (((0 : Int) <= row + (1 : Int) /\ row + (1 : Int) <= 9223372036854775807) /\ obB (decide (List.length t + List.length (Lib.itoa (row + (1 : Int))) <= 4294967296)) (Φ (DV.str (t ++ Lib.itoa (row + (1 : Int)))) [])))) := by kernel_rfl
theorem vc95b (s : List UInt8) (n row col : Int) (L : St -> Prop) (K : Ex -> St -> Prop) : (vcB cfg {} 95 0 (hd95 s n row col) (bodyK L [1, 3, 4] [1] [1, 3] [1] 27 K)) =
    (brB (decide (n > (0 : Int))) (obB (inR .i64 (n - (1 : Int))) (obB (inR .i64 ((65 : Int) + Int.tmod (n - (1 : Int)) (26 : Int))) (obB (decide (List.length (Utf8.encode (IntKind.wrap .i32 ((65 : Int) + Int.tmod (n - (1 : Int)) (26 : Int)))).data.toList + List.length s <= 4294967296)) (obB (inR .i64 (n - (1 : Int))) (L (mkS 27 [(1, DV.ptr 1 2 0 0), (3, DV.str ((Utf8.encode (IntKind.wrap .i32 ((65 : Int) + Int.tmod (n - (1 : Int)) (26 : Int)))).data.toList ++ s)), (4, DV.int .i64 (IntKind.wrap .i64 (Int.tdiv (n - (1 : Int)) (26 : Int))))] [(1, Blk.box [DV.int .i64 row, DV.int .i64 col])] [])))))) (K (Ex.exit 0) (mkS 27 [(1, DV.ptr 1 2 0 0), (3, DV.str s)] [(1, Blk.box [DV.int .i64 row, DV.int .i64 col])] []))) := by kernel_rfl
def E56 (r : Rf) (row col r1 c1 : Int) (s : List UInt8) (i : Int) : Env := { cs := [(96, callG True [r.dv, .agg [.int .i64 row, .int .i64 col]] (.agg [.int .i64 r1, .int .i64 c1])), (95, callG True [.agg [.int .i64 r1, .int .i64 c1]] (.str s)), (97, callG True [.str s, .str digL] (.int .i64 i))] }
theorem vc56 (r : Rf) (row col r1 c1 : Int) (s : List UInt8) (i : Int) (Φ : DV -> List Blk -> Prop) : (vcF cfg (E56 r row col r1 c1 s i) 56 [r.dv, .agg [.int .i64 row, .int .i64 col]] [] Φ) =
    (True /\ [Rf.dv r, DV.agg [DV.int .i64 row, DV.int .i64 col]] = [Rf.dv r, DV.agg [DV.int .i64 row, DV.int .i64 col]] /\ True /\ [DV.agg [DV.int .i64 r1, DV.int .i64 c1]] = [DV.agg [DV.int .i64 r1, DV.int .i64 c1]] /\ True /\ [DV.str s, DV.str [48, 49, 50, 51, 52, 53, 54, 55, 56, 57]] = [DV.str s, DV.str [48, 49, 50, 51, 52, 53, 54, 55, 56, 57]] /\ obB (decide ((0 : Int) <= i)) (obB (decide (Int.toNat i <= List.length s)) (obB (decide ((0 : Int) <= i)) (obB (decide (Int.toNat i <= List.length s)) (brB (!r.rc) (obB (decide (1 + List.length (List.drop 0 (List.take (Int.toNat i) s)) <= 4294967296)) (brB (!r.rr) (obB (decide (1 + List.length (List.drop (Int.toNat i) (List.take (List.length s) s)) <= 4294967296)) (obB (decide (List.length (#[(36 : UInt8)].toList ++ List.drop 0 (List.take (Int.toNat i) s)) + List.length (#[(36 : UInt8)].toList ++ List.drop (Int.toNat i) (List.take (List.length s) s)) <= 4294967296)) (Φ (DV.str (#[(36 : UInt8)].toList ++ List.drop 0 (List.take (Int.toNat i) s) ++ (#[(36 : UInt8)].toList ++ List.drop (Int.toNat i) (List.take (List.length s) s)))) []))) (obB (decide (List.length (#[(36 : UInt8)].toList ++ List.drop 0 (List.take (Int.toNat i) s)) + List.length (List.drop (Int.toNat i) (List.take (List.length s) s)) <= 4294967296)) (Φ (DV.str (#[(36 : UInt8)].toList ++ List.drop 0 (List.take (Int.toNat i) s) ++ List.drop (Int.toNat i) (List.take (List.length s) s))) [])))) (brB (!r.rr) (obB (decide (1 + List.length (List.drop (Int.toNat i) (List.take (List.length s) s)) <= 4294967296)) (obB (decide (List.length (List.drop 0 (List.take (Int.toNat i) s)) + List.length (#[(36 : UInt8)].toList ++ List.drop (Int.toNat i) (List.take (List.length s) s)) <= 4294967296)) (Φ (DV.str (List.drop 0 (List.take (Int.toNat i) s) ++ (#[(36 : UInt8)].toList ++ List.drop (Int.toNat i) (List.take (List.length s) s)))) []))) (obB (decide (List.length (List.drop 0 (List.take (Int.toNat i) s)) + List.length (List.drop (Int.toNat i) (List.take (List.length s) s)) <= 4294967296)) (Φ (DV.str (List.drop 0 (List.take (Int.toNat i) s) ++ List.drop (Int.toNat i) (List.take (List.length s) s))) [])))))))) := by kernel_rfl
def hd226 (s : List UInt8) (j : Nat) (c r d : Int) : St := mkS 79 [(2, .ptr 2 2 0 0), (3, .int .i64 0), (4, .int .i64 c), (5, .int .i64 r), (6, .int .i64 d), (11, .ptr 11 0 0 0)] [(2, .box [.int .i64 0, .int .i64 0]), (11, .iter s j)] []
def F226 (c r d : Int) (k : Ex -> St -> Prop) : Prop := k (.exit 0) (mkS 79 [(2, .ptr 2 2 0 0), (3, .int .i64 0), (4, .int .i64 c), (5, .int .i64 r), (6, .int .i64 d)] [(2, .box [.int .i64 0, .int .i64 0])] [])
def E226 (L : St -> Prop) (c r d : Int) : Env := { cs := [(24, callG True [.agg [.int .i64 (r - 1), .int .i64 (c - 1)]] (.bool true))], ls := [(0, loopS [2, 3, 4, 5, 6, 11] [2, 11] 79 L (F226 c r d))] }
def E226b (x : Nat) : Env := { an := [(12, .ptr x 1 0 0)] }
theorem vc226 (s : List UInt8) (c r d : Int) (L : St -> Prop) (Φ : DV -> List Blk -> Prop) : (vcF cfg (E226 L c r d) 226 [.str s] [] Φ) =
    (L (mkS 79 [(2, DV.ptr 2 2 0 0), (3, DV.int .i64 0), (4, DV.int .i64 0), (5, DV.int .i64 0), (6, DV.int .i64 0), (11, DV.ptr 11 0 0 0)] [(2, Blk.box [DV.int .i64 0, DV.int .i64 0]), (11, Blk.iter s 0)] []) /\ obB (inR .i64 (r - (1 : Int))) (obB (inR .i64 (c - (1 : Int))) (brB (d == (0 : Int)) (Φ (DV.tup [DV.agg [DV.int .i64 0, DV.int .i64 0], DV.int .i64 2]) []) (True /\ [DV.agg [DV.int .i64 (r - (1 : Int)), DV.int .i64 (c - (1 : Int))]] = [DV.agg [DV.int .i64 (r - (1 : Int)), DV.int .i64 (c - (1 : Int))]] /\ Φ (DV.tup [DV.agg [DV.int .i64 (r - (1 : Int)), DV.int .i64 (c - (1 : Int))], DV.int .i64 0]) [])))) := by kernel_rfl
theorem vc226b (s : List UInt8) (j x : Nat) (c r d : Int) (L : St -> Prop) (K : Ex -> St -> Prop) : (vcB cfg (E226b x) 226 0 (hd226 s j c r d) (bodyK L [2, 3, 4, 5, 6, 11] [2, 11] [2, 3, 4, 5, 6] [2] 79 K)) =
    (brB (decide (j < List.length s)) (Utf8.decode (ByteArray.mk (List.toArray s)) j = (x, 1) /\ brB (decide ((↑x : Int) ≥ 65) && decide ((↑x : Int) <= 90) && d == (0 : Int)) (obB (inR .i64 (c * (26 : Int))) (obB (inR .i32 ((↑x : Int) - 65)) (obB (inR .i64 (c * (26 : Int) + IntKind.wrap .i64 ((↑x : Int) - 65))) (obB (inR .i64 (c * (26 : Int) + IntKind.wrap .i64 ((↑x : Int) - 65) + (1 : Int))) (L (mkS 79 [(2, DV.ptr 2 2 0 0), (3, DV.int .i64 0), (4, DV.int .i64 (if false = true then if (257 : Int) > c * (26 : Int) + IntKind.wrap .i64 ((↑x : Int) - 65) + (1 : Int) then (257 : Int) else c * (26 : Int) + IntKind.wrap .i64 ((↑x : Int) - 65) + (1 : Int) else if (257 : Int) < c * (26 : Int) + IntKind.wrap .i64 ((↑x : Int) - 65) + (1 : Int) then (257 : Int) else c * (26 : Int) + IntKind.wrap .i64 ((↑x : Int) - 65) + (1 : Int))), (5, DV.int .i64 r), (6, DV.int .i64 d), (11, DV.ptr 11 0 0 0)] [(2, Blk.box [DV.int .i64 0, DV.int .i64 0]), (11, Blk.iter s (j + 1))] [])))))) (brB (decide ((↑x : Int) ≥ 48) && decide ((↑x : Int) <= 57) && decide ((↑j : Int) > 0) && ((↑x : Int) != (48 : Int) || decide (d > (0 : Int)))) (obB (inR .i64 (r * (10 : Int))) (obB (inR .i32 ((↑x : Int) - 48)) (obB (inR .i64 (r * (10 : Int) + IntKind.wrap .i64 ((↑x : Int) - 48))) (obB (inR .i64 (d + (1 : Int))) (L (mkS 79 [(2, DV.ptr 2 2 0 0), (3, DV.int .i64 0), (4, DV.int .i64 c), (5, DV.int .i64 (if false = true then if (65537 : Int) > r * (10 : Int) + IntKind.wrap .i64 ((↑x : Int) - 48) then (65537 : Int) else r * (10 : Int) + IntKind.wrap .i64 ((↑x : Int) - 48) else if (65537 : Int) < r * (10 : Int) + IntKind.wrap .i64 ((↑x : Int) - 48) then (65537 : Int) else r * (10 : Int) + IntKind.wrap .i64 ((↑x : Int) - 48))), (6, DV.int .i64 (d + (1 : Int))), (11, DV.ptr 11 0 0 0)] [(2, Blk.box [DV.int .i64 0, DV.int .i64 0]), (11, Blk.iter s (j + 1))] [])))))) (K Ex.ret (mkS 79 [(2, DV.ptr 2 2 0 0), (3, DV.int .i64 2), (4, DV.int .i64 c), (5, DV.int .i64 r), (6, DV.int .i64 d)] [(2, Blk.box [DV.int .i64 0, DV.int .i64 0])] [])))) (K (Ex.exit 0) (mkS 79 [(2, DV.ptr 2 2 0 0), (3, DV.int .i64 0), (4, DV.int .i64 c), (5, DV.int .i64 r), (6, DV.int .i64 d)] [(2, Blk.box [DV.int .i64 0, DV.int .i64 0])] []))) := by kernel_rfl
end Go.Det.Sea
end

section
namespace Go.Det.Sea
open Go Go.Det
def E214 (w rest tail d0 digits cd : List UInt8) (fc fr : Bool) (g : Prop) (r c row col : Int) (R : Rf) : Env := { ss := [(16, 150, callG True [.str w, .str [36]] (.tup [.str rest, .bool fc])), (22, 224, callG True [.str rest, .str letP] (.str tail)), (32, 150, callG g [.str d0, .str [36]] (.tup [.str digits, .bool fr])), (36, 225, callG True [.str digits, .str qutL] (.bool false)), (47, 226, callG True [.str cd] (.tup [.agg [.int .i64 r, .int .i64 c], .int .i64 0])), (66, 227, callG True [.agg [.int .i64 r, .int .i64 c], .agg [.int .i64 row, .int .i64 col], .bool (!fr), .bool (!fc)] R.dv)], cs := [(76, noCall)] }
theorem vc214 (s w rest tail d0 digits cd : List UInt8) (fc fr : Bool) (g : Prop) (r c row col : Int) (R : Rf) (p : Nat) (q : Int) (Φ : DV -> List Blk -> Prop) : (vcF cfg (E214 w rest tail d0 digits cd fc fr g r c row col R) 214 [.ptr 67 6 0 0, .int .i64 q, .str w] [rdr s row col p 0 0] Φ) =
    (True /\ [DV.str w, DV.str [36]] = [DV.str w, DV.str [36]] /\ True /\ [DV.str rest, DV.str [65, 66, 67, 68, 69, 70, 71, 72, 73, 74, 75, 76, 77, 78, 79, 80, 81, 82, 83, 84, 85, 86, 87, 88, 89, 90]] = [DV.str rest, DV.str [65, 66, 67, 68, 69, 70, 71, 72, 73, 74, 75, 76, 77, 78, 79, 80, 81, 82, 83, 84, 85, 86, 87, 88, 89, 90]] /\ obB (inR .i64 ((↑(List.length rest) : Int) - (↑(List.length tail) : Int))) (obB (decide ((0 : Int) <= (↑(List.length rest) : Int) - (↑(List.length tail) : Int))) (obB (decide (Int.toNat ((↑(List.length rest) : Int) - (↑(List.length tail) : Int)) <= List.length rest)) (brB (decide ((↑(List.length rest) : Int) - (↑(List.length tail) : Int) > 0)) (g /\ [DV.str (List.drop (Int.toNat ((↑(List.length rest) : Int) - (↑(List.length tail) : Int))) (List.take (List.length rest) rest)), DV.str [36]] = [DV.str d0, DV.str [36]] /\ True /\ [DV.str digits, DV.str [36, 39]] = [DV.str digits, DV.str [36, 39]] /\ obB (decide ((0 : Int) <= (↑(List.length rest) : Int) - (↑(List.length tail) : Int))) (obB (decide (Int.toNat ((↑(List.length rest) : Int) - (↑(List.length tail) : Int)) <= List.length rest)) (obB (decide (List.length (List.drop 0 (List.take (Int.toNat ((↑(List.length rest) : Int) - (↑(List.length tail) : Int))) rest)) + List.length digits <= 4294967296)) (True /\ [DV.str (List.drop 0 (List.take (Int.toNat ((↑(List.length rest) : Int) - (↑(List.length tail) : Int))) rest) ++ digits)] = [DV.str cd] /\ True /\ [DV.agg [DV.int .i64 r, DV.int .i64 c], DV.agg [DV.int .i64 row, DV.int .i64 col], DV.bool !fr, DV.bool !fc] = [DV.agg [DV.int .i64 r, DV.int .i64 c], DV.agg [DV.int .i64 row, DV.int .i64 col], DV.bool !fr, DV.bool !fc] /\ Φ (Rf.dv R) [rdr s row col p 0 0])))) (True /\ [DV.str (List.drop (Int.toNat ((↑(List.length rest) : Int) - (↑(List.length tail) : Int))) (List.take (List.length rest) rest)), DV.str [36, 39]] = [DV.str digits, DV.str [36, 39]] /\ obB (decide ((0 : Int) <= (↑(List.length rest) : Int) - (↑(List.length tail) : Int))) (obB (decide (Int.toNat ((↑(List.length rest) : Int) - (↑(List.length tail) : Int)) <= List.length rest)) (obB (decide (List.length (List.drop 0 (List.take (Int.toNat ((↑(List.length rest) : Int) - (↑(List.length tail) : Int))) rest)) + List.length (List.drop (Int.toNat ((↑(List.length rest) : Int) - (↑(List.length tail) : Int))) (List.take (List.length rest) rest)) <= 4294967296)) (True /\ [DV.str (List.drop 0 (List.take (Int.toNat ((↑(List.length rest) : Int) - (↑(List.length tail) : Int))) rest) ++ List.drop (Int.toNat ((↑(List.length rest) : Int) - (↑(List.length tail) : Int))) (List.take (List.length rest) rest))] = [DV.str cd] /\ True /\ [DV.agg [DV.int .i64 r, DV.int .i64 c], DV.agg [DV.int .i64 row, DV.int .i64 col], DV.bool true, DV.bool !fc] = [DV.agg [DV.int .i64 r, DV.int .i64 c], DV.agg [DV.int .i64 row, DV.int .i64 col], DV.bool !fr, DV.bool !fc] /\ Φ (Rf.dv R) [rdr s row col p 0 0])))))))) := by kernel_rfl
def E184 (s f : List UInt8) (n : Int) : Env := { cs := [(211, callG True [.str s, .int .i64 10, .int .i64 64] (.tup [.int .i64 n, .niliface])), (212, callG True [.int .i64 n, .int .i64 10] (.str f))], sp := [2] }
theorem vc184 (s f : List UInt8) (n : Int) (Φ : DV -> List Blk -> Prop) : (vcF cfg (E184 s f n) 184 [.str s] [] Φ) =
    (True /\ [DV.str s, DV.int .i64 10, DV.int .i64 64] = [DV.str s, DV.int .i64 10, DV.int .i64 64] /\ True /\ [DV.int .i64 n, DV.int .i64 10] = [DV.int .i64 n, DV.int .i64 10] /\ brB (!f == s) (Φ (DV.tup [DV.int .i64 0, DV.bool false]) []) (brB (decide (n < (0 : Int))) (Φ (DV.tup [DV.int .i64 0, DV.bool false]) []) (brB (decide (n > (2147483647 : Int))) (Φ (DV.tup [DV.int .i64 0, DV.bool false]) []) (Φ (DV.tup [DV.int .i64 n, DV.bool true]) [])))) := by kernel_rfl
def E186 (s : List UInt8) (row col : Int) (p p1 p2 p3 : Nat) (q q2 : Int) (w w2 : List UInt8) (ar : Bool) (A B : Rf) : Env := { ss := [(21, 214, callE True [.ptr 67 6 0 0, .int .i64 q, .str w] [rdr s row col p 0 0] A.dv [rdr s row col p 0 0]), (31, 107, callE True [.ptr 28 6 0 0, .str [58]] [rdr s row col p 0 0] (.bool ar) [rdr s row col p1 0 0]), (36, 36, callE (ar = true) [.ptr 31 6 0 0] [rdr s row col p1 0 0] (.tup []) [rdr s row col p2 0 0]), (42, 180, callE (ar = true) [.ptr 39 6 0 0] [rdr s row col p2 0 0] (.str w2) [rdr s row col p3 0 0]), (51, 214, callE (ar = true) [.ptr 67 6 0 0, .int .i64 q2, .str w2] [rdr s row col p3 0 0] B.dv [rdr s row col p3 0 0])], cs := [(37, noCall)], sp := [3] }
theorem vc186 (s : List UInt8) (row col : Int) (p p1 p2 p3 : Nat) (q q2 : Int) (w w2 : List UInt8) (ar : Bool) (A B : Rf) (cell area sheet : Int) (Φ : DV -> List Blk -> Prop) : (vcF cfg (E186 s row col p p1 p2 p3 q q2 w w2 ar A B) 186 [.ptr 56 6 0 0, .int .i64 q, .str w, .int .i64 cell, .int .i64 area, .int .i64 sheet] [rdr s row col p 0 0] Φ) =
    ((True /\ [DV.ptr 67 6 0 0, DV.int .i64 q, DV.str w] = [DV.ptr 67 6 0 0, DV.int .i64 q, DV.str w] /\ [rdr s row col p 0 0] = [rdr s row col p 0 0]) /\ (True /\ [DV.ptr 28 6 0 0, DV.str [58]] = [DV.ptr 28 6 0 0, DV.str [58]] /\ [rdr s row col p 0 0] = [rdr s row col p 0 0]) /\ brB (!ar) (Φ (DV.agg [DV.int .i64 cell, DV.int .i64 0, DV.int .i64 0, DV.int .i64 0, DV.str [], DV.bool false, DV.int .i64 0, DV.int .i64 A.row, DV.int .i64 A.col, DV.bool A.rr, DV.bool A.rc, DV.int .i64 0, DV.int .i64 0, DV.bool false, DV.bool false, DV.int .i64 sheet, DV.int .i64 0, DV.nilsl]) [rdr s row col p1 0 0]) ((ar = true /\ [DV.ptr 31 6 0 0] = [DV.ptr 31 6 0 0] /\ [rdr s row col p1 0 0] = [rdr s row col p1 0 0]) /\ (ar = true /\ [DV.ptr 39 6 0 0] = [DV.ptr 39 6 0 0] /\ [rdr s row col p2 0 0] = [rdr s row col p2 0 0]) /\ brB (w2 == #[].toList) False ((ar = true /\ [DV.ptr 67 6 0 0, DV.int .i64 p2, DV.str w2] = [DV.ptr 67 6 0 0, DV.int .i64 q2, DV.str w2] /\ [rdr s row col p3 0 0] = [rdr s row col p3 0 0]) /\ Φ (DV.agg [DV.int .i64 area, DV.int .i64 0, DV.int .i64 0, DV.int .i64 0, DV.str [], DV.bool false, DV.int .i64 0, DV.int .i64 A.row, DV.int .i64 A.col, DV.bool A.rr, DV.bool A.rc, DV.int .i64 B.row, DV.int .i64 B.col, DV.bool B.rr, DV.bool B.rc, DV.int .i64 sheet, DV.int .i64 0, DV.nilsl]) [rdr s row col p3 0 0]))) := by kernel_rfl
def E147 (s : List UInt8) (row col : Int) (p p1 p2 p3 : Nat) (w ws w2 nm : List UInt8) (bp be isq : Bool) (op n : Int) (t : Tr) (g1 g2 g3 g4 g5 : Prop) : Env := { ss := [(19, 180, callE True [.ptr 39 6 0 0] [rdr s row col p 0 0] (.str w) [rdr s row col p1 0 0]), (29, 181, callE True [.ptr 16 6 0 0, .str [40]] [rdr s row col p1 0 0] (.bool bp) [rdr s row col p1 0 0]), (34, 181, callE True [.ptr 16 6 0 0, .str [33]] [rdr s row col p1 0 0] (.bool be) [rdr s row col p1 0 0]), (43, 181, callE True [.ptr 16 6 0 0, .str [40]] [rdr s row col p1 0 0] (.bool bp) [rdr s row col p1 0 0]), (59, 181, callE True [.ptr 16 6 0 0, .str [33]] [rdr s row col p1 0 0] (.bool be) [rdr s row col p1 0 0]), (46, 182, callG g1 [.str w] (.tup [.int .i64 op, .bool true])), (56, 183, callE g1 [.ptr 38 6 0 0, .int .i64 op] [rdr s row col p1 0 0] t.dv [rdr s row col p2 0 0]), (62, 185, callG g2 [.str w, .str [83]] (.str ws)), (63, 184, callG g2 [.str ws] (.tup [.int .i64 n, .bool true])), (67, 109, hpS), (92, 180, callE g2 [.ptr 39 6 0 0] [rdr s row col ((p1 : Int) + 1) 0 0] (.str w2) [rdr s row col p3 0 0]), (102, 186, callE g2 [.ptr 56 6 0 0, .int .i64 ((p1 : Int) + 1), .str w2, .int .i64 4, .int .i64 5, .int .i64 (n - 1)] [rdr s row col p3 0 0] t.dv [rdr s row col p2 0 0]), (105, 187, callG g3 [.str w, .str [39]] (.tup [.str nm, .bool isq])), (111, 109, hpS), (116, 184, callG g4 [.str (nm.drop 1)] (.tup [.int .i64 n, .bool true])), (125, 186, callE g5 [.ptr 56 6 0 0, .int .i64 p, .str w, .int .i64 2, .int .i64 3, .int .i64 0] [rdr s row col p1 0 0] t.dv [rdr s row col p2 0 0])], cs := [(37, noCall), (76, noCall)], sp := [3, 21] }
theorem vc147 (s : List UInt8) (row col : Int) (p p1 p2 p3 : Nat) (w ws w2 nm : List UInt8) (bp be isq : Bool) (op n : Int) (t : Tr) (g1 g2 g3 g4 g5 : Prop) (Φ : DV -> List Blk -> Prop) : (vcF cfg (E147 s row col p p1 p2 p3 w ws w2 nm bp be isq op n t g1 g2 g3 g4 g5) 147 [.ptr 126 6 0 0] [rdr s row col p 0 0] Φ) =
    ((True /\ [DV.ptr 39 6 0 0] = [DV.ptr 39 6 0 0] /\ [rdr s row col p 0 0] = [rdr s row col p 0 0]) /\ brB (w == #[(84 : UInt8), (82 : UInt8), (85 : UInt8), (69 : UInt8)].toList) ((True /\ [DV.ptr 16 6 0 0, DV.str [40]] = [DV.ptr 16 6 0 0, DV.str [40]] /\ [rdr s row col p1 0 0] = [rdr s row col p1 0 0]) /\ brB (!bp) ((True /\ [DV.ptr 16 6 0 0, DV.str [33]] = [DV.ptr 16 6 0 0, DV.str [33]] /\ [rdr s row col p1 0 0] = [rdr s row col p1 0 0]) /\ brB (!be) (Φ (DV.agg [DV.int .i64 1, DV.int .i64 3, DV.int .i64 0, DV.int .i64 0, DV.str [], DV.bool (w == #[(84 : UInt8), (82 : UInt8), (85 : UInt8), (69 : UInt8)].toList), DV.int .i64 0, DV.int .i64 0, DV.int .i64 0, DV.bool false, DV.bool false, DV.int .i64 0, DV.int .i64 0, DV.bool false, DV.bool false, DV.int .i64 0, DV.int .i64 0, DV.nilsl]) [rdr s row col p1 0 0]) ((True /\ [DV.ptr 16 6 0 0, DV.str [40]] = [DV.ptr 16 6 0 0, DV.str [40]] /\ [rdr s row col p1 0 0] = [rdr s row col p1 0 0]) /\ brB bp (g1 /\ [DV.str w] = [DV.str w] /\ (g1 /\ [DV.ptr 38 6 0 0, DV.int .i64 op] = [DV.ptr 38 6 0 0, DV.int .i64 op] /\ [rdr s row col p1 0 0] = [rdr s row col p1 0 0]) /\ Φ (Tr.dv t) [rdr s row col p2 0 0]) ((True /\ [DV.ptr 16 6 0 0, DV.str [33]] = [DV.ptr 16 6 0 0, DV.str [33]] /\ [rdr s row col p1 0 0] = [rdr s row col p1 0 0]) /\ brB be (g2 /\ [DV.str w, DV.str [83]] = [DV.str w, DV.str [83]] /\ g2 /\ [DV.str ws] = [DV.str ws] /\ brB (!hp w #[(83 : UInt8)].toList || false || decide (n < (1 : Int))) False (obB (inR .i64 ((↑p1 : Int) + 1)) ((g2 /\ [DV.ptr 39 6 0 0] = [DV.ptr 39 6 0 0] /\ [Blk.box [DV.str s, DV.int .i64 row, DV.int .i64 col, DV.int .i64 ((↑p1 : Int) + 1), DV.int .i64 0, DV.int .i64 0]] = [Blk.box [DV.str s, DV.int .i64 row, DV.int .i64 col, DV.int .i64 ((↑p1 : Int) + 1), DV.int .i64 0, DV.int .i64 0]]) /\ brB (w2 == #[].toList) False (obB (inR .i64 (n - (1 : Int))) ((g2 /\ [DV.ptr 56 6 0 0, DV.int .i64 ((↑p1 : Int) + 1), DV.str w2, DV.int .i64 4, DV.int .i64 5, DV.int .i64 (n - (1 : Int))] = [DV.ptr 56 6 0 0, DV.int .i64 ((↑p1 : Int) + 1), DV.str w2, DV.int .i64 4, DV.int .i64 5, DV.int .i64 (n - (1 : Int))] /\ [rdr s row col p3 0 0] = [rdr s row col p3 0 0]) /\ Φ (Tr.dv t) [rdr s row col p2 0 0]))))) (g3 /\ [DV.str w, DV.str [39]] = [DV.str w, DV.str [39]] /\ brB isq (brB (hp nm #[(78 : UInt8)].toList) (obB (decide (1 <= List.length nm)) (g4 /\ [DV.str (List.drop 1 (List.take (List.length nm) nm))] = [DV.str (List.drop 1 nm)] /\ Φ (DV.agg [DV.int .i64 6, DV.int .i64 0, DV.int .i64 0, DV.int .i64 0, DV.str [], DV.bool false, DV.int .i64 0, DV.int .i64 0, DV.int .i64 0, DV.bool false, DV.bool false, DV.int .i64 0, DV.int .i64 0, DV.bool false, DV.bool false, DV.int .i64 0, DV.int .i64 n, DV.nilsl]) [rdr s row col p1 0 0])) ((g5 /\ [DV.ptr 56 6 0 0, DV.int .i64 p, DV.str w, DV.int .i64 2, DV.int .i64 3, DV.int .i64 0] = [DV.ptr 56 6 0 0, DV.int .i64 p, DV.str w, DV.int .i64 2, DV.int .i64 3, DV.int .i64 0] /\ [rdr s row col p1 0 0] = [rdr s row col p1 0 0]) /\ Φ (Tr.dv t) [rdr s row col p2 0 0])) ((g5 /\ [DV.ptr 56 6 0 0, DV.int .i64 p, DV.str w, DV.int .i64 2, DV.int .i64 3, DV.int .i64 0] = [DV.ptr 56 6 0 0, DV.int .i64 p, DV.str w, DV.int .i64 2, DV.int .i64 3, DV.int .i64 0] /\ [rdr s row col p1 0 0] = [rdr s row col p1 0 0]) /\ Φ (Tr.dv t) [rdr s row col p2 0 0]))))) ((True /\ [DV.ptr 16 6 0 0, DV.str [40]] = [DV.ptr 16 6 0 0, DV.str [40]] /\ [rdr s row col p1 0 0] = [rdr s row col p1 0 0]) /\ brB bp (g1 /\ [DV.str w] = [DV.str w] /\ (g1 /\ [DV.ptr 38 6 0 0, DV.int .i64 op] = [DV.ptr 38 6 0 0, DV.int .i64 op] /\ [rdr s row col p1 0 0] = [rdr s row col p1 0 0]) /\ Φ (Tr.dv t) [rdr s row col p2 0 0]) ((True /\ [DV.ptr 16 6 0 0, DV.str [33]] = [DV.ptr 16 6 0 0, DV.str [33]] /\ [rdr s row col p1 0 0] = [rdr s row col p1 0 0]) /\ brB be (g2 /\ [DV.str w, DV.str [83]] = [DV.str w, DV.str [83]] /\ g2 /\ [DV.str ws] = [DV.str ws] /\ brB (!hp w #[(83 : UInt8)].toList || false || decide (n < (1 : Int))) False (obB (inR .i64 ((↑p1 : Int) + 1)) ((g2 /\ [DV.ptr 39 6 0 0] = [DV.ptr 39 6 0 0] /\ [Blk.box [DV.str s, DV.int .i64 row, DV.int .i64 col, DV.int .i64 ((↑p1 : Int) + 1), DV.int .i64 0, DV.int .i64 0]] = [Blk.box [DV.str s, DV.int .i64 row, DV.int .i64 col, DV.int .i64 ((↑p1 : Int) + 1), DV.int .i64 0, DV.int .i64 0]]) /\ brB (w2 == #[].toList) False (obB (inR .i64 (n - (1 : Int))) ((g2 /\ [DV.ptr 56 6 0 0, DV.int .i64 ((↑p1 : Int) + 1), DV.str w2, DV.int .i64 4, DV.int .i64 5, DV.int .i64 (n - (1 : Int))] = [DV.ptr 56 6 0 0, DV.int .i64 ((↑p1 : Int) + 1), DV.str w2, DV.int .i64 4, DV.int .i64 5, DV.int .i64 (n - (1 : Int))] /\ [rdr s row col p3 0 0] = [rdr s row col p3 0 0]) /\ Φ (Tr.dv t) [rdr s row col p2 0 0]))))) (g3 /\ [DV.str w, DV.str [39]] = [DV.str w, DV.str [39]] /\ brB isq (brB (hp nm #[(78 : UInt8)].toList) (obB (decide (1 <= List.length nm)) (g4 /\ [DV.str (List.drop 1 (List.take (List.length nm) nm))] = [DV.str (List.drop 1 nm)] /\ Φ (DV.agg [DV.int .i64 6, DV.int .i64 0, DV.int .i64 0, DV.int .i64 0, DV.str [], DV.bool false, DV.int .i64 0, DV.int .i64 0, DV.int .i64 0, DV.bool false, DV.bool false, DV.int .i64 0, DV.int .i64 0, DV.bool false, DV.bool false, DV.int .i64 0, DV.int .i64 n, DV.nilsl]) [rdr s row col p1 0 0])) ((g5 /\ [DV.ptr 56 6 0 0, DV.int .i64 p, DV.str w, DV.int .i64 2, DV.int .i64 3, DV.int .i64 0] = [DV.ptr 56 6 0 0, DV.int .i64 p, DV.str w, DV.int .i64 2, DV.int .i64 3, DV.int .i64 0] /\ [rdr s row col p1 0 0] = [rdr s row col p1 0 0]) /\ Φ (Tr.dv t) [rdr s row col p2 0 0])) ((g5 /\ [DV.ptr 56 6 0 0, DV.int .i64 p, DV.str w, DV.int .i64 2, DV.int .i64 3, DV.int .i64 0] = [DV.ptr 56 6 0 0, DV.int .i64 p, DV.str w, DV.int .i64 2, DV.int .i64 3, DV.int .i64 0] /\ [rdr s row col p1 0 0] = [rdr s row col p1 0 0]) /\ Φ (Tr.dv t) [rdr s row col p2 0 0]))))) (brB (w == #[(70 : UInt8), (65 : UInt8), (76 : UInt8), (83 : UInt8), (69 : UInt8)].toList) ((True /\ [DV.ptr 16 6 0 0, DV.str [40]] = [DV.ptr 16 6 0 0, DV.str [40]] /\ [rdr s row col p1 0 0] = [rdr s row col p1 0 0]) /\ brB (!bp) ((True /\ [DV.ptr 16 6 0 0, DV.str [33]] = [DV.ptr 16 6 0 0, DV.str [33]] /\ [rdr s row col p1 0 0] = [rdr s row col p1 0 0]) /\ brB (!be) (Φ (DV.agg [DV.int .i64 1, DV.int .i64 3, DV.int .i64 0, DV.int .i64 0, DV.str [], DV.bool (w == #[(84 : UInt8), (82 : UInt8), (85 : UInt8), (69 : UInt8)].toList), DV.int .i64 0, DV.int .i64 0, DV.int .i64 0, DV.bool false, DV.bool false, DV.int .i64 0, DV.int .i64 0, DV.bool false, DV.bool false, DV.int .i64 0, DV.int .i64 0, DV.nilsl]) [rdr s row col p1 0 0]) ((True /\ [DV.ptr 16 6 0 0, DV.str [40]] = [DV.ptr 16 6 0 0, DV.str [40]] /\ [rdr s row col p1 0 0] = [rdr s row col p1 0 0]) /\ brB bp (g1 /\ [DV.str w] = [DV.str w] /\ (g1 /\ [DV.ptr 38 6 0 0, DV.int .i64 op] = [DV.ptr 38 6 0 0, DV.int .i64 op] /\ [rdr s row col p1 0 0] = [rdr s row col p1 0 0]) /\ Φ (Tr.dv t) [rdr s row col p2 0 0]) ((True /\ [DV.ptr 16 6 0 0, DV.str [33]] = [DV.ptr 16 6 0 0, DV.str [33]] /\ [rdr s row col p1 0 0] = [rdr s row col p1 0 0]) /\ brB be (g2 /\ [DV.str w, DV.str [83]] = [DV.str w, DV.str [83]] /\ g2 /\ [DV.str ws] = [DV.str ws] /\ brB (!hp w #[(83 : UInt8)].toList || false || decide (n < (1 : Int))) False (obB (inR .i64 ((↑p1 : Int) + 1)) ((g2 /\ [DV.ptr 39 6 0 0] = [DV.ptr 39 6 0 0] /\ [Blk.box [DV.str s, DV.int .i64 row, DV.int .i64 col, DV.int .i64 ((↑p1 : Int) + 1), DV.int .i64 0, DV.int .i64 0]] = [Blk.box [DV.str s, DV.int .i64 row, DV.int .i64 col, DV.int .i64 ((↑p1 : Int) + 1), DV.int .i64 0, DV.int .i64 0]]) /\ brB (w2 == #[].toList) False (obB (inR .i64 (n - (1 : Int))) ((g2 /\ [DV.ptr 56 6 0 0, DV.int .i64 ((↑p1 : Int) + 1), DV.str w2, DV.int .i64 4, DV.int .i64 5, DV.int .i64 (n - (1 : Int))] = [DV.ptr 56 6 0 0, DV.int .i64 ((↑p1 : Int) + 1), DV.str w2, DV.int .i64 4, DV.int .i64 5, DV.int .i64 (n - (1 : Int))] /\ [rdr s row col p3 0 0] = [rdr s row col p3 0 0]) /\ Φ (Tr.dv t) [rdr s row col p2 0 0]))))) (g3 /\ [DV.str w, DV.str [39]] = [DV.str w, DV.str [39]] /\ brB isq (brB (hp nm #[(78 : UInt8)].toList) (obB (decide (1 <= List.length nm)) (g4 /\ [DV.str (List.drop 1 (List.take (List.length nm) nm))] = [DV.str (List.drop 1 nm)] /\ Φ (DV.agg [DV.int .i64 6, DV.int .i64 0, DV.int .i64 0, DV.int .i64 0, DV.str [], DV.bool false, DV.int .i64 0, DV.int .i64 0, DV.int .i64 0, DV.bool false, DV.bool false, DV.int .i64 0, DV.int .i64 0, DV.bool false, DV.bool false, DV.int .i64 0, DV.int .i64 n, DV.nilsl]) [rdr s row col p1 0 0])) ((g5 /\ [DV.ptr 56 6 0 0, DV.int .i64 p, DV.str w, DV.int .i64 2, DV.int .i64 3, DV.int .i64 0] = [DV.ptr 56 6 0 0, DV.int .i64 p, DV.str w, DV.int .i64 2, DV.int .i64 3, DV.int .i64 0] /\ [rdr s row col p1 0 0] = [rdr s row col p1 0 0]) /\ Φ (Tr.dv t) [rdr s row col p2 0 0])) ((g5 /\ [DV.ptr 56 6 0 0, DV.int .i64 p, DV.str w, DV.int .i64 2, DV.int .i64 3, DV.int .i64 0] = [DV.ptr 56 6 0 0, DV.int .i64 p, DV.str w, DV.int .i64 2, DV.int .i64 3, DV.int .i64 0] /\ [rdr s row col p1 0 0] = [rdr s row col p1 0 0]) /\ Φ (Tr.dv t) [rdr s row col p2 0 0]))))) ((True /\ [DV.ptr 16 6 0 0, DV.str [40]] = [DV.ptr 16 6 0 0, DV.str [40]] /\ [rdr s row col p1 0 0] = [rdr s row col p1 0 0]) /\ brB bp (g1 /\ [DV.str w] = [DV.str w] /\ (g1 /\ [DV.ptr 38 6 0 0, DV.int .i64 op] = [DV.ptr 38 6 0 0, DV.int .i64 op] /\ [rdr s row col p1 0 0] = [rdr s row col p1 0 0]) /\ Φ (Tr.dv t) [rdr s row col p2 0 0]) ((True /\ [DV.ptr 16 6 0 0, DV.str [33]] = [DV.ptr 16 6 0 0, DV.str [33]] /\ [rdr s row col p1 0 0] = [rdr s row col p1 0 0]) /\ brB be (g2 /\ [DV.str w, DV.str [83]] = [DV.str w, DV.str [83]] /\ g2 /\ [DV.str ws] = [DV.str ws] /\ brB (!hp w #[(83 : UInt8)].toList || false || decide (n < (1 : Int))) False (obB (inR .i64 ((↑p1 : Int) + 1)) ((g2 /\ [DV.ptr 39 6 0 0] = [DV.ptr 39 6 0 0] /\ [Blk.box [DV.str s, DV.int .i64 row, DV.int .i64 col, DV.int .i64 ((↑p1 : Int) + 1), DV.int .i64 0, DV.int .i64 0]] = [Blk.box [DV.str s, DV.int .i64 row, DV.int .i64 col, DV.int .i64 ((↑p1 : Int) + 1), DV.int .i64 0, DV.int .i64 0]]) /\ brB (w2 == #[].toList) False (obB (inR .i64 (n - (1 : Int))) ((g2 /\ [DV.ptr 56 6 0 0, DV.int .i64 ((↑p1 : Int) + 1), DV.str w2, DV.int .i64 4, DV.int .i64 5, DV.int .i64 (n - (1 : Int))] = [DV.ptr 56 6 0 0, DV.int .i64 ((↑p1 : Int) + 1), DV.str w2, DV.int .i64 4, DV.int .i64 5, DV.int .i64 (n - (1 : Int))] /\ [rdr s row col p3 0 0] = [rdr s row col p3 0 0]) /\ Φ (Tr.dv t) [rdr s row col p2 0 0]))))) (g3 /\ [DV.str w, DV.str [39]] = [DV.str w, DV.str [39]] /\ brB isq (brB (hp nm #[(78 : UInt8)].toList) (obB (decide (1 <= List.length nm)) (g4 /\ [DV.str (List.drop 1 (List.take (List.length nm) nm))] = [DV.str (List.drop 1 nm)] /\ Φ (DV.agg [DV.int .i64 6, DV.int .i64 0, DV.int .i64 0, DV.int .i64 0, DV.str [], DV.bool false, DV.int .i64 0, DV.int .i64 0, DV.int .i64 0, DV.bool false, DV.bool false, DV.int .i64 0, DV.int .i64 0, DV.bool false, DV.bool false, DV.int .i64 0, DV.int .i64 n, DV.nilsl]) [rdr s row col p1 0 0])) ((g5 /\ [DV.ptr 56 6 0 0, DV.int .i64 p, DV.str w, DV.int .i64 2, DV.int .i64 3, DV.int .i64 0] = [DV.ptr 56 6 0 0, DV.int .i64 p, DV.str w, DV.int .i64 2, DV.int .i64 3, DV.int .i64 0] /\ [rdr s row col p1 0 0] = [rdr s row col p1 0 0]) /\ Φ (Tr.dv t) [rdr s row col p2 0 0])) ((g5 /\ [DV.ptr 56 6 0 0, DV.int .i64 p, DV.str w, DV.int .i64 2, DV.int .i64 3, DV.int .i64 0] = [DV.ptr 56 6 0 0, DV.int .i64 p, DV.str w, DV.int .i64 2, DV.int .i64 3, DV.int .i64 0] /\ [rdr s row col p1 0 0] = [rdr s row col p1 0 0]) /\ Φ (Tr.dv t) [rdr s row col p2 0 0]))))) ((True /\ [DV.ptr 16 6 0 0, DV.str [40]] = [DV.ptr 16 6 0 0, DV.str [40]] /\ [rdr s row col p1 0 0] = [rdr s row col p1 0 0]) /\ brB bp (g1 /\ [DV.str w] = [DV.str w] /\ (g1 /\ [DV.ptr 38 6 0 0, DV.int .i64 op] = [DV.ptr 38 6 0 0, DV.int .i64 op] /\ [rdr s row col p1 0 0] = [rdr s row col p1 0 0]) /\ Φ (Tr.dv t) [rdr s row col p2 0 0]) ((True /\ [DV.ptr 16 6 0 0, DV.str [33]] = [DV.ptr 16 6 0 0, DV.str [33]] /\ [rdr s row col p1 0 0] = [rdr s row col p1 0 0]) /\ brB be (g2 /\ [DV.str w, DV.str [83]] = [DV.str w, DV.str [83]] /\ g2 /\ [DV.str ws] = [DV.str ws] /\ brB (!hp w #[(83 : UInt8)].toList || false || decide (n < (1 : Int))) False (obB (inR .i64 ((↑p1 : Int) + 1)) ((g2 /\ [DV.ptr 39 6 0 0] = [DV.ptr 39 6 0 0] /\ [Blk.box [DV.str s, DV.int .i64 row, DV.int .i64 col, DV.int .i64 ((↑p1 : Int) + 1), DV.int .i64 0, DV.int .i64 0]] = [Blk.box [DV.str s, DV.int .i64 row, DV.int .i64 col, DV.int .i64 ((↑p1 : Int) + 1), DV.int .i64 0, DV.int .i64 0]]) /\ brB (w2 == #[].toList) False (obB (inR .i64 (n - (1 : Int))) ((g2 /\ [DV.ptr 56 6 0 0, DV.int .i64 ((↑p1 : Int) + 1), DV.str w2, DV.int .i64 4, DV.int .i64 5, DV.int .i64 (n - (1 : Int))] = [DV.ptr 56 6 0 0, DV.int .i64 ((↑p1 : Int) + 1), DV.str w2, DV.int .i64 4, DV.int .i64 5, DV.int .i64 (n - (1 : Int))] /\ [rdr s row col p3 0 0] = [rdr s row col p3 0 0]) /\ Φ (Tr.dv t) [rdr s row col p2 0 0]))))) (g3 /\ [DV.str w, DV.str [39]] = [DV.str w, DV.str [39]] /\ brB isq (brB (hp nm #[(78 : UInt8)].toList) (obB (decide (1 <= List.length nm)) (g4 /\ [DV.str (List.drop 1 (List.take (List.length nm) nm))] = [DV.str (List.drop 1 nm)] /\ Φ (DV.agg [DV.int .i64 6, DV.int .i64 0, DV.int .i64 0, DV.int .i64 0, DV.str [], DV.bool false, DV.int .i64 0, DV.int .i64 0, DV.int .i64 0, DV.bool false, DV.bool false, DV.int .i64 0, DV.int .i64 0, DV.bool false, DV.bool false, DV.int .i64 0, DV.int .i64 n, DV.nilsl]) [rdr s row col p1 0 0])) ((g5 /\ [DV.ptr 56 6 0 0, DV.int .i64 p, DV.str w, DV.int .i64 2, DV.int .i64 3, DV.int .i64 0] = [DV.ptr 56 6 0 0, DV.int .i64 p, DV.str w, DV.int .i64 2, DV.int .i64 3, DV.int .i64 0] /\ [rdr s row col p1 0 0] = [rdr s row col p1 0 0]) /\ Φ (Tr.dv t) [rdr s row col p2 0 0])) ((g5 /\ [DV.ptr 56 6 0 0, DV.int .i64 p, DV.str w, DV.int .i64 2, DV.int .i64 3, DV.int .i64 0] = [DV.ptr 56 6 0 0, DV.int .i64 p, DV.str w, DV.int .i64 2, DV.int .i64 3, DV.int .i64 0] /\ [rdr s row col p1 0 0] = [rdr s row col p1 0 0]) /\ Φ (Tr.dv t) [rdr s row col p2 0 0])))))) := by kernel_rfl
end Go.Det.Sea
end

section
namespace Go.Det.Sea
open Go Go.Det
theorem mem_cons (x : UInt8) (l : List UInt8) (c : Nat) : mem (x :: l) c = (Nat.beq x.toNat c || mem l c) := rfl
theorem ix_mem (x : UInt8) : ∀ l : List UInt8, decide (Lib.indexByte l x ≥ 0) = mem l x.toNat /\ (-1 <= Lib.indexByte l x)
  | [] => ⟨rfl, by simp [Lib.indexByte]⟩
  | b :: l => by
    obtain ⟨h1, h2⟩ := ix_mem x l
    rw [mem_cons]
    unfold Lib.indexByte
    cases hb : b == x with
    | true =>
      have : b = x := by simpa using hb
      subst this
      simp
    | false =>
      have hne : b ≠ x := by simpa using hb
      have hb' : Nat.beq b.toNat x.toNat = false := by
        cases hc : Nat.beq b.toNat x.toNat with
        | false => rfl
        | true => exact absurd (UInt8.toNat_inj.1 (Nat.eq_of_beq_eq_true hc)) hne
      rw [hb', Bool.false_or, ← h1]
      have hbx : ¬ (b = x) := hne
      by_cases hq : Lib.indexByte l x = -1
      · simp [hq]
      · have : 0 <= Lib.indexByte l x := by omega
        simp [hq]
        constructor <;> omega
section
variable {Pr Ow : Nat -> List DV -> DV -> Prop}
theorem go181 (s g : List UInt8) (row col e no : Int) (p : Nat) (hp' : p <= s.length) (Φ : DV -> List Blk -> Prop) (h : Φ (.bool (hp (s.drop p) g)) [rdr s row col p e no]) : GoC cfg Pr Ow 181 [.ptr 16 6 0 0, .str g] [rdr s row col p e no] Φ := by
  refine fn_of0 (E := E181) (envOK ⟨hpS_ok', trivial⟩ trivial trivial) rfl ?_
  rw [vc181, List.take_length]
  exact obB_of (decide_eq_true hp') h
theorem go180 (s : List UInt8) (hs : s.length <= 4000000000) (row col : Int) (p : Nat) (hp' : p <= s.length) (hd : p < s.length -> ¬ (48 <= byt s p /\ byt s p <= 57)) (hA : runA wrdP (s.drop p) = true) (Φ : DV -> List Blk -> Prop)
    (h : Φ (.str ((s.drop p).take (runN wrdP (s.drop p)))) [rdr s row col ((p + runN wrdP (s.drop p) : Nat) : Int) 0 0]) : GoC cfg Pr Ow 180 [.ptr 39 6 0 0] [rdr s row col p 0 0] Φ := by
  refine fn_of0 (E := E180 s row col p (p + runN wrdP (s.drop p)) ((s.drop p).take (runN wrdP (s.drop p)))) (envOK ⟨callE_ok fun _ => go111 s hs row col 0 0 p hp' wrdP rfl hA, trivial⟩ trivial trivial) rfl ?_
  rw [vc180]
  have rest : (True /\ [DV.ptr 41 6 0 0, DV.str wrdP] = [DV.ptr 41 6 0 0, DV.str wrdP] /\ [rdr s row col p 0 0] = [rdr s row col p 0 0]) /\ Φ (.str ((s.drop p).take (runN wrdP (s.drop p)))) [rdr s row col ((p + runN wrdP (s.drop p) : Nat) : Int) 0 0] := ⟨⟨trivial, rfl, rfl⟩, h⟩
  refine brB_of (fun h1 => ?_) (fun _ => rest)
  have hlt : p < s.length := by have := of_decide_eq_true h1; omega
  refine obB_of (decide_eq_true hlt) (brB_of (fun h2 => obB_of (decide_eq_true hlt) (brB_of (fun h3 => ?_) (fun _ => rest))) (fun _ => rest))
  have h2 := of_decide_eq_true h2
  have h3 := of_decide_eq_true h3
  exact absurd (show 48 <= byt s p /\ byt s p <= 57 from ⟨by unfold byt; omega, by unfold byt; omega⟩) (hd hlt)
theorem go150 (a : List UInt8) (y : UInt8) (Φ : DV -> List Blk -> Prop) (h : Φ (.tup [.str (cpF a [y]).1, .bool (cpF a [y]).2]) []) : GoC cfg Pr Ow 150 [.str a, .str [y]] [] Φ := by
  refine fn_of0 (E := E150 a [y] (cpF a [y])) (envOK ⟨callG_ok fun _ Φ h => ?_, trivial⟩ trivial trivial) rfl ?_
  · refine fn_of0 (E := E188) (envOK ⟨hpS_ok, trivial⟩ trivial trivial) rfl ?_
    rw [vc188, List.take_length]
    unfold cpF at h
    refine brB_of (fun h1 => ?_) (fun h1 => ?_)
    · have : hp a [y] = false := by simpa using h1
      rw [this] at h; exact h
    · have : hp a [y] = true := by simpa using h1
      rw [this] at h
      have hl := hp_len this
      exact obB_of (decide_eq_true hl) h
  · rw [vc150]
    exact ⟨trivial, rfl, h⟩
theorem go185 (a : List UInt8) (y : UInt8) (Φ : DV -> List Blk -> Prop) (h : Φ (.str (cpF a [y]).1) []) : GoC cfg Pr Ow 185 [.str a, .str [y]] [] Φ := by
  refine fn_of0 (E := E185 a [y] (cpF a [y]).1) (envOK ⟨callG_ok fun _ Φ h => ?_, trivial⟩ trivial trivial) rfl ?_
  · refine fn_of0 (E := E188) (envOK ⟨hpS_ok, trivial⟩ trivial trivial) rfl ?_
    rw [vc213, List.take_length]
    unfold cpF at h
    refine brB_of (fun h1 => ?_) (fun h1 => ?_)
    · rw [h1] at h
      have hl := hp_len h1
      exact obB_of (decide_eq_true hl) h
    · rw [h1] at h; exact h
  · rw [vc185]
    exact ⟨trivial, rfl, h⟩
theorem go190 (a : List UInt8) (hl : a.length <= 4000000000) (y : UInt8) (Φ : DV -> List Blk -> Prop) (h : Φ (.bool (hsF a [y])) []) : GoC cfg Pr Ow 190 [.str a, .str [y]] [] Φ := by
  refine fn_of0 E0_ok rfl ?_
  rw [vc190]
  unfold hsF at h
  by_cases hq : 1 <= a.length
  · rw [show decide ([y].length <= a.length) = true from decide_eq_true hq] at h
    refine obB_of ?_ (obB_of ?_ (obB_of ?_ ?_))
    · rw [Bool.or_eq_true]; exact .inl (inR64 (by omega))
    · rw [Bool.or_eq_true]; exact .inl (decide_eq_true (by omega))
    · rw [Bool.or_eq_true]; exact .inl (decide_eq_true (by omega))
    · have e1 : ((a.length : Int) - 1).toNat = a.length - 1 := by omega
      rw [e1, List.take_length]
      have e2 : decide ((a.length : Int) ≥ 1) = true := decide_eq_true (by omega)
      rw [e2]
      exact h
  · have h0 : a = [] := by cases a with | nil => rfl | cons _ _ => simp at hq
    subst h0
    exact h
theorem go152 (a : List UInt8) (hl : a.length <= 4000000000) (y : UInt8) (Φ : DV -> List Blk -> Prop) (h : Φ (.bool (hsF a [y])) []) : GoC cfg Pr Ow 152 [.str a, .str [y]] [] Φ := by
  refine fn_of0 (E := E152 a [y] (hsF a [y])) (envOK ⟨callG_ok fun _ => go190 a hl y, trivial⟩ trivial trivial) rfl ?_
  rw [vc152]
  exact ⟨trivial, rfl, h⟩
theorem go187 (a : List UInt8) (hl : a.length <= 4000000000) (y : UInt8) (Φ : DV -> List Blk -> Prop) (h : Φ (.tup [.str (csF a [y]).1, .bool (csF a [y]).2]) []) : GoC cfg Pr Ow 187 [.str a, .str [y]] [] Φ := by
  refine fn_of0 (E := E187 a [y] (csF a [y])) (envOK ⟨callG_ok fun _ Φ h => ?_, trivial⟩ trivial trivial) rfl ?_
  · refine fn_of0 (E := E152 a [y] (hsF a [y])) (envOK ⟨callG_ok fun _ => go190 a hl y, trivial⟩ trivial trivial) rfl ?_
    rw [vc215]
    unfold csF at h
    refine ⟨trivial, rfl, brB_of (fun h1 => ?_) (fun h1 => ?_)⟩
    · have : hsF a [y] = false := by simpa using h1
      rw [this] at h; exact h
    · have h1 : hsF a [y] = true := by simpa using h1
      rw [h1] at h
      have hq : 1 <= a.length := by
        unfold hsF at h1
        rw [Bool.and_eq_true] at h1
        exact of_decide_eq_true h1.1
      have e1 : ((a.length : Int) - 1).toNat = a.length - 1 := by omega
      refine obB_of (inR64 (by omega)) (obB_of (decide_eq_true (by omega)) (obB_of (decide_eq_true (by omega)) ?_))
      rw [e1]
      exact h
  · rw [vc187]
    exact ⟨trivial, rfl, h⟩
theorem idx112 (hix : SpecOK cfg Pr Ow 154 idxS) : SpecOK cfg Pr Ow 112 idxS := by
  intro xs ex k h
  unfold idxS at h
  split at h
  · refine fn_of0 (E := E112) (envOK ⟨hix, trivial⟩ trivial trivial) rfl ?_
    rw [vc112]; exact h
  · exact h.elim
theorem wrap_u8 {n : Nat} (h : n < 256) : IntKind.wrap .u8 (n : Int) = (n : Int) := by
  simp [IntKind.wrap, IntKind.bits, IntKind.signed]
  omega
theorem go138 (hix : SpecOK cfg Pr Ow 154 idxS) (set : List UInt8) (x : UInt8) (hx : x.toNat < 128) (Φ : DV -> List Blk -> Prop) (h : Φ (.int .i64 (Lib.indexByte set x)) []) : GoC cfg Pr Ow 138 [.str set, .int .i32 x.toNat] [] Φ := by
  refine fn_of0 (E := E138) (envOK ⟨idx112 hix, trivial⟩ trivial trivial) rfl ?_
  have e1 : decide ((0 : Int) <= (x.toNat : Int)) = true := decide_eq_true (by omega)
  have e2 : decide ((x.toNat : Int) < 128) = true := decide_eq_true (by omega)
  have e : Nat.toUInt8 (Int.toNat (IntKind.wrap .u8 ((x.toNat : Nat) : Int))) = x := by
    rw [wrap_u8 (by omega)]
    exact UInt8.ofNat_toNat
  rw [vc138, e1, e2, e]
  exact h
def idxI (set : List UInt8) : List UInt8 -> Nat -> Int
  | [], _ => -1
  | x :: l, i => bif mem set x.toNat then (i : Int) else idxI set l (i + 1)
theorem idxI_ge (set : List UInt8) : ∀ (l : List UInt8) (i : Nat), idxI set l i = -1 \/ 0 <= idxI set l i
  | [], _ => .inl rfl
  | x :: l, i => by
    unfold idxI
    cases mem set x.toNat with
    | true => exact .inr (by simp)
    | false => exact idxI_ge set l (i + 1)
theorem nt97 : ntOf cfg 97 = 55 := by kernel_rfl
theorem nd97 : nodupK (loops 0 (codeOf cfg 97)) = true := by kernel_rfl
theorem loop97 (hix : SpecOK cfg Pr Ow 154 idxS) (s set : List UInt8) {K : Ex -> St -> Prop} : ∀ (l : List UInt8) (j : Nat), s.drop j = l -> asc l = true -> F97 (idxI set l j) K -> GoL cfg Pr Ow 97 55 (bodyOf cfg 97 2) (hd97 s set j) K := by
  intro l
  induction l with
  | nil =>
    intro j hd _ hF
    have hge : ¬ j < s.length := fun h => by rw [List.drop_eq_getElem_cons h] at hd; cases hd
    refine round_of (E := E97b False 0 set 0) (envOK ⟨callG_ok fun h => h.elim, trivial⟩ trivial trivial) nt97 rfl (L := fun _ => False) (ks := [1, 45]) (bs := [45]) (ks2 := [4]) (bs2 := []) ?_ (fun _ h => h.elim)
    rw [vc97b]
    exact brB_of (fun h => absurd (of_decide_eq_true h) hge) (fun _ => hF)
  | cons x l ih =>
    intro j hd hA hF
    obtain ⟨hx, hlt, htl⟩ := byt_drop hd
    simp only [asc, List.all_cons, Bool.and_eq_true] at hA
    have hx128 : x.toNat < 128 := by have := Nat.le_of_ble_eq_true hA.1; omega
    refine round_of (E := E97b True x.toNat set (Lib.indexByte set x)) (envOK ⟨callG_ok fun _ => go138 hix set x hx128, trivial⟩ trivial trivial) nt97 rfl (L := fun st => mem set x.toNat = false /\ st = hd97 s set (j + 1)) (ks := [1, 45]) (bs := [45]) (ks2 := [4]) (bs2 := []) ?_ ?_
    · rw [vc97b]
      refine brB_of (fun _ => ⟨by rw [dec_ascii hlt (by rw [hx]; exact hx128), hx], trivial, rfl, ?_⟩) (fun h => absurd (decide_eq_true hlt) (by rw [h]; decide))
      rw [(ix_mem x set).1]
      refine brB_of (fun h => ?_) (fun h => ⟨h, rfl⟩)
      simp only [idxI, h, cond_true, F97] at hF
      rw [show decide (((j : Nat) : Int) ≥ 0) = true from decide_eq_true (by omega)] at hF
      exact hF
    · rintro _ ⟨h, rfl⟩
      simp only [idxI, h, cond_false] at hF
      exact ih (j + 1) htl hA.2 hF
theorem go97d (hix : SpecOK cfg Pr Ow 154 idxS) (s : List UInt8) (h8 : s.length <= 8) (hA : asc s = true) (Φ : DV -> List Blk -> Prop) (h : Φ (.int .i64 (idxI digL s 0)) []) : GoC cfg Pr Ow 97 [.str s, .str digL] [] Φ := by
  refine fn_of (E := E97 (fun st => st = hd97 s digL 0) (s.length : Int) (idxI digL s 0)) (envOK ⟨callG_ok fun _ Φ h => ?_, trivial⟩ trivial trivial) nt97 nd97 ?_ ?_
  · refine fn_of0 E0_ok rfl ?_
    rw [vc139, show decide ((s.length : Int) > 8) = false from decide_eq_false (by omega)]; exact h
  · intro b sp hl st k hk
    have hm := look_mem hl
    simp only [E97, List.mem_cons, Prod.mk.injEq, List.not_mem_nil, or_false] at hm
    obtain ⟨rfl, rfl⟩ := hm
    exact loopS_ok (fun st hst K hK => by subst hst; exact loop97 hix s digL s 0 rfl hA hK) hk
  · rw [vc97d]
    refine ⟨trivial, rfl, rfl, brB_of (fun _ => h) (fun h1 => ?_)⟩
    have h1 := of_decide_eq_false h1
    rcases idxI_ge digL s 0 with e | e
    · rw [e] at h; exact h
    · exact absurd e h1
theorem go97q (hix : SpecOK cfg Pr Ow 154 idxS) (s : List UInt8) (h8 : s.length <= 8) (hA : asc s = true) (Φ : DV -> List Blk -> Prop) (h : Φ (.int .i64 (idxI qutL s 0)) []) : GoC cfg Pr Ow 97 [.str s, .str qutL] [] Φ := by
  refine fn_of (E := E97 (fun st => st = hd97 s qutL 0) (s.length : Int) (idxI qutL s 0)) (envOK ⟨callG_ok fun _ Φ h => ?_, trivial⟩ trivial trivial) nt97 nd97 ?_ ?_
  · refine fn_of0 E0_ok rfl ?_
    rw [vc139, show decide ((s.length : Int) > 8) = false from decide_eq_false (by omega)]; exact h
  · intro b sp hl st k hk
    have hm := look_mem hl
    simp only [E97, List.mem_cons, Prod.mk.injEq, List.not_mem_nil, or_false] at hm
    obtain ⟨rfl, rfl⟩ := hm
    exact loopS_ok (fun st hst K hK => by subst hst; exact loop97 hix s qutL s 0 rfl hA hK) hk
  · rw [vc97q]
    refine ⟨trivial, rfl, rfl, brB_of (fun _ => h) (fun h1 => ?_)⟩
    have h1 := of_decide_eq_false h1
    rcases idxI_ge qutL s 0 with e | e
    · rw [e] at h; exact h
    · exact absurd e h1
theorem go225 (hix : SpecOK cfg Pr Ow 154 idxS) (s : List UInt8) (h8 : s.length <= 8) (hA : asc s = true) (Φ : DV -> List Blk -> Prop) (h : Φ (.bool (decide (idxI qutL s 0 ≥ 0))) []) : GoC cfg Pr Ow 225 [.str s, .str qutL] [] Φ := by
  refine fn_of0 (E := E225 s qutL (idxI qutL s 0)) (envOK ⟨callG_ok fun _ => go97q hix s h8 hA, trivial⟩ trivial trivial) rfl ?_
  rw [vc225]
  exact ⟨trivial, rfl, h⟩
def letB (n : Nat) : Bool := Nat.ble 65 n && Nat.ble n 90
theorem asD_get {n : Nat} (h : n < 256) : asD[n]? = some (.bool (letB n)) := by
  simp only [asD, List.getElem?_map, List.getElem?_range h, Option.map_some]; rfl
theorem go141 (x : UInt8) (Φ : DV -> List Blk -> Prop) (h : Φ (.bool (letB x.toNat)) [.box asD]) : GoC cfg Pr Ow 141 [.ptr 10 256 0 0, .int .u8 x.toNat] [.box asD] Φ := by
  have hx : x.toNat < 256 := UInt8.toNat_lt x
  refine fn_of0 (E := E141 (letB x.toNat)) (envOK trivial trivial trivial) rfl ?_
  rw [vc141]
  refine obB_of (decide_eq_true hx) (obB_of (decide_eq_true (by omega)) ⟨⟨⟨rfl, rfl⟩, ?_⟩, h⟩)
  have := asD_get hx
  have e : 0 + Int.toNat ((x.toNat : Nat) : Int) * (256, (Ti.mk Td.bool 1 1 [DV.bool false]).size).snd = x.toNat := by
    show 0 + Int.toNat ((x.toNat : Nat) : Int) * 1 = _
    omega
  rw [e]; exact this
def trimB : List UInt8 -> List UInt8
  | [] => []
  | x :: l => bif letB x.toNat then trimB l else x :: l
theorem nt236 : ntOf cfg 236 = 16 := by kernel_rfl
theorem nd236 : nodupK (loops 0 (codeOf cfg 236)) = true := by kernel_rfl
theorem loop236 {K : Ex -> St -> Prop} : ∀ (l : List UInt8), F236 (trimB l) K -> GoL cfg Pr Ow 236 16 (bodyOf cfg 236 0) (hd236 l) K := by
  intro l
  induction l with
  | nil =>
    intro hF
    refine round_of (E := E236b False 0 false) (envOK ⟨callE_ok fun h => h.elim, trivial⟩ trivial trivial) nt236 rfl (L := fun _ => False) (ks := [0, 1]) (bs := []) (ks2 := [0]) (bs2 := []) ?_ (fun _ h => h.elim)
    rw [vc236b]
    exact brB_of (fun h => by simp at h) (fun _ => hF)
  | cons x l ih =>
    intro hF
    refine round_of (E := E236b True x.toNat (letB x.toNat)) (envOK ⟨callE_ok fun _ => go141 x, trivial⟩ trivial trivial) nt236 rfl (L := fun st => letB x.toNat = true /\ st = hd236 l) (ks := [0, 1]) (bs := []) (ks2 := [0]) (bs2 := []) ?_ ?_
    · rw [vc236b]
      refine brB_of (fun _ => obB_of (decide_eq_true (by simp)) ⟨⟨trivial, rfl, rfl⟩, brB_of (fun h => ?_) (fun h => ?_)⟩) (fun h => ?_)
      · have : letB x.toNat = false := by simpa using h
        simp only [trimB, this, cond_false] at hF
        exact hF
      · have h1 : letB x.toNat = true := by simpa using h
        refine obB_of (decide_eq_true (by simp)) ⟨h1, ?_⟩
        rw [List.take_length]; rfl
      · have := of_decide_eq_false h; simp at this
    · rintro _ ⟨h, rfl⟩
      simp only [trimB, h, cond_true] at hF
      exact ih hF
theorem go236 (s : List UInt8) (Φ : DV -> List Blk -> Prop) (h : Φ (.str (trimB s)) [.box asD]) : GoC cfg Pr Ow 236 [.str s, .ptr 16 256 0 0] [.box asD] Φ := by
  refine fn_of (E := E236 (fun st => st = hd236 s) (trimB s)) (envOK trivial trivial trivial) nt236 nd236 ?_ ?_
  · intro b sp hl st k hk
    obtain ⟨rfl, rfl⟩ := look_one rfl hl
    exact loopS_ok (fun st hst K hK => by subst hst; exact loop236 s hK) hk
  · rw [vc236]
    exact ⟨rfl, h⟩
theorem go224 (h140 : ∀ Φ : DV -> List Blk -> Prop, Φ (.tup [.agg asD, .bool true]) [] -> GoC cfg Pr Ow 140 [.str letP] [] Φ) (s : List UInt8) (Φ : DV -> List Blk -> Prop) (h : Φ (.str (trimB s)) []) : GoC cfg Pr Ow 224 [.str s, .str letP] [] Φ := by
  refine fn_of0 (E := E224 s (trimB s)) (envOK ⟨callG_ok fun _ => h140, callE_ok fun _ => go236 s, trivial⟩ trivial trivial) rfl ?_
  rw [vc224]
  refine brB_of (fun h1 => ?_) (fun _ => ⟨trivial, rfl, ⟨trivial, rfl, rfl⟩, h⟩)
  have : s = [] := by simpa using h1
  subst this
  exact h
end
end Go.Det.Sea
end

section
namespace Go.Det.Sea
open Go Go.Det
def hd1 (c : Nat) : Bool := hdOK c && (!(Nat.beq c 45) && !(Nat.beq c 43))
theorem hd1_of {x : UInt8} (h : (48 <= x.toNat /\ x.toNat <= 57) \/ (65 <= x.toNat /\ x.toNat <= 90) \/ x.toNat = 34 \/ x.toNat = 35 \/ x.toNat = 36 \/ x.toNat = 40) : hd1 x.toNat = true := by
  have nb : ∀ a : Nat, a ≠ x.toNat -> Nat.beq a x.toNat = false := by
    intro a ha
    cases hb : Nat.beq a x.toNat with
    | false => rfl
    | true => exact absurd (Nat.eq_of_beq_eq_true hb) ha
  have nb' : ∀ a : Nat, x.toNat ≠ a -> Nat.beq x.toNat a = false := by
    intro a ha
    cases hb : Nat.beq x.toNat a with
    | false => rfl
    | true => exact absurd (Nat.eq_of_beq_eq_true hb) ha
  unfold hd1 hdOK mem
  simp only [List.any_cons, List.any_nil, Bool.or_false]
  rw [show (32 : UInt8).toNat = 32 from rfl, show (37 : UInt8).toNat = 37 from rfl, show (41 : UInt8).toNat = 41 from rfl, show (44 : UInt8).toNat = 44 from rfl, show (61 : UInt8).toNat = 61 from rfl, show (62 : UInt8).toNat = 62 from rfl]
  rw [nb 32 (by omega), nb 37 (by omega), nb 41 (by omega), nb 44 (by omega), nb 61 (by omega), nb 62 (by omega), nb' 45 (by omega), nb' 43 (by omega)]
  rfl
theorem hd1_at {c : Nat} (h : hd1 c = true) : hdOK c = true /\ Nat.beq c 45 = false /\ Nat.beq c 43 = false := by
  simp only [hd1, Bool.and_eq_true, Bool.not_eq_true'] at h
  exact h
theorem cons_of {l : List UInt8} (h : l ≠ []) : ∃ x t, l = x :: t := by
  cases l with
  | nil => exact absurd rfl h
  | cons x t => exact ⟨x, t, rfl⟩
theorem RefW.hd {row col : Int} {w : List UInt8} {R : Rf} (h : RefW row col w R) : ∃ x l, w = x :: l /\ hd1 x.toNat = true := by
  cases h with
  | @mk L D r c rr rc h =>
    cases rc with
    | false => exact ⟨36, _, rfl, hd1_of (by simp)⟩
    | true =>
      obtain ⟨x, t, e⟩ := cons_of h.l0
      refine ⟨x, t ++ (dol rr ++ D), by rw [e]; rfl, hd1_of ?_⟩
      have := h.ll
      rw [e, List.all_cons, Bool.and_eq_true] at this
      exact .inr (.inl (isLet_at this.1))
theorem LeafT.hd {row col : Int} {uE : List UInt8 -> Int} {T : List UInt8} {t : Tr} (h : LeafT row col uE T t) : ∃ x l, T = x :: l /\ hd1 x.toNat = true := by
  cases h with
  | @num wh bh h =>
    obtain ⟨x, t, e⟩ := cons_of h.w0
    refine ⟨x, t ++ ptT bh, by rw [e]; rfl, hd1_of ?_⟩
    have := h.wd
    rw [e, List.all_cons, Bool.and_eq_true] at this
    exact .inl (isDig_at this.1)
  | str _ _ => exact ⟨34, _, rfl, rfl⟩
  | @flt i hi =>
    match i, hi with
    | 0, _ => exact ⟨35, _, rfl, rfl⟩
    | 1, _ => exact ⟨35, _, rfl, rfl⟩
    | 2, _ => exact ⟨35, _, rfl, rfl⟩
    | 3, _ => exact ⟨35, _, rfl, rfl⟩
    | 4, _ => exact ⟨35, _, rfl, rfl⟩
    | 5, _ => exact ⟨35, _, rfl, rfl⟩
    | 6, _ => exact ⟨35, _, rfl, rfl⟩
    | n + 7, h => omega
  | tru b => cases b <;> exact ⟨_, _, rfl, rfl⟩
  | name _ => exact ⟨78, _, rfl, rfl⟩
  | cell h => exact h.hd
  | area h _ =>
    obtain ⟨x, l, e, hx⟩ := h.hd
    exact ⟨x, _, by rw [e]; rfl, hx⟩
  | scell _ _ => exact ⟨83, _, rfl, rfl⟩
  | sarea _ _ _ => exact ⟨83, _, rfl, rfl⟩
theorem fn_hd : ∀ w ∈ fnL, (match w with | x :: _ => hd1 x.toNat | [] => false) = true := by
  have : (fnL.all fun w => match w with | x :: _ => hd1 x.toNat | [] => false) = true := by kernel_rfl
  exact List.all_eq_true.1 this
theorem fnNm_mem {i : Nat} (h : i < 30) : fnNm i ∈ fnL := by
  unfold fnNm
  rw [List.getD_eq_getElem?_getD, List.getElem?_eq_getElem (show i < fnL.length from h)]
  exact List.getElem_mem _
theorem fnNm_hd {i : Nat} (h : i < 30) : ∃ x l, fnNm i = x :: l /\ hd1 x.toNat = true := by
  have := fn_hd _ (fnNm_mem h)
  generalize fnNm i = w at *
  cases w with
  | nil => cases this
  | cons x l => exact ⟨x, l, rfl, this⟩
section
variable {s : List UInt8} {row col : Int} {uE : List UInt8 -> Int}
theorem leaf_rd {T : List UInt8} {t : Tr} (h : LeafT row col uE T t) : RdT s (leafG s row col uE) (headG s) T t 8 := by
  obtain ⟨x, l, e, hx⟩ := h.hd
  obtain ⟨h1, h2, h3⟩ := hd1_at hx
  refine .atom ⟨x, l, e, h1, h2, h3⟩ fun q rest hd hs => ?_
  cases hp : isPl t with
  | false => exact .inl ⟨T, rest, hd, hs, by rw [hp]; rfl, h⟩
  | true => exact .inr ⟨T, rest, hd, hs, by rw [hp]; rfl, h⟩
def numN (t : Tr) : Prop := t.kind = 1 -> t.v.kind = 1 -> -9223372036854775808 < t.v.m /\ t.v.m < 9223372036854775808
mutual
def numT : Tr -> Prop
  | .mk k v a b s o ks => numN (.mk k v a b s o ks) /\ numTs ks
def numTs : List Tr -> Prop
  | [] => True
  | t :: l => numT t /\ numTs l
end
theorem tmod_ne {m : Int} (h : ¬ Int.tmod m 10 = 0) : m.natAbs % 10 ≠ 0 := by
  intro h'
  apply h
  have : (10 : Int) ∣ m := by
    rw [← Int.dvd_natAbs]
    exact Int.natCast_dvd_natCast.2 (Nat.dvd_of_mod_eq_zero h')
  exact Int.tmod_eq_zero_of_dvd this
theorem decE_at {m sc : Int} (h : decE m sc = 0) : 0 <= sc /\ sc <= 9 /\ (0 < sc -> m.natAbs % 10 ≠ 0) := by
  unfold decE at h
  cases hb : (decide (sc < 0) || decide (sc > 9) || decide (sc > 0) && Int.tmod m 10 == 0) with
  | true => rw [hb] at h; simp at h
  | false =>
    simp only [Bool.or_eq_false_iff, decide_eq_false_iff_not, Bool.and_eq_false_iff, beq_eq_false_iff_ne] at hb
    refine ⟨by omega, by omega, fun h0 => tmod_ne ?_⟩
    rcases hb.2 with h' | h'
    · exact absurd h0 h'
    · exact h'
theorem const_rd {v : Vl} (hv : valE uE v = 0) (h0 : v.kind ≠ 0) (hn : v.kind = 1 -> -9223372036854775808 < v.m /\ v.m < 9223372036854775808) (hs : v.txt.length <= 3000) :
    (v.kind = 1 /\ v.m < 0 /\ RdT s (leafG s row col uE) (headG s) (constT v) (unT 1 (cNum (-v.m) v.s)) 6) \/ (¬ (v.kind = 1 /\ v.m < 0) /\ RdT s (leafG s row col uE) (headG s) (constT v) (.mk 1 v r0 r0 0 0 []) 8) := by
  unfold valE at hv
  cases h1 : decide (v.kind < 0) with
  | true => rw [h1] at hv; simp at hv
  | false =>
  simp only [h1, cond_false] at hv
  cases h2 : decide (v.kind > 4) with
  | true => rw [h2] at hv; simp at hv
  | false =>
  simp only [h2, cond_false] at hv
  cases h3 : vlEq v (ownV v) with
  | false => rw [h3] at hv; simp at hv
  | true =>
  simp only [h3, Bool.not_true, cond_false] at hv
  have e := vlEq_eq h3
  have h1 := of_decide_eq_false h1
  have h2 := of_decide_eq_false h2
  obtain ⟨k, m, sc, txt, b, er⟩ := v
  simp only at *
  have hk : k = 1 \/ k = 2 \/ k = 3 \/ k = 4 := by omega
  rcases hk with rfl | rfl | rfl | rfl
  · simp only [ownV, cond_true, Vl.mk.injEq, beq_self_eq_true, true_and] at e
    obtain ⟨rfl, rfl, rfl⟩ := e
    simp only [beq_self_eq_true, cond_true] at hv
    obtain ⟨d1, d2, d3⟩ := decE_at hv
    obtain ⟨n1, n2⟩ := hn rfl
    obtain ⟨wh, bh, u1, u2, u3, u4⟩ := uDec_ok (n := m.natAbs) (k := sc.toNat) (by omega) (by omega) (fun h => d3 (by omega))
    have hl := leaf_rd (s := s) (row := row) (col := col) (uE := uE) (.num u2)
    rw [← u1, u3, u4] at hl
    by_cases hm : m < 0
    · refine .inl ⟨rfl, hm, ?_⟩
      have e2 : constT ⟨1, m, sc, [], false, 0⟩ = 45 :: uDecT m.natAbs sc.toNat := by
        simp [constT, valT, decT, decide_eq_true hm]
      rw [e2]
      have := RdT.neg (by omega) hl
      rw [show ((m.natAbs : Nat) : Int) = -m by omega, show ((sc.toNat : Nat) : Int) = sc by omega] at this
      exact this
    · refine .inr ⟨fun h => hm h.2, ?_⟩
      have e2 : constT ⟨1, m, sc, [], false, 0⟩ = uDecT m.natAbs sc.toNat := by
        simp [constT, valT, decT, decide_eq_false hm]
      rw [e2]
      rw [show ((m.natAbs : Nat) : Int) = m by omega, show ((sc.toNat : Nat) : Int) = sc by omega] at hl
      exact hl
  · simp [ownV] at e
    obtain ⟨rfl, rfl, rfl, rfl⟩ := e
    simp at hv
    exact .inr ⟨fun h => (by cases h.1), leaf_rd (.str hv hs)⟩
  · simp [ownV] at e
    obtain ⟨rfl, rfl, rfl, rfl⟩ := e
    exact .inr ⟨fun h => (by cases h.1), leaf_rd (.tru b)⟩
  · simp [ownV] at e
    obtain ⟨rfl, rfl, rfl, rfl⟩ := e
    refine .inr ⟨fun h => (by cases h.1), ?_⟩
    have : er = 0 \/ er = 7 \/ er = 15 \/ er = 23 \/ er = 29 \/ er = 36 \/ er = 42 := by
      refine Decidable.byContradiction fun hc => ?_
      have e0 : nameF er = [] := ?e0
      · rw [e0] at hv
        simp at hv
      unfold nameF
      have b : ∀ k : Int, er ≠ k -> (er == k) = false := fun k h => by rw [beq_eq_false_iff_ne]; exact h
      rw [b 0 (by omega), b 7 (by omega), b 15 (by omega), b 23 (by omega), b 29 (by omega), b 36 (by omega), b 42 (by omega)]
      rfl
    rcases this with rfl | rfl | rfl | rfl | rfl | rfl | rfl
    · exact leaf_rd (LeafT.flt (i := 0) (by omega))
    · exact leaf_rd (LeafT.flt (i := 1) (by omega))
    · exact leaf_rd (LeafT.flt (i := 2) (by omega))
    · exact leaf_rd (LeafT.flt (i := 3) (by omega))
    · exact leaf_rd (LeafT.flt (i := 4) (by omega))
    · exact leaf_rd (LeafT.flt (i := 5) (by omega))
    · exact leaf_rd (LeafT.flt (i := 6) (by omega))
def RdX (s : List UInt8) (row col : Int) (uE : List UInt8 -> Int) (t : Tr) : Prop := (1 <= bindI t /\ bindI t <= 8) /\ RdT s (leafG s row col uE) (headG s) (toldT row col t) (brT t) (bindI t).toNat
theorem wrap_rd {k : Tr} (h : RdX s row col uE k) {w : Int} (hw : w <= 8) : ∃ b : Nat, 1 <= b /\ w <= b /\ RdT s (leafG s row col uE) (headG s) (wrapT k (toldT row col k) w) (wrapB k (brT k) w) b := by
  obtain ⟨⟨h1, h2⟩, h3⟩ := h
  unfold wrapT wrapB
  by_cases hb : bindI k < w
  · rw [decide_eq_true hb]
    exact ⟨8, by omega, by omega, .paren (by omega) h3⟩
  · rw [decide_eq_false hb]
    exact ⟨(bindI k).toNat, by omega, by omega, h3⟩
theorem bd_le5 (i : Nat) : bd i <= 5 := by
  unfold bd
  rcases i with _ | _ | _ | _ | _ | _ | _ | _ | _ | _ | _ | _ | i <;> simp
theorem binds_o {o : Int} (h1 : 1 <= o) (h2 : o <= 12) : ∃ i : Nat, i < 12 /\ o = ((i + 1 : Nat) : Int) /\ bindsI o = (bd i : Int) /\ 1 <= bd i /\ bd i <= 5 := by
  refine ⟨o.toNat - 1, by omega, by omega, ?_, ?_, bd_le5 _⟩
  · have := bindsI_bd (o.toNat - 1) (by omega)
    rw [show ((o.toNat - 1 + 1 : Nat) : Int) = o by omega] at this
    exact this
  · have : ∀ i, i < 12 -> 1 <= bd i := by
      intro i hi
      match i, hi with
      | 0, _ => decide | 1, _ => decide | 2, _ => decide | 3, _ => decide | 4, _ => decide | 5, _ => decide | 6, _ => decide | 7, _ => decide | 8, _ => decide | 9, _ => decide | 10, _ => decide | 11, _ => decide
      | n + 12, h => omega
    exact this _ (by omega)
mutual
def shT : Tr -> Prop
  | .mk k v a b s o ks => v.txt.length <= 3000 /\ shTs ks
def shTs : List Tr -> Prop
  | [] => True
  | t :: l => shT t /\ shTs l
end
theorem numTs_mem : ∀ {l : List Tr} {t : Tr}, numTs l -> t ∈ l -> numT t
  | x :: l, t, h, hm => by
    simp only [numTs] at h
    simp only [List.mem_cons] at hm
    rcases hm with rfl | hm
    · exact h.1
    · exact numTs_mem h.2 hm
theorem shTs_mem : ∀ {l : List Tr} {t : Tr}, shTs l -> t ∈ l -> shT t
  | x :: l, t, h, hm => by
    simp only [shTs] at h
    simp only [List.mem_cons] at hm
    rcases hm with rfl | hm
    · exact h.1
    · exact shTs_mem h.2 hm
mutual
theorem told_rd : ∀ t : Tr, okT uE t -> numT t -> shT t -> RdX s row col uE t
  | .mk k v a b sh op ks, hok, hnum, hsh => by
    simp only [okT] at hok
    simp only [numT] at hnum
    simp only [shT] at hsh
    have ih := told_rds ks hok.2 hnum.2 hsh.2
    obtain ⟨hk, hal, hval, har, hsheet, hcnt⟩ := part_split hok.1
    obtain ⟨e1, e2, e3, e4, e5, e6⟩ := alone_eq hal
    simp only [Tr.kind, Tr.v, Tr.a, Tr.b, Tr.sheet, Tr.op, Tr.kids] at hk hval har hsheet
    have hra : refE a = 0 /\ refE b = 0 := by
      have r12 : ∀ r : Rf, refE r = 0 \/ refE r = 12 := by
        intro r; unfold refE; cases goodB r.row r.col
        · exact .inr rfl
        · exact .inl rfl
      unfold areaE at har
      rcases r12 a with h | h <;> rcases r12 b with h' | h' <;> rw [h, h'] at har <;> simp at har
      exact ⟨h, h'⟩
    have hks : k = 1 \/ k = 2 \/ k = 3 \/ k = 4 \/ k = 5 \/ k = 6 \/ k = 7 \/ k = 8 \/ k = 9 \/ k = 10 := by omega
    rcases hks with rfl | rfl | rfl | rfl | rfl | rfl | rfl | rfl | rfl | rfl
    · simp [ownT, Tr.kind, Tr.v, Tr.a, Tr.b, Tr.sheet, Tr.op, Tr.kids] at e2 e3 e4 e5 e6
      subst e2 e3 e4 e5
      obtain rfl : ks = [] := by cases ks with | nil => rfl | cons _ _ => simp at e6
      obtain ⟨hv1, hv2⟩ := hval rfl
      have hnn := fun h => hnum.1 rfl h
      simp only [Tr.v] at hnn
      rcases const_rd (s := s) (row := row) (col := col) hv1 hv2 hnn hsh.1 with ⟨h1, h2, h3⟩ | ⟨h1, h3⟩
      · have eb : bindI (.mk 1 v r0 r0 0 0 []) = 6 := by simp [bindI, Tr.kind, Tr.v, h1, h2]
        have et : brT (.mk 1 v r0 r0 0 0 []) = unT 1 (cNum (-v.m) v.s) := by simp [brT, h1, h2]
        have ex : toldT row col (.mk 1 v r0 r0 0 0 []) = constT v := by simp [toldT]
        unfold RdX
        rw [eb, et, ex]
        exact ⟨by omega, h3⟩
      · have hb : (v.kind == 1 && decide (v.m < 0)) = false := by
          rw [Bool.and_eq_false_iff]
          by_cases hc : v.kind = 1
          · exact .inr (decide_eq_false fun h => h1 ⟨hc, h⟩)
          · exact .inl (by rw [beq_eq_false_iff_ne]; exact hc)
        have eb : bindI (.mk 1 v r0 r0 0 0 []) = 8 := by
          have : bindI (.mk 1 v r0 r0 0 0 []) = (bif (v.kind == 1 && decide (v.m < 0)) then 6 else 8) := rfl
          rw [this, hb]; rfl
        have et : brT (.mk 1 v r0 r0 0 0 []) = .mk 1 v r0 r0 0 0 [] := by
          have : brT (.mk 1 v r0 r0 0 0 []) = (bif (v.kind == 1 && decide (v.m < 0)) then unT 1 (cNum (-v.m) v.s) else .mk 1 v r0 r0 0 0 []) := rfl
          rw [this, hb]; rfl
        have ex : toldT row col (.mk 1 v r0 r0 0 0 []) = constT v := by simp [toldT]
        unfold RdX
        rw [eb, et, ex]
        exact ⟨by omega, h3⟩
    · simp [ownT, Tr.kind, Tr.v, Tr.a, Tr.b, Tr.sheet, Tr.op, Tr.kids] at e1 e3 e4 e5 e6
      subst e1 e3 e4 e5
      obtain rfl : ks = [] := by cases ks with | nil => rfl | cons _ _ => simp at e6
      exact ⟨⟨by simp [bindI, Tr.kind], by simp [bindI, Tr.kind]⟩, leaf_rd (.cell (place_ok row col hra.1))⟩
    · simp [ownT, Tr.kind, Tr.v, Tr.a, Tr.b, Tr.sheet, Tr.op, Tr.kids] at e1 e4 e5 e6
      subst e1 e4 e5
      obtain rfl : ks = [] := by cases ks with | nil => rfl | cons _ _ => simp at e6
      exact ⟨⟨by simp [bindI, Tr.kind], by simp [bindI, Tr.kind]⟩, leaf_rd (.area (place_ok row col hra.1) (place_ok row col hra.2))⟩
    · simp [ownT, Tr.kind, Tr.v, Tr.a, Tr.b, Tr.sheet, Tr.op, Tr.kids] at e1 e3 e5 e6
      subst e1 e3 e5
      obtain rfl : ks = [] := by cases ks with | nil => rfl | cons _ _ => simp at e6
      obtain ⟨n, rfl⟩ : ∃ n : Nat, sh = n := ⟨sh.toNat, by omega⟩
      refine ⟨⟨by simp [bindI, Tr.kind], by simp [bindI, Tr.kind]⟩, ?_⟩
      have := leaf_rd (s := s) (uE := uE) (.scell (row := row) (col := col) (n := n) (by omega) (place_ok row col hra.1))
      have ex : toldT row col (.mk 4 v0 a r0 n 0 []) = 83 :: (Lib.decDigits (n + 1) ++ 33 :: placeT row col a) := by
        simp only [toldT, sheetT, Lib.itoa]
        rw [if_neg (by omega), show ((n : Int) + 1).toNat = n + 1 by omega]
        simp
      rw [ex]
      exact this
    · simp [ownT, Tr.kind, Tr.v, Tr.a, Tr.b, Tr.sheet, Tr.op, Tr.kids] at e1 e5 e6
      subst e1 e5
      obtain rfl : ks = [] := by cases ks with | nil => rfl | cons _ _ => simp at e6
      obtain ⟨n, rfl⟩ : ∃ n : Nat, sh = n := ⟨sh.toNat, by omega⟩
      refine ⟨⟨by simp [bindI, Tr.kind], by simp [bindI, Tr.kind]⟩, ?_⟩
      have := leaf_rd (s := s) (uE := uE) (.sarea (row := row) (col := col) (n := n) (by omega) (place_ok row col hra.1) (place_ok row col hra.2))
      have ex : toldT row col (.mk 5 v0 a b n 0 []) = 83 :: (Lib.decDigits (n + 1) ++ 33 :: (placeT row col a ++ 58 :: placeT row col b)) := by
        simp only [toldT, sheetT, Lib.itoa]
        rw [if_neg (by omega), show ((n : Int) + 1).toNat = n + 1 by omega]
        simp
      rw [ex]
      exact this
    · simp [ownT, Tr.kind, Tr.v, Tr.a, Tr.b, Tr.sheet, Tr.op, Tr.kids] at e1 e2 e3 e4 e6
      subst e1 e2 e3 e4
      obtain rfl : ks = [] := by cases ks with | nil => rfl | cons _ _ => simp at e6
      have ho : 0 <= op /\ op <= 1023 := by
        have h := hcnt
        simp [countsB, Tr.kind, Tr.op] at h
        exact ⟨of_decide_eq_true h.1, of_decide_eq_true h.2⟩
      obtain ⟨n, rfl⟩ : ∃ n : Nat, op = n := ⟨op.toNat, by omega⟩
      refine ⟨⟨by simp [bindI, Tr.kind], by simp [bindI, Tr.kind]⟩, ?_⟩
      have := leaf_rd (s := s) (uE := uE) (.name (row := row) (col := col) (n := n) (by omega))
      have ex : toldT row col (.mk 6 v0 r0 r0 0 n []) = 78 :: (Lib.decDigits n ++ [39]) := by
        simp only [toldT, Lib.itoa]
        rw [if_neg (by omega), show ((n : Int)).toNat = n by omega]
        simp
      rw [ex]
      exact this
    · simp [ownT, Tr.kind, Tr.v, Tr.a, Tr.b, Tr.sheet, Tr.op, Tr.kids] at e1 e2 e3 e4
      subst e1 e2 e3 e4
      have ho : (1 <= op /\ op <= 3) /\ (ks.length : Int) = 1 := by
        have h := hcnt
        simp [countsB, Tr.kind, Tr.op, Tr.kids] at h
        exact ⟨⟨of_decide_eq_true h.1.1, of_decide_eq_true h.1.2⟩, h.2⟩
      obtain ⟨x, rfl⟩ : ∃ x, ks = [x] := by
        match ks, ho.2 with
        | [x], _ => exact ⟨x, rfl⟩
        | [], h => simp at h
        | _ :: _ :: _, h => simp at h; omega
      have hx := ih x (by simp)
      have hop : op = 1 \/ op = 2 \/ op = 3 := by omega
      rcases hop with rfl | rfl | rfl
      · obtain ⟨b, b1, b2, hb⟩ := wrap_rd hx (w := 6) (by omega)
        exact ⟨⟨by simp [bindI, Tr.kind, Tr.op], by simp [bindI, Tr.kind, Tr.op]⟩, .neg (by omega) hb⟩
      · obtain ⟨b, b1, b2, hb⟩ := wrap_rd hx (w := 6) (by omega)
        exact ⟨⟨by simp [bindI, Tr.kind, Tr.op], by simp [bindI, Tr.kind, Tr.op]⟩, .pos (by omega) hb⟩
      · obtain ⟨b, b1, b2, hb⟩ := wrap_rd hx (w := 7) (by omega)
        exact ⟨⟨by simp [bindI, Tr.kind, Tr.op], by simp [bindI, Tr.kind, Tr.op]⟩, .pct (by omega) hb⟩
    · simp [ownT, Tr.kind, Tr.v, Tr.a, Tr.b, Tr.sheet, Tr.op, Tr.kids] at e1 e2 e3 e4
      subst e1 e2 e3 e4
      have ho : (1 <= op /\ op <= 12) /\ (ks.length : Int) = 2 := by
        have h := hcnt
        simp [countsB, Tr.kind, Tr.op, Tr.kids] at h
        exact ⟨⟨of_decide_eq_true h.1.1, of_decide_eq_true h.1.2⟩, h.2⟩
      obtain ⟨x, y, rfl⟩ : ∃ x y, ks = [x, y] := by
        match ks, ho.2 with
        | [x, y], _ => exact ⟨x, y, rfl⟩
        | [], h => simp at h
        | [_], h => simp at h
        | _ :: _ :: _ :: _, h => simp at h; omega
      obtain ⟨i, hi, hoi, hbi, hb1, hb5⟩ := binds_o ho.1.1 ho.1.2
      have hl : leftI op <= 8 /\ bindsI op <= leftI op := by
        unfold leftI
        cases h5 : bindsI op == 5 with
        | true => have : bindsI op = 5 := by simpa using h5
                  simp only [cond_true]; omega
        | false => simp only [cond_false]; omega
      obtain ⟨b, b1, b2, hb⟩ := wrap_rd (ih x (by simp)) (w := leftI op) hl.1
      obtain ⟨b', b1', b2', hb'⟩ := wrap_rd (ih y (by simp)) (w := bindsI op + 1) (by omega)
      have hbI : bindI (.mk 8 v0 r0 r0 0 op [x, y]) = bindsI op := by simp [bindI, Tr.kind, Tr.op]
      have ex : toldT row col (.mk 8 v0 r0 r0 0 op [x, y]) = wrapT x (toldT row col x) (leftI op) ++ (sgn i ++ wrapT y (toldT row col y) (bindsI op + 1)) := by
        have : op.toNat - 1 = i := by omega
        simp [toldT, toldTs, this]
      have et : brT (.mk 8 v0 r0 r0 0 op [x, y]) = biT ((i + 1 : Nat) : Int) (wrapB x (brT x) (leftI op)) (wrapB y (brT y) (bindsI op + 1)) := by
        rw [← hoi]; simp [brT, brTs]
      unfold RdX
      rw [hbI, ex, et]
      refine ⟨by omega, ?_⟩
      have := RdT.bin hi hb hb' (by omega) (by omega)
      rw [show (bindsI op).toNat = bd i by omega]
      exact this
    · simp [ownT, Tr.kind, Tr.v, Tr.a, Tr.b, Tr.sheet, Tr.op, Tr.kids] at e1 e2 e3 e4
      subst e1 e2 e3 e4
      have ho : (0 <= op /\ op <= 29) /\ (ks.length : Int) <= 30 := by
        have h := hcnt
        simp [countsB, Tr.kind, Tr.op, Tr.kids] at h
        exact ⟨⟨of_decide_eq_true h.1.1, of_decide_eq_true h.1.2⟩, of_decide_eq_true h.2⟩
      have hi : op.toNat < 30 := by omega
      obtain ⟨c, l, ec, hc⟩ := fnNm_hd hi
      obtain ⟨c1, c2, c3⟩ := hd1_at hc
      refine ⟨⟨by simp [bindI, Tr.kind], by simp [bindI, Tr.kind]⟩, ?_⟩
      have := RdT.call (s := s) (leaf := leafG s row col uE) (head := headG s) (op := op) (nm := fnNm op.toNat) ⟨c, l, ec, c1, c2, c3⟩ (fun q rest hd => ⟨op.toNat, rest, hi, hd, by omega, rfl⟩)
        (ks.map fun x => (toldT row col x, brT x)) (fun x hx => ?_) (by rw [List.length_map]; omega)
      · rw [List.map_map, List.map_map] at this
        have ex : toldT row col (.mk 9 v0 r0 r0 0 op ks) = fnNm op.toNat ++ (40 :: (comma (ks.map (toldT row col)) ++ [41])) := by simp [toldT, toldTs_eq]
        have et : brT (.mk 9 v0 r0 r0 0 op ks) = caT op (ks.map brT) := by simp [brT, brTs_eq]
        rw [ex, et]
        exact this
      · rw [List.mem_map] at hx
        obtain ⟨y, hy, rfl⟩ := hx
        obtain ⟨⟨h1, h2⟩, h3⟩ := ih y hy
        exact ⟨_, by omega, h3⟩
    · simp [ownT, Tr.kind, Tr.v, Tr.a, Tr.b, Tr.sheet, Tr.op, Tr.kids] at e1 e2 e3 e4 e5
      subst e1 e2 e3 e4 e5
      have ho : (ks.length : Int) = 1 := by simpa [countsB, Tr.kind, Tr.op, Tr.kids] using hcnt
      obtain ⟨x, rfl⟩ : ∃ x, ks = [x] := by
        match ks, ho with
        | [x], _ => exact ⟨x, rfl⟩
        | [], h => simp at h
        | _ :: _ :: _, h => simp at h; omega
      obtain ⟨⟨h1, h2⟩, h3⟩ := ih x (by simp)
      exact ⟨⟨by simp [bindI, Tr.kind], by simp [bindI, Tr.kind]⟩, .paren (by omega) h3⟩
theorem told_rds : ∀ l : List Tr, okTs uE l -> numTs l -> shTs l -> ∀ t ∈ l, RdX s row col uE t
  | [], _, _, _, t, ht => by cases ht
  | x :: l, h1, h2, h3, t, ht => by
    simp only [okTs] at h1
    simp only [numTs] at h2
    simp only [shTs] at h3
    simp only [List.mem_cons] at ht
    rcases ht with rfl | ht
    · exact told_rd _ h1.1 h2.1 h3.1
    · exact told_rds l h1.2 h2.2 h3.2 t ht
end
end
end Go.Det.Sea
end

section
namespace Go.Det
end Go.Det
end

section
namespace Go.Det.Sea
open Go Go.Det
def callS0 (r : DV) : Spec := fun xs ex k => match xs, ex with
  | [], [] => k r []
  | _, _ => False
def small (t : Tr) : Prop := t.count <= 300 /\ shortT t
section
variable {Pr Ow : Nat -> List DV -> DV -> Prop}
theorem callS0_ok {g : Nat} {r : DV} (h : ∀ Φ : DV -> List Blk -> Prop, Φ r [] -> GoC cfg Pr Ow g [] [] Φ) : SpecOK cfg Pr Ow g (callS0 r) := by
  intro xs ex k hk
  match xs, ex, hk with
  | [], [], hk => exact h k hk
end
end Go.Det.Sea
end

section
namespace Go.Det.Sea
open Go Go.Det
end Go.Det.Sea
end

section
namespace Go.Det.Sea
open Go Go.Det
end Go.Det.Sea
end

section
namespace Go.Det
theorem wrap64 {n : Int} (h0 : 0 <= n) (h1 : n < 4294967296) : IntKind.wrap .i64 n = n := by
  simp [IntKind.wrap, IntKind.bits, IntKind.signed]
  omega
end Go.Det
namespace Go.Det.Sea
open Go Go.Det
section
variable {Pr Ow : Nat -> List DV -> DV -> Prop}
theorem go15 (s : List UInt8) (hs : s.length <= 4000000000) (row col : Int) (hg : goodB row col = true) (p p2 : Nat) (t : Tr) (f : Int)
    (hr : p <= s.length /\ RdsOK Pr Ow s row col (.lvl 1) 0 t p) (hb : blN s p = s.length)
    (hc : ∀ Φ : DV -> List Blk -> Prop, Φ (.int .i64 f) [] -> GoC cfg Pr Ow 29 [t.dv] [] Φ) (Φ : DV -> List Blk -> Prop)
    (h0 : f = 0 -> Φ (.tup [t.dv, .int .i64 0, .int .i64 0]) []) (h1 : f ≠ 0 -> Φ (.tup [.agg zeroE, .int .i64 0, .int .i64 f]) []) : GoC cfg Pr Ow 15 [.str s, .agg [.int .i64 row, .int .i64 col]] [] Φ := by
  refine fn_of0 (E := E15 s row col p s.length t f) (envOK ⟨callG_ok fun _ Φ h => go24 row col Φ (by rw [hg]; exact h), callE_ok fun _ => hr.2, callE_ok fun _ Φ hΦ => go36 s hs row col 0 0 p Φ (by rw [hb]; exact hΦ), noCall_ok, callG_ok fun _ => hc, trivial⟩ trivial trivial) rfl ?_
  rw [vc15]
  refine ⟨trivial, rfl, ⟨trivial, rfl, rfl⟩, ⟨trivial, rfl, rfl⟩, brB_of (fun h => ?_) fun _ => ⟨trivial, rfl, brB_of (fun h => h1 (by simpa [bne] using h)) (fun h => ?_)⟩⟩
  · have := of_decide_eq_true h; omega
  · exact h0 (by simpa [bne] using h)
end
end Go.Det.Sea
end

section
namespace Go.Det.Sea
open Go Go.Det
theorem tmod_emod {n b : Int} (hb : 0 < b) : Int.tmod (Int.tmod n b + b) b = n % b /\ -b <= Int.tmod n b /\ Int.tmod n b <= b := by
  by_cases h : 0 <= n
  · have e := Int.tmod_eq_emod_of_nonneg (a := n) (b := b) h
    have h0 := Int.emod_nonneg n (show b ≠ 0 by omega)
    have h1 := Int.emod_lt_of_pos n hb
    rw [e, Int.tmod_eq_emod_of_nonneg (by omega), Int.add_emod_right, Int.emod_emod]
    exact ⟨rfl, by omega, by omega⟩
  · obtain ⟨m, rfl⟩ : ∃ m : Int, n = -m := ⟨-n, by omega⟩
    have hm : 0 <= m := by omega
    have e : Int.tmod (-m) b = -(m % b) := by rw [Int.neg_tmod, Int.tmod_eq_emod_of_nonneg hm]
    have h0 := Int.emod_nonneg m (show b ≠ 0 by omega)
    have h1 := Int.emod_lt_of_pos m hb
    rw [e, Int.tmod_eq_emod_of_nonneg (by omega), Int.add_emod_right]
    refine ⟨?_, by omega, by omega⟩
    have : -(m % b) = -m + b * (m / b) := by have := Int.emod_def m b; omega
    rw [this, Int.add_mul_emod_self_left]
section
variable {Pr Ow : Nat -> List DV -> DV -> Prop}
theorem modS_ok : SpecOK cfg Pr Ow 136 modS := by
  intro xs ex k h
  unfold modS at h
  split at h
  · rename_i n b
    obtain ⟨⟨h1, h2, h3, h4⟩, h⟩ := h
    refine fn_of0 E0_ok rfl ?_
    rw [vc136]
    obtain ⟨e, e1, e2⟩ := tmod_emod (n := n) h1
    rw [e]
    exact obB_of (decide_eq_true (by omega)) (obB_of (inR64 (by omega)) (obB_of (decide_eq_true (by omega)) h))
  · exact h.elim
theorem sumS_ok : SpecOK cfg Pr Ow 137 sumS := by
  intro xs ex k h
  unfold sumS at h
  split at h
  · rename_i n m b
    obtain ⟨⟨h1, h2, h3, h4, h5, h6⟩, h⟩ := h
    have a0 := Int.emod_nonneg n (show b ≠ 0 by omega)
    have a1 := Int.emod_lt_of_pos n h1
    have b0 := Int.emod_nonneg m (show b ≠ 0 by omega)
    have b1 := Int.emod_lt_of_pos m h1
    refine fn_of0 (E := E137) (envOK ⟨modS_ok, trivial⟩ trivial trivial) rfl ?_
    rw [vc137]
    exact ⟨⟨h1, h2, h3, h4⟩, ⟨h1, h2, h5, h6⟩, obB_of (inR64 (by omega)) ⟨⟨h1, h2, by omega, by omega⟩, h⟩⟩
  · exact h.elim
def farI (n : Int) : Prop := -1000000000000 <= n /\ n <= 1000000000000
theorem go96 (r : Rf) (row col : Int) (h1 : farI r.row) (h2 : farI r.col) (h3 : farI row) (h4 : farI col) (Φ : DV -> List Blk -> Prop) (h : Φ (.agg [.int .i64 (atR r row), .int .i64 (atC r col)]) []) : GoC cfg Pr Ow 96 [r.dv, .agg [.int .i64 row, .int .i64 col]] [] Φ := by
  refine fn_of0 (E := E96) (envOK ⟨modS_ok, sumS_ok, trivial⟩ trivial trivial) rfl ?_
  rw [vc96]
  unfold farI at *
  unfold atR atC at h
  have m65 : ∀ x : Int, -1000000000000 <= x /\ x <= 1000000000000 -> (0 : Int) < 65536 /\ (65536 : Int) <= 65536 /\ -1000000000000 <= x /\ x <= 1000000000000 := fun x hx => ⟨by omega, by omega, hx.1, hx.2⟩
  have m25 : ∀ x : Int, -1000000000000 <= x /\ x <= 1000000000000 -> (0 : Int) < 256 /\ (256 : Int) <= 65536 /\ -1000000000000 <= x /\ x <= 1000000000000 := fun x hx => ⟨by omega, by omega, hx.1, hx.2⟩
  refine ⟨m65 _ h1, m25 _ h2, brB_of (fun e => ⟨⟨by omega, by omega, h1.1, h1.2, h3.1, h3.2⟩, brB_of (fun e' => ⟨⟨by omega, by omega, h2.1, h2.2, h4.1, h4.2⟩, ?_⟩) fun e' => ?_⟩) fun e => brB_of (fun e' => ⟨⟨by omega, by omega, h2.1, h2.2, h4.1, h4.2⟩, ?_⟩) fun e' => ?_⟩
  all_goals (rw [e, e'] at h; exact h)
theorem go227 (r c row col : Int) (a b : Bool) (h1 : farI r) (h2 : farI c) (h3 : farI row) (h4 : farI col) (Φ : DV -> List Blk -> Prop) (h : Φ (Rf.mk (relR a r row) (relC b c col) a b).dv []) : GoC cfg Pr Ow 227 [.agg [.int .i64 r, .int .i64 c], .agg [.int .i64 row, .int .i64 col], .bool a, .bool b] [] Φ := by
  refine fn_of0 (E := E137) (envOK ⟨modS_ok, trivial⟩ trivial trivial) rfl ?_
  rw [vc227]
  unfold farI at *
  unfold relR relC at h
  have m65 : ∀ x : Int, -1000000000000 <= x /\ x <= 1000000000000 -> (0 : Int) < 65536 /\ (65536 : Int) <= 65536 /\ -1000000000000 <= x /\ x <= 1000000000000 := fun x hx => ⟨by omega, by omega, hx.1, hx.2⟩
  have m25 : ∀ x : Int, -1000000000000 <= x /\ x <= 1000000000000 -> (0 : Int) < 256 /\ (256 : Int) <= 65536 /\ -1000000000000 <= x /\ x <= 1000000000000 := fun x hx => ⟨by omega, by omega, hx.1, hx.2⟩
  refine ⟨m65 _ h1, m25 _ h2, brB_of (fun e => ⟨m65 _ h3, obB_of (inR64 (by omega)) ⟨m65 _ (by omega), brB_of (fun e' => ⟨m25 _ h4, obB_of (inR64 (by omega)) ⟨m25 _ (by omega), ?_⟩⟩) fun e' => ?_⟩⟩) fun e => brB_of (fun e' => ⟨m25 _ h4, obB_of (inR64 (by omega)) ⟨m25 _ (by omega), ?_⟩⟩) fun e' => ?_⟩
  all_goals (rw [e, e'] at h; rw [e, e']; exact h)
theorem nt95 : ntOf cfg 95 = 27 := by kernel_rfl
theorem nd95 : nodupK (loops 0 (codeOf cfg 95)) = true := by kernel_rfl
theorem wrap_i32 {n : Nat} (h : n < 2147483648) : IntKind.wrap .i32 (n : Int) = (n : Int) := by
  simp [IntKind.wrap, IntKind.bits, IntKind.signed]
  omega
theorem round95 (s : List UInt8) (hs : s.length <= 100) (n : Nat) (h0 : 1 <= n) (h1 : n <= 256) (row col : Int) {K : Ex -> St -> Prop}
    (h : GoL cfg Pr Ow 95 27 (bodyOf cfg 95 0) (hd95 (UInt8.ofNat (65 + (n - 1) % 26) :: s) (((n - 1) / 26 : Nat) : Int) row col) K) : GoL cfg Pr Ow 95 27 (bodyOf cfg 95 0) (hd95 s n row col) K := by
  refine round_of (E := {}) (envOK trivial trivial trivial) nt95 rfl (L := fun st => st = hd95 (UInt8.ofNat (65 + (n - 1) % 26) :: s) (((n - 1) / 26 : Nat) : Int) row col) (ks := [1, 3, 4]) (bs := [1]) (ks2 := [1, 3]) (bs2 := [1]) ?_ (fun st hst => by subst hst; exact h)
  rw [vc95b]
  have e1 : Int.tmod ((n : Int) - 1) 26 = (((n - 1) % 26 : Nat) : Int) := by
    rw [Int.tmod_eq_emod_of_nonneg (by omega)]; omega
  have e2 : Int.tdiv ((n : Int) - 1) 26 = (((n - 1) / 26 : Nat) : Int) := by
    rw [Int.tdiv_eq_ediv_of_nonneg (by omega)]; omega
  rw [e1, e2, wrap64 (by omega) (by omega)]
  have e3 : (65 : Int) + (((n - 1) % 26 : Nat) : Int) = ((65 + (n - 1) % 26 : Nat) : Int) := by omega
  rw [e3, wrap_i32 (by omega), enc_ascii _ (by omega)]
  refine brB_of (fun _ => obB_of (inR64 (by omega)) (obB_of (inR64 (by omega)) (obB_of (decide_eq_true (by simp; omega)) (obB_of (inR64 (by omega)) rfl)))) (fun h => ?_)
  have := of_decide_eq_false h; omega
theorem end95 (s : List UInt8) (row col : Int) {K : Ex -> St -> Prop} (h : F95 s row col K) : GoL cfg Pr Ow 95 27 (bodyOf cfg 95 0) (hd95 s (((0 : Nat)) : Int) row col) K := by
  refine round_of (E := {}) (envOK trivial trivial trivial) nt95 rfl (L := fun st => False) (ks := [1, 3, 4]) (bs := [1]) (ks2 := [1, 3]) (bs2 := [1]) ?_ (fun _ h => h.elim)
  rw [vc95b]
  exact brB_of (fun h => by simp at h) (fun _ => h)
theorem go95 (hit : SpecOK cfg Pr Ow 54 itoaS) (row col : Int) (hg : goodB row col = true) (Φ : DV -> List Blk -> Prop) (h : Φ (.str (colT col ++ Lib.decDigits (row.toNat + 1))) []) : GoC cfg Pr Ow 95 [.agg [.int .i64 row, .int .i64 col]] [] Φ := by
  simp only [goodB, Bool.and_eq_true, decide_eq_true_eq] at hg
  obtain ⟨⟨⟨g1, g2⟩, g3⟩, g4⟩ := hg
  obtain ⟨c, rfl⟩ : ∃ c : Nat, col = c := ⟨col.toNat, by omega⟩
  have hl : (Lib.decDigits (row.toNat + 1)).length <= 5 := dec_len_le (k := 5) (by omega) (by omega)
  have hcl : (colT (c : Int)).length <= 2 := by
    unfold colT
    simp only
    cases decide (Int.toNat (c : Int) < 26) <;> simp
  refine fn_of (E := E95 (fun st => st = hd95 [] ((c + 1 : Nat) : Int) row c) (colT c) row c) (envOK ⟨hit, trivial⟩ trivial trivial) nt95 nd95 ?_ ?_
  · intro b sp hl' st k hk
    obtain ⟨rfl, rfl⟩ := look_one rfl hl'
    refine loopS_ok (fun st hst K hK => ?_) hk
    subst hst
    refine round95 [] (by simp) (c + 1) (by omega) (by omega) row c ?_
    rw [show c + 1 - 1 = c by omega]
    unfold colT at hK
    simp only [Int.toNat_natCast] at hK
    by_cases h26 : c < 26
    · rw [decide_eq_true h26] at hK
      rw [show c / 26 = 0 by omega, show c % 26 = c by omega]
      exact end95 _ _ _ hK
    · rw [decide_eq_false h26] at hK
      refine round95 _ (by simp) (c / 26) (by omega) (by omega) row c ?_
      rw [show (c / 26 - 1) / 26 = 0 by omega, show (c / 26 - 1) % 26 = c / 26 - 1 by omega]
      exact end95 _ _ _ hK
  · rw [vc95]
    have e : Lib.itoa (row + 1) = Lib.decDigits (row.toNat + 1) := by
      unfold Lib.itoa
      rw [if_neg (by omega), show (row + 1).toNat = row.toNat + 1 by omega]
    rw [e]
    exact obB_of (inR64 (by omega)) ⟨rfl, obB_of (inR64 (by omega)) ⟨⟨by omega, by omega⟩, obB_of (decide_eq_true (by omega)) h⟩⟩
theorem idx_letters {L D : List UInt8} (hL : L.all isLet = true) (hD : D ≠ []) (hdd : D.all isDig = true) : ∀ j, idxI digL (L ++ D) j = ((j + L.length : Nat) : Int) := by
  induction L with
  | nil =>
    intro j
    obtain ⟨x, t, rfl⟩ : ∃ x t, D = x :: t := by cases D with | nil => exact absurd rfl hD | cons x t => exact ⟨x, t, rfl⟩
    rw [List.all_cons, Bool.and_eq_true] at hdd
    have hx := isDig_at hdd.1
    have : mem digL x.toNat = true := by
      have : x.toNat = 48 \/ x.toNat = 49 \/ x.toNat = 50 \/ x.toNat = 51 \/ x.toNat = 52 \/ x.toNat = 53 \/ x.toNat = 54 \/ x.toNat = 55 \/ x.toNat = 56 \/ x.toNat = 57 := by omega
      rcases this with h | h | h | h | h | h | h | h | h | h <;> rw [h] <;> rfl
    simp [idxI, this]
  | cons y L ih =>
    intro j
    rw [List.all_cons, Bool.and_eq_true] at hL
    have hy := isLet_at hL.1
    have : mem digL y.toNat = false := by
      unfold mem
      rw [List.any_eq_false]
      intro z hz
      have hz' : z.toNat <= 57 := by
        simp only [digL, List.mem_cons, List.not_mem_nil, or_false] at hz
        rcases hz with rfl | rfl | rfl | rfl | rfl | rfl | rfl | rfl | rfl | rfl <;> decide
      intro hb
      have := Nat.eq_of_beq_eq_true hb
      omega
    simp only [List.cons_append, idxI, this, cond_false]
    rw [ih hL.2 (j + 1)]
    simp; omega
theorem asc_of {L D : List UInt8} (hL : L.all isLet = true) (hdd : D.all isDig = true) : asc (L ++ D) = true := by
  unfold asc
  rw [List.all_append, Bool.and_eq_true, List.all_eq_true, List.all_eq_true]
  rw [List.all_eq_true] at hL hdd
  exact ⟨fun x hx => Nat.ble_eq_true_of_le (by have := isLet_at (hL x hx); omega), fun x hx => Nat.ble_eq_true_of_le (by have := isDig_at (hdd x hx); omega)⟩
theorem go56 (hix : SpecOK cfg Pr Ow 154 idxS) (hit : SpecOK cfg Pr Ow 54 itoaS) (r : Rf) (row col : Int) (hr : refE r = 0) (h3 : farI row) (h4 : farI col) (Φ : DV -> List Blk -> Prop) (h : Φ (.str (placeT row col r)) []) : GoC cfg Pr Ow 56 [r.dv, .agg [.int .i64 row, .int .i64 col]] [] Φ := by
  have hg : goodB r.row r.col = true := by
    unfold refE at hr
    cases hg : goodB r.row r.col with
    | true => rfl
    | false => rw [hg] at hr; simp at hr
  simp only [goodB, Bool.and_eq_true, decide_eq_true_eq] at hg
  have hR : 0 <= atR r row /\ atR r row < 65536 := by unfold atR; cases r.rr <;> simp only [cond_true, cond_false] <;> omega
  have hC : 0 <= atC r col /\ atC r col < 256 := by unfold atC; cases r.rc <;> simp only [cond_true, cond_false] <;> omega
  have hok := place_ref (row := row) (col := col) hr
  have hgd : goodB (atR r row) (atC r col) = true := by
    unfold goodB
    simp only [Bool.and_eq_true, decide_eq_true_eq]; omega
  have hi := idx_letters hok.ll hok.d0 hok.dd 0
  rw [Nat.zero_add] at hi
  generalize hL : colT (atC r col) = L at *
  generalize hD : Lib.decDigits ((atR r row).toNat + 1) = D at *
  have hlen : (L ++ D).length <= 8 := by rw [List.length_append]; exact hok.len
  have h8 := hok.len
  refine fn_of0 (E := E56 r row col (atR r row) (atC r col) (L ++ D) (L.length : Int)) (envOK ⟨callG_ok fun _ => go96 r row col ⟨by omega, by omega⟩ ⟨by omega, by omega⟩ h3 h4, callG_ok fun _ Φ h => go95 hit _ _ hgd Φ (by rw [hL, hD]; exact h), callG_ok fun _ Φ h => go97d hix _ hlen (asc_of hok.ll hok.dd) Φ (by rw [hi]; exact h), trivial⟩ trivial trivial) rfl ?_
  rw [vc56]
  have t1 : Int.toNat (L.length : Int) = L.length := by omega
  have t2 : List.drop 0 (List.take L.length (L ++ D)) = L := by simp
  have t3 : List.drop L.length (List.take (L ++ D).length (L ++ D)) = D := by rw [List.take_length]; simp
  rw [t1, t2, t3]
  unfold placeT at h
  rw [hL, hD] at h
  have d0 : decide ((0 : Int) <= (L.length : Int)) = true := decide_eq_true (by omega)
  have d1 : decide (L.length <= (L ++ D).length) = true := decide_eq_true (by simp)
  refine ⟨trivial, rfl, trivial, rfl, trivial, rfl, obB_of d0 (obB_of d1 (obB_of d0 (obB_of d1 (brB_of (fun h1 => obB_of (decide_eq_true (by omega)) (brB_of (fun h2 => obB_of (decide_eq_true (by omega)) (obB_of (decide_eq_true (by simp; omega)) ?_)) (fun h2 => obB_of (decide_eq_true (by simp; omega)) ?_))) (fun h1 => brB_of (fun h2 => obB_of (decide_eq_true (by omega)) (obB_of (decide_eq_true (by simp; omega)) ?_)) (fun h2 => obB_of (decide_eq_true (by omega)) ?_))))))⟩
  all_goals
    first
      | (have h1' : r.rc = false := by simpa using h1)
      | (have h1' : r.rc = true := by simpa using h1)
    first
      | (have h2' : r.rr = false := by simpa using h2)
      | (have h2' : r.rr = true := by simpa using h2)
    rw [h1', h2'] at h
    simp only [dol, cond_true, cond_false, List.nil_append, List.cons_append, List.append_assoc] at h ⊢
    exact h
end
end Go.Det.Sea
end
