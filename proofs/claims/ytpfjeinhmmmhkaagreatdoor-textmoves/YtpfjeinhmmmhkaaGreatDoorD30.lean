/- TextMovesCardSaid: part 30 of the texts behind it: Lf5, Lg4, Lg5, Lg6. No premise of its own. -/
import Derived.Test.YtpfjeinhmmmhkaaGreatDoorD29
set_option linter.all false
section
namespace Go.Det.Sea
open Go Go.Det
def hd110 (s wh bh cat : List UInt8) (j : Nat) (lo : Int) : St := mkS 123 [(0, .str s), (2, .ptr 2 2 0 0), (3, .int .i64 0), (5, .bool false), (6, .str wh), (7, .str bh), (9, .ptr 9 3 0 0), (10, .bool false), (11, .bool false), (53, .ptr 53 0 0 0)] [(2, .box [.int .i64 0, .int .i64 0]), (9, .box [.int .u64 0, .int .u64 lo, .bool false]), (53, .iter cat j)] []
def F110 (s wh bh : List UInt8) (lo : Int) (k : Ex -> St -> Prop) : Prop := k (.exit 0) (mkS 123 [(0, .str s), (2, .ptr 2 2 0 0), (3, .int .i64 0), (5, .bool false), (6, .str wh), (7, .str bh), (9, .ptr 9 3 0 0), (10, .bool false), (11, .bool false)] [(2, .box [.int .i64 0, .int .i64 0]), (9, .box [.int .u64 0, .int .u64 lo, .bool false])] [])
def E110 (L : St -> Prop) (s wh bh : List UInt8) (pt : Bool) (lo : Int) : Env := { ss := [(16, 150, callG True [.str s, .str [45]] (.tup [.str s, .bool false])), (21, 151, callG True [.str s, .str [46]] (.tup [.str wh, .str bh, .bool pt])), (105, 152, callG True [.str bh, .str [48]] (.bool false))], ls := [(0, loopS [0, 2, 3, 5, 6, 7, 9, 10, 11, 53] [2, 9, 53] 123 L (F110 s wh bh lo))], sp := [18] }
def E110b (x : Nat) : Env := { an := [(54, .ptr x 1 0 0)] }
theorem vc110 (s wh bh : List UInt8) (pt : Bool) (lo : Nat) (L : St -> Prop) (Φ : DV -> List Blk -> Prop) : (vcF cfg (E110 L s wh bh pt lo) 110 [.str s] [] Φ) =
    (True /\ [DV.str s, DV.str [45]] = [DV.str s, DV.str [45]] /\ True /\ [DV.str s, DV.str [46]] = [DV.str s, DV.str [46]] /\ obB (decide (0 < List.length wh) || !(!(wh == #[].toList || pt && bh == #[].toList) && decide ((↑(List.length wh) : Int) > 1))) (obB (decide (List.length wh + List.length bh <= 4294967296)) (L (mkS 123 [(0, DV.str s), (2, DV.ptr 2 2 0 0), (3, DV.int .i64 0), (5, DV.bool false), (6, DV.str wh), (7, DV.str bh), (9, DV.ptr 9 3 0 0), (10, DV.bool (wh == #[].toList || pt && bh == #[].toList || decide ((↑(List.length wh) : Int) > 1) && (↑(UInt8.toNat (List.getD wh 0 (0 : UInt8))) : Int) == 48 || s == #[(45 : UInt8), (48 : UInt8)].toList)), (11, DV.bool false), (53, DV.ptr 53 0 0 0)] [(2, Blk.box [DV.int .i64 0, DV.int .i64 0]), (9, Blk.box [DV.int .u64 0, DV.int .u64 0, DV.bool false]), (53, Blk.iter (wh ++ bh) 0)] []) /\ brB (decide ((↑lo : Int) > 9223372036854775808) || (↑lo : Int) == 9223372036854775808 && true) (Φ (DV.tup [DV.agg [DV.int .i64 0, DV.int .i64 0], DV.int .i64 8]) []) (brB (decide ((↑(List.length bh) : Int) > 9)) (Φ (DV.tup [DV.agg [DV.int .i64 0, DV.int .i64 0], DV.int .i64 1]) []) (True /\ [DV.str bh, DV.str [48]] = [DV.str bh, DV.str [48]] /\ Φ (DV.tup [DV.agg [DV.int .i64 (IntKind.wrap .i64 (↑lo : Int)), DV.int .i64 (↑(List.length bh) : Int)], DV.int .i64 0]) []))))) := by kernel_rfl
theorem vc110b (s wh bh cat : List UInt8) (j x lo : Nat) (L : St -> Prop) (K : Ex -> St -> Prop) : (vcB cfg (E110b x) 110 0 (hd110 s wh bh cat j lo) (bodyK L [0, 2, 3, 5, 6, 7, 9, 10, 11, 53] [2, 9, 53] [0, 2, 3, 5, 6, 7, 9, 10, 11] [2, 9] 123 K)) =
    (brB (decide (j < List.length cat)) (Utf8.decode (ByteArray.mk (List.toArray cat)) j = (x, 1) /\ brB (decide ((↑x : Int) < 48) || decide ((↑x : Int) > 57)) (L (mkS 123 [(0, DV.str s), (2, DV.ptr 2 2 0 0), (3, DV.int .i64 0), (5, DV.bool false), (6, DV.str wh), (7, DV.str bh), (9, DV.ptr 9 3 0 0), (10, DV.bool true), (11, DV.bool false), (53, DV.ptr 53 0 0 0)] [(2, Blk.box [DV.int .i64 0, DV.int .i64 0]), (9, Blk.box [DV.int .u64 0, DV.int .u64 (↑lo : Int), DV.bool false]), (53, Blk.iter cat (j + 1))] [])) (brB (!decide ((↑lo : Int) > 1844674407370955160)) (obB (inR .u64 ((↑lo : Int) * 10)) (obB (inR .i32 ((↑x : Int) - 48)) (obB (inR .u64 ((↑lo : Int) * 10 + IntKind.wrap .u64 ((↑x : Int) - 48))) (L (mkS 123 [(0, DV.str s), (2, DV.ptr 2 2 0 0), (3, DV.int .i64 0), (5, DV.bool false), (6, DV.str wh), (7, DV.str bh), (9, DV.ptr 9 3 0 0), (10, DV.bool false), (11, DV.bool (decide ((↑lo : Int) > 1844674407370955160))), (53, DV.ptr 53 0 0 0)] [(2, Blk.box [DV.int .i64 0, DV.int .i64 0]), (9, Blk.box [DV.int .u64 0, DV.int .u64 ((↑lo : Int) * 10 + IntKind.wrap .u64 ((↑x : Int) - 48)), DV.bool false]), (53, Blk.iter cat (j + 1))] []))))) (L (mkS 123 [(0, DV.str s), (2, DV.ptr 2 2 0 0), (3, DV.int .i64 0), (5, DV.bool false), (6, DV.str wh), (7, DV.str bh), (9, DV.ptr 9 3 0 0), (10, DV.bool false), (11, DV.bool (decide ((↑lo : Int) > 1844674407370955160))), (53, DV.ptr 53 0 0 0)] [(2, Blk.box [DV.int .i64 0, DV.int .i64 0]), (9, Blk.box [DV.int .u64 0, DV.int .u64 (↑lo : Int), DV.bool false]), (53, Blk.iter cat (j + 1))] [])))) (K (Ex.exit 0) (mkS 123 [(0, DV.str s), (2, DV.ptr 2 2 0 0), (3, DV.int .i64 0), (5, DV.bool false), (6, DV.str wh), (7, DV.str bh), (9, DV.ptr 9 3 0 0), (10, DV.bool false), (11, DV.bool false)] [(2, Blk.box [DV.int .i64 0, DV.int .i64 0]), (9, Blk.box [DV.int .u64 0, DV.int .u64 (↑lo : Int), DV.bool false])] []))) := by kernel_rfl
theorem vc172 (m : Int) (Φ : DV -> List Blk -> Prop) : (vcF cfg E0 172 [.int .i64 m] [] Φ) =
    (brB (decide (m < (0 : Int))) (Φ (DV.agg [DV.int .u64 0, DV.int .u64 (IntKind.wrap .u64 ((0 : Int) - IntKind.wrap .u64 m)), DV.bool true]) []) (Φ (DV.agg [DV.int .u64 0, DV.int .u64 (IntKind.wrap .u64 m), DV.bool false]) [])) := by kernel_rfl
def E135 (m lo : Int) (neg : Bool) (d z : List UInt8) (k : Int) (g : Prop) : Env := { cs := [(172, callG True [.int .i64 m] (.agg [.int .u64 0, .int .u64 lo, .bool neg])), (173, callG True [.int .u64 lo, .int .i64 10] (.str d)), (174, callG g [.str [48], .int .i64 k] (.str z))] }
theorem vc135 (m sc lo : Int) (neg : Bool) (d z : List UInt8) (k : Int) (g : Prop) (Φ : DV -> List Blk -> Prop) : (vcF cfg (E135 m lo neg d z k g) 135 [.agg [.int .i64 m, .int .i64 sc]] [] Φ) =
    (True /\ [DV.int .i64 m] = [DV.int .i64 m] /\ True /\ [DV.int .u64 lo, DV.int .i64 10] = [DV.int .u64 lo, DV.int .i64 10] /\ brB (decide (sc > (0 : Int))) (obB (inR .i64 (sc + (1 : Int))) (obB (inR .i64 (sc + (1 : Int) - (↑(List.length d) : Int))) (g /\ [DV.str [48], DV.int .i64 (if true = true then if (0 : Int) > sc + (1 : Int) - (↑(List.length d) : Int) then (0 : Int) else sc + (1 : Int) - (↑(List.length d) : Int) else if (0 : Int) < sc + (1 : Int) - (↑(List.length d) : Int) then (0 : Int) else sc + (1 : Int) - (↑(List.length d) : Int))] = [DV.str [48], DV.int .i64 k] /\ obB (decide (List.length z + List.length d <= 4294967296)) (obB (inR .i64 ((↑(List.length (z ++ d)) : Int) - sc)) (obB (decide ((0 : Int) <= (↑(List.length (z ++ d)) : Int) - sc)) (obB (decide (Int.toNat ((↑(List.length (z ++ d)) : Int) - sc) <= List.length (z ++ d))) (obB (decide (List.length (List.drop 0 (List.take (Int.toNat ((↑(List.length (z ++ d)) : Int) - sc)) (z ++ d))) + 1 <= 4294967296)) (obB (inR .i64 ((↑(List.length (z ++ d)) : Int) - sc)) (obB (decide ((0 : Int) <= (↑(List.length (z ++ d)) : Int) - sc)) (obB (decide (Int.toNat ((↑(List.length (z ++ d)) : Int) - sc) <= List.length (z ++ d))) (obB (decide (List.length (List.drop 0 (List.take (Int.toNat ((↑(List.length (z ++ d)) : Int) - sc)) (z ++ d)) ++ #[(46 : UInt8)].toList) + List.length (List.drop (Int.toNat ((↑(List.length (z ++ d)) : Int) - sc)) (List.take (List.length (z ++ d)) (z ++ d))) <= 4294967296)) (brB neg (obB (decide (1 + List.length (List.drop 0 (List.take (Int.toNat ((↑(List.length (z ++ d)) : Int) - sc)) (z ++ d)) ++ #[(46 : UInt8)].toList ++ List.drop (Int.toNat ((↑(List.length (z ++ d)) : Int) - sc)) (List.take (List.length (z ++ d)) (z ++ d))) <= 4294967296)) (Φ (DV.str (#[(45 : UInt8)].toList ++ (List.drop 0 (List.take (Int.toNat ((↑(List.length (z ++ d)) : Int) - sc)) (z ++ d)) ++ #[(46 : UInt8)].toList ++ List.drop (Int.toNat ((↑(List.length (z ++ d)) : Int) - sc)) (List.take (List.length (z ++ d)) (z ++ d))))) [])) (Φ (DV.str (List.drop 0 (List.take (Int.toNat ((↑(List.length (z ++ d)) : Int) - sc)) (z ++ d)) ++ #[(46 : UInt8)].toList ++ List.drop (Int.toNat ((↑(List.length (z ++ d)) : Int) - sc)) (List.take (List.length (z ++ d)) (z ++ d)))) []))))))))))))) (brB neg (obB (decide (1 + List.length d <= 4294967296)) (Φ (DV.str (#[(45 : UInt8)].toList ++ d)) [])) (Φ (DV.str d) []))) := by kernel_rfl
def E94 (v : Vl) (d nm : List UInt8) : Env := { cs := [(135, callG (v.kind = 1) [.agg [.int .i64 v.m, .int .i64 v.s]] (.str d)), (131, callG True [.int .i64 v.e] (.str nm))] }
theorem vc94 (v : Vl) (d nm : List UInt8) (Φ : DV -> List Blk -> Prop) : (vcF cfg (E94 v d nm) 94 [v.dv] [] Φ) =
    (brB (v.kind == (1 : Int)) (v.kind = (1 : Int) /\ [DV.agg [DV.int .i64 v.m, DV.int .i64 v.s]] = [DV.agg [DV.int .i64 v.m, DV.int .i64 v.s]] /\ Φ (DV.str d) []) (brB (v.kind == (2 : Int)) (Φ (DV.str v.txt) []) (brB (v.kind == (3 : Int)) (brB v.b (Φ (DV.str [84, 82, 85, 69]) []) (Φ (DV.str [70, 65, 76, 83, 69]) [])) (brB (v.kind == (4 : Int)) (True /\ [DV.int .i64 v.e] = [DV.int .i64 v.e] /\ Φ (DV.str nm) []) (Φ (DV.str []) []))))) := by kernel_rfl
theorem vc164b (e : Int) (Φ : DV -> List Blk -> Prop) : (vcF cfg E0 164 [.int .i64 e] [] Φ) =
    (Φ (DV.agg [DV.int .i64 4, DV.int .i64 0, DV.int .i64 0, DV.str [], DV.bool false, DV.int .i64 e]) []) := by kernel_rfl
def E55 (v : Vl) (r x : List UInt8) : Env := { cs := [(93, callG (v.kind = 2) [.str v.txt, .str [34], .str [34, 34]] (.str r)), (94, callG True [v.dv] (.str x))] }
theorem vc55 (v : Vl) (r x : List UInt8) (Φ : DV -> List Blk -> Prop) : (vcF cfg (E55 v r x) 55 [v.dv] [] Φ) =
    (brB (v.kind == (2 : Int)) (v.kind = (2 : Int) /\ [DV.str v.txt, DV.str [34], DV.str [34, 34]] = [DV.str v.txt, DV.str [34], DV.str [34, 34]] /\ obB (decide (1 + List.length r <= 4294967296)) (obB (decide (List.length (#[(34 : UInt8)].toList ++ r) + 1 <= 4294967296)) (Φ (DV.str (#[(34 : UInt8)].toList ++ r ++ #[(34 : UInt8)].toList)) []))) (True /\ [Vl.dv v] = [Vl.dv v] /\ Φ (DV.str x) [])) := by kernel_rfl
def hd146 (s : List UInt8) (row col : Int) (p : Nat) (i : Int) : St := mkS 26 [(0, .ptr 26 6 0 0), (2, .ptr 2 18 0 0), (5, .psl 1 [.int .i64 0, .int .i64 7, .int .i64 15, .int .i64 23, .int .i64 29, .int .i64 36, .int .i64 42]), (6, .int .i64 7), (7, .int .i64 i)] [(2, .box zeroE)] [rdr s row col p 0 0]
def F146 (s : List UInt8) (row col : Int) (p : Nat) (e : Int) (k : Ex -> St -> Prop) : Prop := k .ret (mkS 26 [(2, .ptr 2 18 0 0)] [(2, .box ((Tr.mk 1 ⟨4, 0, 0, [], false, e⟩ r0 r0 0 0 []).cellsK .nilsl))] [rdr s row col p 0 0])
def E146 (L : St -> Prop) (s : List UInt8) (row col : Int) (p : Nat) (e : Int) : Env := { ls := [(0, loopS [0, 2, 5, 6, 7] [2] 26 L (F146 s row col p e))] }
def fltS : Spec := fun xs ex k => match xs, ex with
  | [.int .i64 e], [] => k (.agg [.int .i64 4, .int .i64 0, .int .i64 0, .str [], .bool false, .int .i64 e]) []
  | _, _ => False
def E146b (s : List UInt8) (row col : Int) (p p1 : Nat) (e : Int) (nm : List UInt8) (r : Bool) : Env := { cs := [(164, fltS), (94, callG True [.agg [.int .i64 4, .int .i64 0, .int .i64 0, .str [], .bool false, .int .i64 e]] (.str nm)), (107, callE True [.ptr 28 6 0 0, .str nm] [rdr s row col p 0 0] (.bool r) [rdr s row col p1 0 0])] }
theorem vc146 (s : List UInt8) (row col : Int) (p p1 : Nat) (e : Int) (L : St -> Prop) (Φ : DV -> List Blk -> Prop) : (vcF cfg (E146 L s row col p1 e) 146 [.ptr 26 6 0 0] [rdr s row col p 0 0] Φ) =
    (L (mkS 26 [(0, DV.ptr 26 6 0 0), (2, DV.ptr 2 18 0 0), (5, DV.psl 1 [DV.int .i64 0, DV.int .i64 7, DV.int .i64 15, DV.int .i64 23, DV.int .i64 29, DV.int .i64 36, DV.int .i64 42]), (6, DV.int .i64 7), (7, DV.int .i64 0)] [(2, Blk.box zeroE)] [rdr s row col p 0 0]) /\ Φ (DV.agg (Tr.cellsK (Tr.mk (1 : Int) (Vl.mk (4 : Int) (0 : Int) (0 : Int) [] false e) r0 r0 (0 : Int) (0 : Int) []) DV.nilsl)) [rdr s row col p1 0 0]) := by kernel_rfl
theorem vc146_0 (s : List UInt8) (row col : Int) (p p1 : Nat) (nm : List UInt8) (r : Bool) (L : St -> Prop) (K : Ex -> St -> Prop) : (vcB cfg (E146b s row col p p1 0 nm r) 146 0 (hd146 s row col p 0) (bodyK L [0, 2, 5, 6, 7] [2] [2] [2] 26 K)) =
    (True /\ [DV.agg [DV.int .i64 4, DV.int .i64 0, DV.int .i64 0, DV.str [], DV.bool false, DV.int .i64 0]] = [DV.agg [DV.int .i64 4, DV.int .i64 0, DV.int .i64 0, DV.str [], DV.bool false, DV.int .i64 0]] /\ (True /\ [DV.ptr 28 6 0 0, DV.str nm] = [DV.ptr 28 6 0 0, DV.str nm] /\ [rdr s row col p 0 0] = [rdr s row col p 0 0]) /\ brB r (K Ex.ret (mkS 26 [(2, DV.ptr 2 18 0 0)] [(2, Blk.box [DV.int .i64 1, DV.int .i64 4, DV.int .i64 0, DV.int .i64 0, DV.str [], DV.bool false, DV.int .i64 0, DV.int .i64 0, DV.int .i64 0, DV.bool false, DV.bool false, DV.int .i64 0, DV.int .i64 0, DV.bool false, DV.bool false, DV.int .i64 0, DV.int .i64 0, DV.nilsl])] [rdr s row col p1 0 0])) (L (mkS 26 [(0, DV.ptr 26 6 0 0), (2, DV.ptr 2 18 0 0), (5, DV.psl 1 [DV.int .i64 0, DV.int .i64 7, DV.int .i64 15, DV.int .i64 23, DV.int .i64 29, DV.int .i64 36, DV.int .i64 42]), (6, DV.int .i64 7), (7, DV.int .i64 1)] [(2, Blk.box zeroE)] [rdr s row col p1 0 0]))) := by kernel_rfl
theorem vc146_1 (s : List UInt8) (row col : Int) (p p1 : Nat) (nm : List UInt8) (r : Bool) (L : St -> Prop) (K : Ex -> St -> Prop) : (vcB cfg (E146b s row col p p1 7 nm r) 146 0 (hd146 s row col p 1) (bodyK L [0, 2, 5, 6, 7] [2] [2] [2] 26 K)) =
    (True /\ [DV.agg [DV.int .i64 4, DV.int .i64 0, DV.int .i64 0, DV.str [], DV.bool false, DV.int .i64 7]] = [DV.agg [DV.int .i64 4, DV.int .i64 0, DV.int .i64 0, DV.str [], DV.bool false, DV.int .i64 7]] /\ (True /\ [DV.ptr 28 6 0 0, DV.str nm] = [DV.ptr 28 6 0 0, DV.str nm] /\ [rdr s row col p 0 0] = [rdr s row col p 0 0]) /\ brB r (K Ex.ret (mkS 26 [(2, DV.ptr 2 18 0 0)] [(2, Blk.box [DV.int .i64 1, DV.int .i64 4, DV.int .i64 0, DV.int .i64 0, DV.str [], DV.bool false, DV.int .i64 7, DV.int .i64 0, DV.int .i64 0, DV.bool false, DV.bool false, DV.int .i64 0, DV.int .i64 0, DV.bool false, DV.bool false, DV.int .i64 0, DV.int .i64 0, DV.nilsl])] [rdr s row col p1 0 0])) (L (mkS 26 [(0, DV.ptr 26 6 0 0), (2, DV.ptr 2 18 0 0), (5, DV.psl 1 [DV.int .i64 0, DV.int .i64 7, DV.int .i64 15, DV.int .i64 23, DV.int .i64 29, DV.int .i64 36, DV.int .i64 42]), (6, DV.int .i64 7), (7, DV.int .i64 2)] [(2, Blk.box zeroE)] [rdr s row col p1 0 0]))) := by kernel_rfl
theorem vc146_2 (s : List UInt8) (row col : Int) (p p1 : Nat) (nm : List UInt8) (r : Bool) (L : St -> Prop) (K : Ex -> St -> Prop) : (vcB cfg (E146b s row col p p1 15 nm r) 146 0 (hd146 s row col p 2) (bodyK L [0, 2, 5, 6, 7] [2] [2] [2] 26 K)) =
    (True /\ [DV.agg [DV.int .i64 4, DV.int .i64 0, DV.int .i64 0, DV.str [], DV.bool false, DV.int .i64 15]] = [DV.agg [DV.int .i64 4, DV.int .i64 0, DV.int .i64 0, DV.str [], DV.bool false, DV.int .i64 15]] /\ (True /\ [DV.ptr 28 6 0 0, DV.str nm] = [DV.ptr 28 6 0 0, DV.str nm] /\ [rdr s row col p 0 0] = [rdr s row col p 0 0]) /\ brB r (K Ex.ret (mkS 26 [(2, DV.ptr 2 18 0 0)] [(2, Blk.box [DV.int .i64 1, DV.int .i64 4, DV.int .i64 0, DV.int .i64 0, DV.str [], DV.bool false, DV.int .i64 15, DV.int .i64 0, DV.int .i64 0, DV.bool false, DV.bool false, DV.int .i64 0, DV.int .i64 0, DV.bool false, DV.bool false, DV.int .i64 0, DV.int .i64 0, DV.nilsl])] [rdr s row col p1 0 0])) (L (mkS 26 [(0, DV.ptr 26 6 0 0), (2, DV.ptr 2 18 0 0), (5, DV.psl 1 [DV.int .i64 0, DV.int .i64 7, DV.int .i64 15, DV.int .i64 23, DV.int .i64 29, DV.int .i64 36, DV.int .i64 42]), (6, DV.int .i64 7), (7, DV.int .i64 3)] [(2, Blk.box zeroE)] [rdr s row col p1 0 0]))) := by kernel_rfl
theorem vc146_3 (s : List UInt8) (row col : Int) (p p1 : Nat) (nm : List UInt8) (r : Bool) (L : St -> Prop) (K : Ex -> St -> Prop) : (vcB cfg (E146b s row col p p1 23 nm r) 146 0 (hd146 s row col p 3) (bodyK L [0, 2, 5, 6, 7] [2] [2] [2] 26 K)) =
    (True /\ [DV.agg [DV.int .i64 4, DV.int .i64 0, DV.int .i64 0, DV.str [], DV.bool false, DV.int .i64 23]] = [DV.agg [DV.int .i64 4, DV.int .i64 0, DV.int .i64 0, DV.str [], DV.bool false, DV.int .i64 23]] /\ (True /\ [DV.ptr 28 6 0 0, DV.str nm] = [DV.ptr 28 6 0 0, DV.str nm] /\ [rdr s row col p 0 0] = [rdr s row col p 0 0]) /\ brB r (K Ex.ret (mkS 26 [(2, DV.ptr 2 18 0 0)] [(2, Blk.box [DV.int .i64 1, DV.int .i64 4, DV.int .i64 0, DV.int .i64 0, DV.str [], DV.bool false, DV.int .i64 23, DV.int .i64 0, DV.int .i64 0, DV.bool false, DV.bool false, DV.int .i64 0, DV.int .i64 0, DV.bool false, DV.bool false, DV.int .i64 0, DV.int .i64 0, DV.nilsl])] [rdr s row col p1 0 0])) (L (mkS 26 [(0, DV.ptr 26 6 0 0), (2, DV.ptr 2 18 0 0), (5, DV.psl 1 [DV.int .i64 0, DV.int .i64 7, DV.int .i64 15, DV.int .i64 23, DV.int .i64 29, DV.int .i64 36, DV.int .i64 42]), (6, DV.int .i64 7), (7, DV.int .i64 4)] [(2, Blk.box zeroE)] [rdr s row col p1 0 0]))) := by kernel_rfl
theorem vc146_4 (s : List UInt8) (row col : Int) (p p1 : Nat) (nm : List UInt8) (r : Bool) (L : St -> Prop) (K : Ex -> St -> Prop) : (vcB cfg (E146b s row col p p1 29 nm r) 146 0 (hd146 s row col p 4) (bodyK L [0, 2, 5, 6, 7] [2] [2] [2] 26 K)) =
    (True /\ [DV.agg [DV.int .i64 4, DV.int .i64 0, DV.int .i64 0, DV.str [], DV.bool false, DV.int .i64 29]] = [DV.agg [DV.int .i64 4, DV.int .i64 0, DV.int .i64 0, DV.str [], DV.bool false, DV.int .i64 29]] /\ (True /\ [DV.ptr 28 6 0 0, DV.str nm] = [DV.ptr 28 6 0 0, DV.str nm] /\ [rdr s row col p 0 0] = [rdr s row col p 0 0]) /\ brB r (K Ex.ret (mkS 26 [(2, DV.ptr 2 18 0 0)] [(2, Blk.box [DV.int .i64 1, DV.int .i64 4, DV.int .i64 0, DV.int .i64 0, DV.str [], DV.bool false, DV.int .i64 29, DV.int .i64 0, DV.int .i64 0, DV.bool false, DV.bool false, DV.int .i64 0, DV.int .i64 0, DV.bool false, DV.bool false, DV.int .i64 0, DV.int .i64 0, DV.nilsl])] [rdr s row col p1 0 0])) (L (mkS 26 [(0, DV.ptr 26 6 0 0), (2, DV.ptr 2 18 0 0), (5, DV.psl 1 [DV.int .i64 0, DV.int .i64 7, DV.int .i64 15, DV.int .i64 23, DV.int .i64 29, DV.int .i64 36, DV.int .i64 42]), (6, DV.int .i64 7), (7, DV.int .i64 5)] [(2, Blk.box zeroE)] [rdr s row col p1 0 0]))) := by kernel_rfl
theorem vc146_5 (s : List UInt8) (row col : Int) (p p1 : Nat) (nm : List UInt8) (r : Bool) (L : St -> Prop) (K : Ex -> St -> Prop) : (vcB cfg (E146b s row col p p1 36 nm r) 146 0 (hd146 s row col p 5) (bodyK L [0, 2, 5, 6, 7] [2] [2] [2] 26 K)) =
    (True /\ [DV.agg [DV.int .i64 4, DV.int .i64 0, DV.int .i64 0, DV.str [], DV.bool false, DV.int .i64 36]] = [DV.agg [DV.int .i64 4, DV.int .i64 0, DV.int .i64 0, DV.str [], DV.bool false, DV.int .i64 36]] /\ (True /\ [DV.ptr 28 6 0 0, DV.str nm] = [DV.ptr 28 6 0 0, DV.str nm] /\ [rdr s row col p 0 0] = [rdr s row col p 0 0]) /\ brB r (K Ex.ret (mkS 26 [(2, DV.ptr 2 18 0 0)] [(2, Blk.box [DV.int .i64 1, DV.int .i64 4, DV.int .i64 0, DV.int .i64 0, DV.str [], DV.bool false, DV.int .i64 36, DV.int .i64 0, DV.int .i64 0, DV.bool false, DV.bool false, DV.int .i64 0, DV.int .i64 0, DV.bool false, DV.bool false, DV.int .i64 0, DV.int .i64 0, DV.nilsl])] [rdr s row col p1 0 0])) (L (mkS 26 [(0, DV.ptr 26 6 0 0), (2, DV.ptr 2 18 0 0), (5, DV.psl 1 [DV.int .i64 0, DV.int .i64 7, DV.int .i64 15, DV.int .i64 23, DV.int .i64 29, DV.int .i64 36, DV.int .i64 42]), (6, DV.int .i64 7), (7, DV.int .i64 6)] [(2, Blk.box zeroE)] [rdr s row col p1 0 0]))) := by kernel_rfl
theorem vc146_6 (s : List UInt8) (row col : Int) (p p1 : Nat) (nm : List UInt8) (r : Bool) (L : St -> Prop) (K : Ex -> St -> Prop) : (vcB cfg (E146b s row col p p1 42 nm r) 146 0 (hd146 s row col p 6) (bodyK L [0, 2, 5, 6, 7] [2] [2] [2] 26 K)) =
    (True /\ [DV.agg [DV.int .i64 4, DV.int .i64 0, DV.int .i64 0, DV.str [], DV.bool false, DV.int .i64 42]] = [DV.agg [DV.int .i64 4, DV.int .i64 0, DV.int .i64 0, DV.str [], DV.bool false, DV.int .i64 42]] /\ (True /\ [DV.ptr 28 6 0 0, DV.str nm] = [DV.ptr 28 6 0 0, DV.str nm] /\ [rdr s row col p 0 0] = [rdr s row col p 0 0]) /\ brB r (K Ex.ret (mkS 26 [(2, DV.ptr 2 18 0 0)] [(2, Blk.box [DV.int .i64 1, DV.int .i64 4, DV.int .i64 0, DV.int .i64 0, DV.str [], DV.bool false, DV.int .i64 42, DV.int .i64 0, DV.int .i64 0, DV.bool false, DV.bool false, DV.int .i64 0, DV.int .i64 0, DV.bool false, DV.bool false, DV.int .i64 0, DV.int .i64 0, DV.nilsl])] [rdr s row col p1 0 0])) (L (mkS 26 [(0, DV.ptr 26 6 0 0), (2, DV.ptr 2 18 0 0), (5, DV.psl 1 [DV.int .i64 0, DV.int .i64 7, DV.int .i64 15, DV.int .i64 23, DV.int .i64 29, DV.int .i64 36, DV.int .i64 42]), (6, DV.int .i64 7), (7, DV.int .i64 7)] [(2, Blk.box zeroE)] [rdr s row col p1 0 0]))) := by kernel_rfl
def hd75 (s : List UInt8) (row col : Int) (q : Int) (p : Int) (acc : List UInt8) : St := mkS 87 [(0, .ptr 87 6 0 0), (2, .ptr 2 18 0 0), (3, .int .i64 q), (4, .str acc)] [(2, .box zeroE)] [rdr s row col p 0 0]
def F75 (s : List UInt8) (row col : Int) (q : Int) (p : Int) (acc : List UInt8) (k : Ex -> St -> Prop) : Prop := k (.exit 0) (mkS 87 [(0, .ptr 87 6 0 0), (2, .ptr 2 18 0 0), (3, .int .i64 q), (4, .str acc)] [(2, .box zeroE)] [rdr s row col p 0 0])
def E75 (L : St -> Prop) (s : List UInt8) (row col : Int) (q : Int) (p : Int) (acc : List UInt8) (n : Int) : Env := { cs := [(113, callG True [.str acc] (.tup [.int .i64 n, .int .i64 0])), (76, noCall)], ls := [(0, loopS [0, 2, 3, 4] [2] 87 L (F75 s row col q p acc))] }
def E75b (n : Nat) (x : List UInt8) : Env := { cs := [(112, callG True [.str x, .int .u8 34] (.int .i64 n)), (109, hpS), (76, noCall)] }
theorem vc75 (s : List UInt8) (row col : Int) (p p1 : Int) (acc : List UInt8) (n : Int) (L : St -> Prop) (Φ : DV -> List Blk -> Prop) : (vcF cfg (E75 L s row col p p1 acc n) 75 [.ptr 87 6 0 0] [rdr s row col p 0 0] Φ) =
    (L (mkS 87 [(0, DV.ptr 87 6 0 0), (2, DV.ptr 2 18 0 0), (3, DV.int .i64 p), (4, DV.str [])] [(2, Blk.box zeroE)] [rdr s row col p 0 0]) /\ True /\ [DV.str acc] = [DV.str acc] /\ Φ (DV.agg [DV.int .i64 1, DV.int .i64 2, DV.int .i64 0, DV.int .i64 0, DV.str acc, DV.bool false, DV.int .i64 0, DV.int .i64 0, DV.int .i64 0, DV.bool false, DV.bool false, DV.int .i64 0, DV.int .i64 0, DV.bool false, DV.bool false, DV.int .i64 0, DV.int .i64 0, DV.nilsl]) [rdr s row col p1 0 0]) := by kernel_rfl
theorem vc75b (s : List UInt8) (row col : Int) (q p : Int) (n : Nat) (acc x : List UInt8) (L : St -> Prop) (K : Ex -> St -> Prop) : (vcB cfg (E75b n x) 75 0 (hd75 s row col q p acc) (bodyK L [0, 2, 3, 4] [2] [0, 2, 3, 4] [2] 87 K)) =
    (obB (inR .i64 (p + (1 : Int))) (obB (decide ((0 : Int) <= p + (1 : Int))) (obB (decide (Int.toNat (p + (1 : Int)) <= List.length s)) (True /\ [DV.str (List.drop (Int.toNat (p + (1 : Int))) (List.take (List.length s) s)), DV.int .u8 34] = [DV.str x, DV.int .u8 34] /\ obB (inR .i64 (p + (1 : Int) + (↑n : Int))) (obB (decide ((0 : Int) <= p + (1 : Int) + (↑n : Int))) (obB (decide (Int.toNat (p + (1 : Int) + (↑n : Int)) <= List.length s)) (obB (decide ((0 : Int) <= p + (1 : Int))) (obB (decide (Int.toNat (p + (1 : Int)) <= Int.toNat (p + (1 : Int) + (↑n : Int)))) (obB (decide (List.length acc + List.length (List.drop (Int.toNat (p + (1 : Int))) (List.take (Int.toNat (p + (1 : Int) + (↑n : Int))) s)) <= 4294967296)) (obB (inR .i64 ((↑n : Int) + 1)) (obB (inR .i64 (p + (1 : Int) + ((↑n : Int) + 1))) (obB (decide ((0 : Int) <= p + (1 : Int) + ((↑n : Int) + 1))) (obB (decide (Int.toNat (p + (1 : Int) + ((↑n : Int) + 1)) <= List.length s)) (brB (!hp (List.drop (Int.toNat (p + (1 : Int) + ((↑n : Int) + 1))) (List.take (List.length s) s)) #[(34 : UInt8)].toList) (K (Ex.exit 0) (mkS 87 [(0, DV.ptr 87 6 0 0), (2, DV.ptr 2 18 0 0), (3, DV.int .i64 q), (4, DV.str (acc ++ List.drop (Int.toNat (p + (1 : Int))) (List.take (Int.toNat (p + (1 : Int) + (↑n : Int))) s)))] [(2, Blk.box zeroE)] [Blk.box [DV.str s, DV.int .i64 row, DV.int .i64 col, DV.int .i64 (p + (1 : Int) + ((↑n : Int) + 1)), DV.int .i64 0, DV.int .i64 0]])) (obB (decide (List.length (acc ++ List.drop (Int.toNat (p + (1 : Int))) (List.take (Int.toNat (p + (1 : Int) + (↑n : Int))) s)) + 1 <= 4294967296)) (L (mkS 87 [(0, DV.ptr 87 6 0 0), (2, DV.ptr 2 18 0 0), (3, DV.int .i64 q), (4, DV.str (acc ++ List.drop (Int.toNat (p + (1 : Int))) (List.take (Int.toNat (p + (1 : Int) + (↑n : Int))) s) ++ #[(34 : UInt8)].toList))] [(2, Blk.box zeroE)] [Blk.box [DV.str s, DV.int .i64 row, DV.int .i64 col, DV.int .i64 (p + (1 : Int) + ((↑n : Int) + 1)), DV.int .i64 0, DV.int .i64 0]]))))))))))))))))) := by kernel_rfl
end Go.Det.Sea
end

section
namespace Go.Det.Sea
open Go Go.Det
theorem inRu64 {n : Int} (h : 0 <= n /\ n <= 18446744073709551615) : inR .u64 n = true := by
  unfold inR; rw [Go.IntWalk.u64_in n h]; exact beq_self_eq_true n
theorem ix_none {l : List UInt8} {x : UInt8} (h : ∀ y ∈ l, y ≠ x) : Lib.indexByte l x = -1 := by
  induction l with
  | nil => rfl
  | cons b l ih =>
    have hb : (b == x) = false := by rw [beq_eq_false_iff_ne]; exact h b (by simp)
    unfold Lib.indexByte
    rw [ih fun y hy => h y (by simp [hy]), hb]
    simp
theorem ix_at {l t : List UInt8} {x : UInt8} (h : ∀ y ∈ l, y ≠ x) : Lib.indexByte (l ++ x :: t) x = (l.length : Int) := by
  induction l with
  | nil => simp [Lib.indexByte]
  | cons b l ih =>
    have hb : (b == x) = false := by rw [beq_eq_false_iff_ne]; exact h b (by simp)
    show Lib.indexByte (b :: (l ++ x :: t)) x = _
    unfold Lib.indexByte
    rw [ih fun y hy => h y (by simp [hy]), hb]
    have : ((l.length : Int) == -1) = false := by rw [beq_eq_false_iff_ne]; omega
    simp [this]
theorem dig_ne {l : List UInt8} (h : l.all isDig = true) {x : UInt8} (hx : x.toNat < 48) : ∀ y ∈ l, y ≠ x := by
  rw [List.all_eq_true] at h
  intro y hy e
  have := isDig_at (h y hy)
  rw [e] at this; omega
theorem val_ge : ∀ (l : List UInt8), l.all isDig = true -> l ≠ [] -> (l.getD 0 0).toNat ≠ 48 -> 10 ^ (l.length - 1) <= valD l := by
  intro l h1 h2 h3
  cases l with
  | nil => exact absurd rfl h2
  | cons x l =>
    rw [List.all_cons, Bool.and_eq_true] at h1
    have hx := isDig_at h1.1
    rw [List.getD_cons_zero] at h3
    unfold valD
    rw [List.foldl_cons, foldl_val, List.length_cons, Nat.add_sub_cancel]
    have : 1 * 10 ^ l.length <= (0 * 10 + (x.toNat - 48)) * 10 ^ l.length := Nat.mul_le_mul_right _ (by omega)
    omega
theorem numOK_len {wh bh : List UInt8} (h : NumOK wh bh) : wh.length <= 20 := by
  by_cases hl : wh.length > 1
  · refine Decidable.byContradiction fun hc => ?_
    have h1 : (wh ++ bh).all isDig = true := by rw [List.all_append, h.wd, h.bd]; rfl
    have h2 := val_ge (wh ++ bh) h1 (by simp [h.w0]) (by rw [getD_app h.w0]; exact h.lead hl)
    have h3 := h.small
    have h4 : 10 ^ 20 <= 10 ^ ((wh ++ bh).length - 1) := Nat.pow_le_pow_right (by omega) (by rw [List.length_append]; omega)
    omega
  · omega
section
variable {Pr Ow : Nat -> List DV -> DV -> Prop}
theorem go151 (hix : SpecOK cfg Pr Ow 154 idxS) {wh bh : List UInt8} (h : NumOK wh bh) (Φ : DV -> List Blk -> Prop) (hΦ : Φ (.tup [.str wh, .str bh, .bool (!bh.isEmpty)]) []) : GoC cfg Pr Ow 151 [.str (wh ++ ptT bh), .str [46]] [] Φ := by
  have hw := dig_ne h.wd (x := 46) (by decide)
  obtain ⟨c, l, e⟩ : ∃ c l, wh = c :: l := by have := h.w0; cases wh with | nil => exact absurd rfl this | cons c l => exact ⟨c, l, rfl⟩
  have hl : bh.length <= 9 := h.blen
  have hwl : wh.length <= 4000000000 \/ True := .inr trivial
  refine fn_of0 (E := E151 (wh ++ ptT bh) [46] wh bh (!bh.isEmpty)) (envOK ⟨callG_ok fun _ Φ hΦ => ?_, trivial⟩ trivial trivial) rfl (by rw [vc151]; exact ⟨trivial, rfl, hΦ⟩)
  refine fn_of0 (E := E189 (wh ++ ptT bh) [46] (Lib.indexByte (wh ++ ptT bh) 46)) (envOK ⟨callG_ok fun _ Φ hΦ => ?_, trivial⟩ trivial trivial) rfl ?_
  · refine fn_of0 (E := E204) (envOK ⟨hix, trivial⟩ trivial trivial) rfl ?_
    rw [vc204]
    refine brB_of (fun h0 => ?_) (fun _ => hΦ)
    rw [e] at h0
    simp at h0
    exact absurd h0.1 (fun h => hw c (by rw [e]; simp) h.symm)
  · rw [vc189]
    cases bh with
    | nil =>
      have : Lib.indexByte (wh ++ ptT []) 46 = -1 := by
        show Lib.indexByte (wh ++ []) 46 = -1
        rw [List.append_nil]; exact ix_none hw
      rw [this]
      refine ⟨trivial, rfl, brB_of (fun h0 => by simp at h0) fun _ => ?_⟩
      simpa [ptT] using hΦ
    | cons y t =>
      have : Lib.indexByte (wh ++ ptT (y :: t)) 46 = (wh.length : Int) := ix_at hw
      rw [this]
      have t1 : Int.toNat (wh.length : Int) = wh.length := by omega
      have t2 : Int.toNat ((wh.length : Int) + ((1 : Nat) : Int)) = wh.length + 1 := by omega
      have hle : wh.length + 1 <= (wh ++ ptT (y :: t)).length := by simp [ptT]
      by_cases hbig : wh.length <= 4000000000
      · refine ⟨trivial, rfl, brB_of (fun _ => obB_of (decide_eq_true (by omega)) (obB_of (decide_eq_true (by rw [t1]; omega)) (obB_of (inR64 (by omega)) (obB_of (decide_eq_true (by omega)) (obB_of (decide_eq_true (by rw [show ((1 : Nat) : Int) = 1 from rfl] at t2; rw [t2]; exact hle)) ?_))))) (fun h0 => by have := of_decide_eq_false h0; omega)⟩
        rw [t1, show Int.toNat ((wh.length : Int) + 1) = wh.length + 1 by omega]
        have e1 : List.drop 0 (List.take wh.length (wh ++ ptT (y :: t))) = wh := by simp
        have e2 : List.drop (wh.length + 1) (List.take (wh ++ ptT (y :: t)).length (wh ++ ptT (y :: t))) = y :: t := by
          rw [List.take_length, ← List.drop_drop, List.drop_left]; rfl
        rw [e1, e2]
        exact hΦ
      · exfalso
        have := numOK_len h
        omega
theorem nt110 : ntOf cfg 110 = 123 := by kernel_rfl
theorem nd110 : nodupK (loops 0 (codeOf cfg 110)) = true := by kernel_rfl
theorem loop110 (s wh bh cat : List UInt8) {K : Ex -> St -> Prop} : ∀ (l : List UInt8) (j a : Nat), cat.drop j = l -> l.all isDig = true -> l.foldl (fun a x => a * 10 + (x.toNat - 48)) a < 9223372036854775808 -> 
    F110 s wh bh ((l.foldl (fun a x => a * 10 + (x.toNat - 48)) a : Nat) : Int) K -> GoL cfg Pr Ow 110 123 (bodyOf cfg 110 0) (hd110 s wh bh cat j a) K := by
  intro l
  induction l with
  | nil =>
    intro j a hd _ hm hF
    have hge : ¬ j < cat.length := fun h => by rw [List.drop_eq_getElem_cons h] at hd; cases hd
    refine round_of (E := E110b 0) (envOK trivial trivial trivial) nt110 rfl (L := fun _ => False) (ks := [0, 2, 3, 5, 6, 7, 9, 10, 11, 53]) (bs := [2, 9, 53]) (ks2 := [0, 2, 3, 5, 6, 7, 9, 10, 11]) (bs2 := [2, 9]) ?_ (fun _ h => h.elim)
    rw [vc110b]
    exact brB_of (fun h => absurd (of_decide_eq_true h) hge) (fun _ => hF)
  | cons y l ih =>
    intro j a hd hA hm hF
    obtain ⟨hx, hlt, htl⟩ := byt_drop hd
    rw [List.all_cons, Bool.and_eq_true] at hA
    obtain ⟨y1, y2⟩ := isDig_at hA.1
    simp only [List.foldl_cons] at hm hF
    have hle : a * 10 + (y.toNat - 48) < 9223372036854775808 := Nat.lt_of_le_of_lt (foldl_mono (fun a x => by omega) l _) hm
    refine round_of (E := E110b y.toNat) (envOK trivial trivial trivial) nt110 rfl (L := fun st => st = hd110 s wh bh cat (j + 1) ((a * 10 + (y.toNat - 48) : Nat) : Int)) (ks := [0, 2, 3, 5, 6, 7, 9, 10, 11, 53]) (bs := [2, 9, 53]) (ks2 := [0, 2, 3, 5, 6, 7, 9, 10, 11]) (bs2 := [2, 9]) ?_ ?_
    · rw [vc110b]
      have c1 : (decide ((y.toNat : Int) < 48) || decide ((y.toNat : Int) > 57)) = false := by
        rw [decide_eq_false (show ¬ ((y.toNat : Int) < 48) by omega), decide_eq_false (show ¬ ((y.toNat : Int) > 57) by omega)]; rfl
      have c2 : decide ((a : Int) > 1844674407370955160) = false := decide_eq_false (by omega)
      have ew : IntKind.wrap .u64 ((y.toNat : Int) - 48) = ((y.toNat - 48 : Nat) : Int) := by rw [Go.IntWalk.u64_in _ (by omega)]; omega
      have eX : (a : Int) * 10 + ((y.toNat - 48 : Nat) : Int) = ((a * 10 + (y.toNat - 48) : Nat) : Int) := by omega
      rw [c1, c2, ew, eX]
      refine brB_of (fun _ => ⟨by rw [dec_ascii hlt (by rw [hx]; omega), hx], brB_of (fun h => by cases h) fun _ => brB_of (fun _ => obB_of (inRu64 (by omega)) (obB_of (inR32 (by omega)) (obB_of (inRu64 (by omega)) rfl))) (fun h => by cases h)⟩) (fun h => absurd (decide_eq_true hlt) (by rw [h]; decide))
    · rintro _ rfl
      exact ih (j + 1) _ htl hA.2 hm hF
theorem go110 (hix : SpecOK cfg Pr Ow 154 idxS) {wh bh : List UInt8} (h : NumOK wh bh) (Φ : DV -> List Blk -> Prop) (hΦ : Φ (.tup [.agg [.int .i64 (valD (wh ++ bh)), .int .i64 bh.length], .int .i64 0]) []) : GoC cfg Pr Ow 110 [.str (wh ++ ptT bh)] [] Φ := by
  have hlen := numOK_len h
  have hb := h.blen
  obtain ⟨c, l, e⟩ : ∃ c l, wh = c :: l := by have := h.w0; cases wh with | nil => exact absurd rfl this | cons c l => exact ⟨c, l, rfl⟩
  have hc : isDig c = true := by have := h.wd; rw [e, List.all_cons, Bool.and_eq_true] at this; exact this.1
  obtain ⟨c1, c2⟩ := isDig_at hc
  have k1 : cpF (wh ++ ptT bh) [45] = (wh ++ ptT bh, false) := by
    unfold cpF
    have : hp (wh ++ ptT bh) [45] = false := by
      rw [e]
      show (Nat.beq c.toNat (45 : UInt8).toNat && _) = false
      cases hq : Nat.beq c.toNat (45 : UInt8).toNat with
      | false => rfl
      | true => have := Nat.eq_of_beq_eq_true hq; have : (45 : UInt8).toNat = 45 := rfl; omega
    rw [this]; rfl
  have k2 : hsF bh [48] = false := by
    unfold hsF
    cases hbh : bh.getLast? with
    | none =>
      have : bh = [] := by simpa using hbh
      rw [this]; rfl
    | some x =>
      have hx := h.last x hbh
      have hne : bh ≠ [] := by intro h0; rw [h0] at hbh; cases hbh
      have e1 : bh.drop (bh.length - 1) = [x] := by
        obtain ⟨ys, e⟩ := List.getLast?_eq_some_iff.1 hbh
        rw [e]; simp
      rw [show [(48 : UInt8)].length = 1 from rfl, e1]
      have : (([x] : List UInt8) == [48]) = false := by
        rw [beq_eq_false_iff_ne]
        intro h0
        have : x = 48 := by simpa using h0
        rw [this] at hx; exact hx rfl
      rw [this, Bool.and_false]
  have eB : (wh == #[].toList || !bh.isEmpty && bh == #[].toList || decide ((↑(List.length wh) : Int) > 1) && (↑(UInt8.toNat (List.getD wh 0 (0 : UInt8))) : Int) == 48 || wh ++ ptT bh == #[(45 : UInt8), (48 : UInt8)].toList) = false := by
    have b1 : (wh == #[].toList) = false := by rw [beq_eq_false_iff_ne]; exact h.w0
    have b2 : (!bh.isEmpty && bh == #[].toList) = false := by cases bh <;> rfl
    have b3 : (decide ((↑(List.length wh) : Int) > 1) && (↑(UInt8.toNat (List.getD wh 0 (0 : UInt8))) : Int) == 48) = false := by
      rw [Bool.and_eq_false_iff]
      by_cases hl : wh.length > 1
      · right
        rw [beq_eq_false_iff_ne]
        have := h.lead hl
        omega
      · left; exact decide_eq_false (by omega)
    have b4 : (wh ++ ptT bh == #[(45 : UInt8), (48 : UInt8)].toList) = false := by
      rw [beq_eq_false_iff_ne, e]
      intro h0
      have : c = 45 := by simpa using (List.cons.inj h0).1
      rw [this] at c1
      have : (45 : UInt8).toNat = 45 := rfl
      omega
    rw [b1, b2, b3, b4]; rfl
  have hsm := h.small
  refine fn_of (E := E110 (fun st => st = hd110 (wh ++ ptT bh) wh bh (wh ++ bh) 0 0) (wh ++ ptT bh) wh bh (!bh.isEmpty) (valD (wh ++ bh) : Nat)) (envOK trivial ⟨callG_ok fun _ Φ h => go150 _ _ Φ (by rw [k1]; exact h), callG_ok fun _ => go151 hix h, callG_ok fun _ Φ h' => go152 bh (by omega) 48 Φ (by rw [k2]; exact h'), trivial⟩ trivial) nt110 nd110 ?_ ?_
  · intro b sp hl' st k hk
    obtain ⟨rfl, rfl⟩ := look_one rfl hl'
    refine loopS_ok (fun st hst K hK => ?_) hk
    subst hst
    refine loop110 (wh ++ ptT bh) wh bh (wh ++ bh) (wh ++ bh) 0 0 rfl (by rw [List.all_append, h.wd, h.bd]; rfl) hsm ?_
    exact hK
  · rw [vc110, eB]
    refine ⟨trivial, rfl, trivial, rfl, obB_of ?_ (obB_of (decide_eq_true (by omega)) ⟨rfl, brB_of (fun h0 => ?_) fun _ => brB_of (fun h0 => ?_) fun _ => ⟨trivial, rfl, ?_⟩⟩)⟩
    · rw [Bool.or_eq_true]; left; exact decide_eq_true (by rw [e]; simp)
    · exfalso
      rw [Bool.and_true, Bool.or_eq_true] at h0
      rcases h0 with h0 | h0
      · have := of_decide_eq_true h0; omega
      · have : ((valD (wh ++ bh) : Nat) : Int) = 9223372036854775808 := by simpa using h0
        omega
    · have := of_decide_eq_true h0; omega
    · rw [Go.IntWalk.i64_in _ (by omega)]; exact hΦ
theorem wrap_neg {m : Int} (h1 : -9223372036854775808 < m) (h2 : m < 0) : IntKind.wrap .u64 (0 - IntKind.wrap .u64 m) = ((m.natAbs : Nat) : Int) := by
  rw [IntKind.wrap_u64, IntKind.wrap_u64]; omega
structure LbB (Pr Ow : Nat -> List DV -> DV -> Prop) (uN uE : List UInt8 -> Int) : Prop where
  fu : ∀ (n : Nat), n < 9223372036854775808 -> ∀ Φ : DV -> List Blk -> Prop, Φ (.str (Lib.decDigits n)) [] -> GoC cfg Pr Ow 173 [.int .u64 n, .int .i64 10] [] Φ
  rp : ∀ (k : Nat), k <= 100 -> ∀ Φ : DV -> List Blk -> Prop, Φ (.str (List.replicate k 48)) [] -> GoC cfg Pr Ow 174 [.str [48], .int .i64 k] [] Φ
  ra : ∀ x : List UInt8, x.length <= 3000 -> ∀ Φ : DV -> List Blk -> Prop, Φ (.str (dbl x)) [] -> GoC cfg Pr Ow 93 [.str x, .str [34], .str [34, 34]] [] Φ
  un : ∀ x : List UInt8, x.length <= 3000 -> UnitsOK Pr Ow uN uE x
theorem go135 {uN uE : List UInt8 -> Int} (lb : LbB Pr Ow uN uE) (m sc : Int) (h1 : -9223372036854775808 < m) (h2 : m < 9223372036854775808) (h3 : 0 <= sc) (h4 : sc <= 9) (Φ : DV -> List Blk -> Prop) (hΦ : Φ (.str (decT m sc)) []) : GoC cfg Pr Ow 135 [.agg [.int .i64 m, .int .i64 sc]] [] Φ := by
  have hdl : (Lib.decDigits m.natAbs).length <= 19 := dec_len_le (k := 19) (by omega) (by omega)
  obtain ⟨p1, p2, p3⟩ := pad_len m.natAbs sc.toNat
  refine fn_of0 (E := E135 m (m.natAbs : Nat) (decide (m < 0)) (Lib.decDigits m.natAbs) (List.replicate (sc.toNat + 1 - (Lib.decDigits m.natAbs).length) 48) ((sc.toNat + 1 - (Lib.decDigits m.natAbs).length : Nat) : Int) True)
    (envOK ⟨callG_ok fun _ Φ h => ?_, callG_ok fun _ => lb.fu m.natAbs (by omega), callG_ok fun _ => lb.rp _ (by omega), trivial⟩ trivial trivial) rfl ?_
  · refine fn_of0 E0_ok rfl ?_
    rw [vc172]
    refine brB_of (fun h0 => ?_) (fun h0 => ?_)
    · have hm := of_decide_eq_true h0
      rw [wrap_neg h1 hm]
      rw [h0] at h; exact h
    · have hm := of_decide_eq_false h0
      rw [Go.IntWalk.u64_in _ (by omega), show m = ((m.natAbs : Nat) : Int) by omega]
      rw [h0] at h
      exact h
  · rw [vc135]
    unfold decT uDecT at hΦ
    have hpad : List.replicate (sc.toNat + 1 - (Lib.decDigits m.natAbs).length) 48 ++ Lib.decDigits m.natAbs = padT m.natAbs sc.toNat := rfl
    have hpl : (padT m.natAbs sc.toNat).length <= 30 := by rw [← hpad]; simp; omega
    rw [hpad]
    generalize hP : padT m.natAbs sc.toNat = P at *
    generalize hD : Lib.decDigits m.natAbs = D at *
    refine ⟨trivial, rfl, trivial, rfl, brB_of (fun h0 => ?_) (fun h0 => ?_)⟩
    · have hs := of_decide_eq_true h0
      have e0 : decide (0 < sc.toNat) = true := decide_eq_true (by omega)
      rw [e0] at hΦ
      have t1 : Int.toNat ((P.length : Int) - sc) = P.length - sc.toNat := by omega
      rw [t1]
      have t2 : List.drop 0 (List.take (P.length - sc.toNat) P) = List.take (P.length - sc.toNat) P := rfl
      have t3 : List.drop (P.length - sc.toNat) (List.take P.length P) = List.drop (P.length - sc.toNat) P := by rw [List.take_length]
      rw [t2, t3]
      have l1 : (List.take (P.length - sc.toNat) P).length <= 30 := by rw [List.length_take]; omega
      have l2 : (List.drop (P.length - sc.toNat) P).length <= 30 := by rw [List.length_drop]; omega
      have hrl : (List.replicate (sc.toNat + 1 - D.length) (48 : UInt8)).length <= 30 := by simp; omega
      refine obB_of (inR64 (by omega)) (obB_of (inR64 (by omega)) ⟨trivial, ?_, obB_of (decide_eq_true (by omega)) (obB_of (inR64 (by omega)) (obB_of (decide_eq_true (by omega)) (obB_of (decide_eq_true (by omega)) (obB_of (decide_eq_true (by omega)) (obB_of (inR64 (by omega)) (obB_of (decide_eq_true (by omega)) (obB_of (decide_eq_true (by omega)) (obB_of (decide_eq_true (by rw [List.length_append]; simp; omega)) (brB_of (fun h5 => obB_of (decide_eq_true (by rw [List.length_append, List.length_append]; simp; omega)) ?_) (fun h5 => ?_))))))))))⟩)
      · rw [if_pos rfl]
        by_cases hk : (0 : Int) > sc + 1 - (D.length : Int)
        · rw [if_pos hk, show sc.toNat + 1 - D.length = 0 by omega]; rfl
        · rw [if_neg hk, show sc + 1 - (D.length : Int) = ((sc.toNat + 1 - D.length : Nat) : Int) by omega]
      · rw [h5] at hΦ
        simpa using hΦ
      · rw [h5] at hΦ
        simpa using hΦ
    · have hs := of_decide_eq_false h0
      have e0 : decide (0 < sc.toNat) = false := decide_eq_false (by omega)
      rw [e0] at hΦ
      refine brB_of (fun h5 => obB_of (decide_eq_true (by omega)) ?_) (fun h5 => ?_)
      · rw [h5] at hΦ
        exact hΦ
      · rw [h5] at hΦ
        exact hΦ
theorem go94 {uN uE : List UInt8 -> Int} (lb : LbB Pr Ow uN uE) (v : Vl) (hv : v.kind = 1 -> (-9223372036854775808 < v.m /\ v.m < 9223372036854775808) /\ 0 <= v.s /\ v.s <= 9) (Φ : DV -> List Blk -> Prop) (hΦ : Φ (.str (valT v)) []) : GoC cfg Pr Ow 94 [v.dv] [] Φ := by
  refine fn_of0 (E := E94 v (decT v.m v.s) (nameF v.e)) (envOK ⟨callG_ok fun h => go135 lb v.m v.s (hv h).1.1 (hv h).1.2 (hv h).2.1 (hv h).2.2, callG_ok fun _ => go131 _, trivial⟩ trivial trivial) rfl ?_
  rw [vc94]
  unfold valT at hΦ
  refine brB_of (fun h1 => ?_) (fun h1 => ?_)
  · simp only [h1, cond_true] at hΦ
    exact ⟨by simpa using h1, rfl, hΦ⟩
  simp only [h1, cond_false] at hΦ
  refine brB_of (fun h1 => ?_) (fun h1 => ?_)
  · simp only [h1, cond_true] at hΦ; exact hΦ
  simp only [h1, cond_false] at hΦ
  refine brB_of (fun h1 => ?_) (fun h1 => ?_)
  · simp only [h1, cond_true] at hΦ
    unfold truT at hΦ
    refine brB_of (fun h2 => ?_) (fun h2 => ?_)
    · simp only [h2, cond_true] at hΦ; exact hΦ
    · simp only [h2, cond_false] at hΦ; exact hΦ
  simp only [h1, cond_false] at hΦ
  refine brB_of (fun h1 => ?_) (fun h1 => ?_)
  · simp only [h1, cond_true] at hΦ; exact ⟨trivial, rfl, hΦ⟩
  simp only [h1, cond_false] at hΦ
  exact hΦ
theorem go94f (e : Int) (Φ : DV -> List Blk -> Prop) (hΦ : Φ (.str (nameF e)) []) : GoC cfg Pr Ow 94 [.agg [.int .i64 4, .int .i64 0, .int .i64 0, .str [], .bool false, .int .i64 e]] [] Φ := by
  refine fn_of0 (E := E94 ⟨4, 0, 0, [], false, e⟩ [] (nameF e)) (envOK ⟨callG_ok (fun h => by cases h), callG_ok fun _ => go131 _, trivial⟩ trivial trivial) rfl ?_
  have := vc94 ⟨4, 0, 0, [], false, e⟩ [] (nameF e) Φ
  show vcF cfg (E94 ⟨4, 0, 0, [], false, e⟩ [] (nameF e)) 94 [Vl.dv ⟨4, 0, 0, [], false, e⟩] [] Φ
  rw [this]
  exact ⟨trivial, rfl, hΦ⟩
theorem go55 {uN uE : List UInt8 -> Int} (lb : LbB Pr Ow uN uE) (v : Vl) (hv : v.kind = 1 -> (-9223372036854775808 < v.m /\ v.m < 9223372036854775808) /\ 0 <= v.s /\ v.s <= 9) (hs : v.txt.length <= 3000) (Φ : DV -> List Blk -> Prop) (hΦ : Φ (.str (constT v)) []) : GoC cfg Pr Ow 55 [v.dv] [] Φ := by
  have hd : ∀ l : List UInt8, (dbl l).length <= 2 * l.length := by
    intro l
    induction l with
    | nil => exact Nat.le_refl _
    | cons x l ih =>
      unfold dbl
      cases Nat.beq x.toNat 34 <;> simp <;> omega
  have := hd v.txt
  refine fn_of0 (E := E55 v (dbl v.txt) (valT v)) (envOK ⟨callG_ok fun _ => lb.ra _ hs, callG_ok fun _ => go94 lb v hv, trivial⟩ trivial trivial) rfl ?_
  rw [vc55]
  unfold constT at hΦ
  refine brB_of (fun h1 => ?_) (fun h1 => ?_)
  · simp only [h1, cond_true] at hΦ
    exact ⟨by simpa using h1, rfl, obB_of (decide_eq_true (by omega)) (obB_of (decide_eq_true (by simp; omega)) hΦ)⟩
  · simp only [h1, cond_false] at hΦ
    exact ⟨trivial, rfl, hΦ⟩
theorem fltS_ok : SpecOK cfg Pr Ow 164 fltS := by
  intro xs ex k h
  unfold fltS at h
  split at h
  · refine fn_of0 E0_ok rfl ?_
    rw [vc164b]; exact h
  · exact h.elim
theorem nt146 : ntOf cfg 146 = 26 := by kernel_rfl
theorem nd146 : nodupK (loops 0 (codeOf cfg 146)) = true := by kernel_rfl
theorem flt_no0 (s : List UInt8) (row col : Int) (hs : s.length <= 4000000000) (p p1 : Nat) (hp' : p <= s.length) (h : signF s p (nameF 0) = (false, p1)) {K : Ex -> St -> Prop} (hK : GoL cfg Pr Ow 146 26 (bodyOf cfg 146 0) (hd146 s row col p1 1) K) : GoL cfg Pr Ow 146 26 (bodyOf cfg 146 0) (hd146 s row col p 0) K := by
  refine round_of (E := E146b s row col p p1 0 (nameF 0) false) (envOK ⟨fltS_ok, callG_ok fun _ => go94f 0, sign_ok s row col hs hp' (by decide) h, trivial⟩ trivial trivial) nt146 rfl (L := fun st => st = hd146 s row col p1 1) (ks := [0, 2, 5, 6, 7]) (bs := [2]) (ks2 := [2]) (bs2 := [2]) ?_ (fun st hst => by subst hst; exact hK)
  rw [vc146_0]
  exact ⟨trivial, rfl, ⟨trivial, rfl, rfl⟩, rfl⟩
theorem flt_yes0 (s : List UInt8) (row col : Int) (hs : s.length <= 4000000000) (p p1 : Nat) (hp' : p <= s.length) (h : signF s p (nameF 0) = (true, p1)) {K : Ex -> St -> Prop} (hK : F146 s row col p1 0 K) : GoL cfg Pr Ow 146 26 (bodyOf cfg 146 0) (hd146 s row col p 0) K := by
  refine round_of (E := E146b s row col p p1 0 (nameF 0) true) (envOK ⟨fltS_ok, callG_ok fun _ => go94f 0, sign_ok s row col hs hp' (by decide) h, trivial⟩ trivial trivial) nt146 rfl (L := fun st => False) (ks := [0, 2, 5, 6, 7]) (bs := [2]) (ks2 := [2]) (bs2 := [2]) ?_ (fun _ h => h.elim)
  rw [vc146_0]
  exact ⟨trivial, rfl, ⟨trivial, rfl, rfl⟩, hK⟩
theorem flt_no1 (s : List UInt8) (row col : Int) (hs : s.length <= 4000000000) (p p1 : Nat) (hp' : p <= s.length) (h : signF s p (nameF 7) = (false, p1)) {K : Ex -> St -> Prop} (hK : GoL cfg Pr Ow 146 26 (bodyOf cfg 146 0) (hd146 s row col p1 2) K) : GoL cfg Pr Ow 146 26 (bodyOf cfg 146 0) (hd146 s row col p 1) K := by
  refine round_of (E := E146b s row col p p1 7 (nameF 7) false) (envOK ⟨fltS_ok, callG_ok fun _ => go94f 7, sign_ok s row col hs hp' (by decide) h, trivial⟩ trivial trivial) nt146 rfl (L := fun st => st = hd146 s row col p1 2) (ks := [0, 2, 5, 6, 7]) (bs := [2]) (ks2 := [2]) (bs2 := [2]) ?_ (fun st hst => by subst hst; exact hK)
  rw [vc146_1]
  exact ⟨trivial, rfl, ⟨trivial, rfl, rfl⟩, rfl⟩
theorem flt_yes1 (s : List UInt8) (row col : Int) (hs : s.length <= 4000000000) (p p1 : Nat) (hp' : p <= s.length) (h : signF s p (nameF 7) = (true, p1)) {K : Ex -> St -> Prop} (hK : F146 s row col p1 7 K) : GoL cfg Pr Ow 146 26 (bodyOf cfg 146 0) (hd146 s row col p 1) K := by
  refine round_of (E := E146b s row col p p1 7 (nameF 7) true) (envOK ⟨fltS_ok, callG_ok fun _ => go94f 7, sign_ok s row col hs hp' (by decide) h, trivial⟩ trivial trivial) nt146 rfl (L := fun st => False) (ks := [0, 2, 5, 6, 7]) (bs := [2]) (ks2 := [2]) (bs2 := [2]) ?_ (fun _ h => h.elim)
  rw [vc146_1]
  exact ⟨trivial, rfl, ⟨trivial, rfl, rfl⟩, hK⟩
theorem flt_no2 (s : List UInt8) (row col : Int) (hs : s.length <= 4000000000) (p p1 : Nat) (hp' : p <= s.length) (h : signF s p (nameF 15) = (false, p1)) {K : Ex -> St -> Prop} (hK : GoL cfg Pr Ow 146 26 (bodyOf cfg 146 0) (hd146 s row col p1 3) K) : GoL cfg Pr Ow 146 26 (bodyOf cfg 146 0) (hd146 s row col p 2) K := by
  refine round_of (E := E146b s row col p p1 15 (nameF 15) false) (envOK ⟨fltS_ok, callG_ok fun _ => go94f 15, sign_ok s row col hs hp' (by decide) h, trivial⟩ trivial trivial) nt146 rfl (L := fun st => st = hd146 s row col p1 3) (ks := [0, 2, 5, 6, 7]) (bs := [2]) (ks2 := [2]) (bs2 := [2]) ?_ (fun st hst => by subst hst; exact hK)
  rw [vc146_2]
  exact ⟨trivial, rfl, ⟨trivial, rfl, rfl⟩, rfl⟩
theorem flt_yes2 (s : List UInt8) (row col : Int) (hs : s.length <= 4000000000) (p p1 : Nat) (hp' : p <= s.length) (h : signF s p (nameF 15) = (true, p1)) {K : Ex -> St -> Prop} (hK : F146 s row col p1 15 K) : GoL cfg Pr Ow 146 26 (bodyOf cfg 146 0) (hd146 s row col p 2) K := by
  refine round_of (E := E146b s row col p p1 15 (nameF 15) true) (envOK ⟨fltS_ok, callG_ok fun _ => go94f 15, sign_ok s row col hs hp' (by decide) h, trivial⟩ trivial trivial) nt146 rfl (L := fun st => False) (ks := [0, 2, 5, 6, 7]) (bs := [2]) (ks2 := [2]) (bs2 := [2]) ?_ (fun _ h => h.elim)
  rw [vc146_2]
  exact ⟨trivial, rfl, ⟨trivial, rfl, rfl⟩, hK⟩
theorem flt_no3 (s : List UInt8) (row col : Int) (hs : s.length <= 4000000000) (p p1 : Nat) (hp' : p <= s.length) (h : signF s p (nameF 23) = (false, p1)) {K : Ex -> St -> Prop} (hK : GoL cfg Pr Ow 146 26 (bodyOf cfg 146 0) (hd146 s row col p1 4) K) : GoL cfg Pr Ow 146 26 (bodyOf cfg 146 0) (hd146 s row col p 3) K := by
  refine round_of (E := E146b s row col p p1 23 (nameF 23) false) (envOK ⟨fltS_ok, callG_ok fun _ => go94f 23, sign_ok s row col hs hp' (by decide) h, trivial⟩ trivial trivial) nt146 rfl (L := fun st => st = hd146 s row col p1 4) (ks := [0, 2, 5, 6, 7]) (bs := [2]) (ks2 := [2]) (bs2 := [2]) ?_ (fun st hst => by subst hst; exact hK)
  rw [vc146_3]
  exact ⟨trivial, rfl, ⟨trivial, rfl, rfl⟩, rfl⟩
theorem flt_yes3 (s : List UInt8) (row col : Int) (hs : s.length <= 4000000000) (p p1 : Nat) (hp' : p <= s.length) (h : signF s p (nameF 23) = (true, p1)) {K : Ex -> St -> Prop} (hK : F146 s row col p1 23 K) : GoL cfg Pr Ow 146 26 (bodyOf cfg 146 0) (hd146 s row col p 3) K := by
  refine round_of (E := E146b s row col p p1 23 (nameF 23) true) (envOK ⟨fltS_ok, callG_ok fun _ => go94f 23, sign_ok s row col hs hp' (by decide) h, trivial⟩ trivial trivial) nt146 rfl (L := fun st => False) (ks := [0, 2, 5, 6, 7]) (bs := [2]) (ks2 := [2]) (bs2 := [2]) ?_ (fun _ h => h.elim)
  rw [vc146_3]
  exact ⟨trivial, rfl, ⟨trivial, rfl, rfl⟩, hK⟩
theorem flt_no4 (s : List UInt8) (row col : Int) (hs : s.length <= 4000000000) (p p1 : Nat) (hp' : p <= s.length) (h : signF s p (nameF 29) = (false, p1)) {K : Ex -> St -> Prop} (hK : GoL cfg Pr Ow 146 26 (bodyOf cfg 146 0) (hd146 s row col p1 5) K) : GoL cfg Pr Ow 146 26 (bodyOf cfg 146 0) (hd146 s row col p 4) K := by
  refine round_of (E := E146b s row col p p1 29 (nameF 29) false) (envOK ⟨fltS_ok, callG_ok fun _ => go94f 29, sign_ok s row col hs hp' (by decide) h, trivial⟩ trivial trivial) nt146 rfl (L := fun st => st = hd146 s row col p1 5) (ks := [0, 2, 5, 6, 7]) (bs := [2]) (ks2 := [2]) (bs2 := [2]) ?_ (fun st hst => by subst hst; exact hK)
  rw [vc146_4]
  exact ⟨trivial, rfl, ⟨trivial, rfl, rfl⟩, rfl⟩
theorem flt_yes4 (s : List UInt8) (row col : Int) (hs : s.length <= 4000000000) (p p1 : Nat) (hp' : p <= s.length) (h : signF s p (nameF 29) = (true, p1)) {K : Ex -> St -> Prop} (hK : F146 s row col p1 29 K) : GoL cfg Pr Ow 146 26 (bodyOf cfg 146 0) (hd146 s row col p 4) K := by
  refine round_of (E := E146b s row col p p1 29 (nameF 29) true) (envOK ⟨fltS_ok, callG_ok fun _ => go94f 29, sign_ok s row col hs hp' (by decide) h, trivial⟩ trivial trivial) nt146 rfl (L := fun st => False) (ks := [0, 2, 5, 6, 7]) (bs := [2]) (ks2 := [2]) (bs2 := [2]) ?_ (fun _ h => h.elim)
  rw [vc146_4]
  exact ⟨trivial, rfl, ⟨trivial, rfl, rfl⟩, hK⟩
theorem flt_no5 (s : List UInt8) (row col : Int) (hs : s.length <= 4000000000) (p p1 : Nat) (hp' : p <= s.length) (h : signF s p (nameF 36) = (false, p1)) {K : Ex -> St -> Prop} (hK : GoL cfg Pr Ow 146 26 (bodyOf cfg 146 0) (hd146 s row col p1 6) K) : GoL cfg Pr Ow 146 26 (bodyOf cfg 146 0) (hd146 s row col p 5) K := by
  refine round_of (E := E146b s row col p p1 36 (nameF 36) false) (envOK ⟨fltS_ok, callG_ok fun _ => go94f 36, sign_ok s row col hs hp' (by decide) h, trivial⟩ trivial trivial) nt146 rfl (L := fun st => st = hd146 s row col p1 6) (ks := [0, 2, 5, 6, 7]) (bs := [2]) (ks2 := [2]) (bs2 := [2]) ?_ (fun st hst => by subst hst; exact hK)
  rw [vc146_5]
  exact ⟨trivial, rfl, ⟨trivial, rfl, rfl⟩, rfl⟩
theorem flt_yes5 (s : List UInt8) (row col : Int) (hs : s.length <= 4000000000) (p p1 : Nat) (hp' : p <= s.length) (h : signF s p (nameF 36) = (true, p1)) {K : Ex -> St -> Prop} (hK : F146 s row col p1 36 K) : GoL cfg Pr Ow 146 26 (bodyOf cfg 146 0) (hd146 s row col p 5) K := by
  refine round_of (E := E146b s row col p p1 36 (nameF 36) true) (envOK ⟨fltS_ok, callG_ok fun _ => go94f 36, sign_ok s row col hs hp' (by decide) h, trivial⟩ trivial trivial) nt146 rfl (L := fun st => False) (ks := [0, 2, 5, 6, 7]) (bs := [2]) (ks2 := [2]) (bs2 := [2]) ?_ (fun _ h => h.elim)
  rw [vc146_5]
  exact ⟨trivial, rfl, ⟨trivial, rfl, rfl⟩, hK⟩
theorem flt_yes6 (s : List UInt8) (row col : Int) (hs : s.length <= 4000000000) (p p1 : Nat) (hp' : p <= s.length) (h : signF s p (nameF 42) = (true, p1)) {K : Ex -> St -> Prop} (hK : F146 s row col p1 42 K) : GoL cfg Pr Ow 146 26 (bodyOf cfg 146 0) (hd146 s row col p 6) K := by
  refine round_of (E := E146b s row col p p1 42 (nameF 42) true) (envOK ⟨fltS_ok, callG_ok fun _ => go94f 42, sign_ok s row col hs hp' (by decide) h, trivial⟩ trivial trivial) nt146 rfl (L := fun st => False) (ks := [0, 2, 5, 6, 7]) (bs := [2]) (ks2 := [2]) (bs2 := [2]) ?_ (fun _ h => h.elim)
  rw [vc146_6]
  exact ⟨trivial, rfl, ⟨trivial, rfl, rfl⟩, hK⟩
theorem hp_app (a r : List UInt8) : hp (a ++ r) a = true := by
  induction a with
  | nil => exact hp_nil r
  | cons x a ih => simp only [List.cons_append, hp, Nat.beq_refl, Bool.true_and]; exact ih
def fltE (i : Nat) : Int := [0, 7, 15, 23, 29, 36, 42].getD i 0
theorem go146 (s : List UInt8) (row col : Int) (hs : s.length <= 4000000000) (p : Nat) (hp' : p <= s.length) (i : Nat) (hi : i < 7) (rest : List UInt8) (hd : s.drop p = nameF (fltE i) ++ rest) (Φ : DV -> List Blk -> Prop) (hΦ : Φ (cFlt (fltE i)).dv [rdr s row col ((p + (nameF (fltE i)).length : Nat) : Int) 0 0]) : GoC cfg Pr Ow 146 [.ptr 26 6 0 0] [rdr s row col p 0 0] Φ := by
  have hb : blN s p = p := blN_nb (by
    rw [hd]
    match i, hi with
    | 0, _ => rfl | 1, _ => rfl | 2, _ => rfl | 3, _ => rfl | 4, _ => rfl | 5, _ => rfl | 6, _ => rfl
    | n + 7, h => omega)
  have nof : ∀ e : Int, hp (nameF (fltE i) ++ rest) (nameF e) = false -> signF s p (nameF e) = (false, p) := by
    intro e he
    unfold signF
    simp only [hb, hd, he]; rfl
  have yesf : ∀ e : Int, fltE i = e -> signF s p (nameF e) = (true, p + (nameF e).length) := by
    intro e he
    unfold signF
    simp only [hb, hd, he, hp_app]; rfl
  refine go_wk (WkL.refl _) (fn_of (E := E146 (fun st => st = hd146 s row col p 0) s row col (p + (nameF (fltE i)).length) (fltE i)) (envOK trivial trivial trivial) nt146 nd146 ?_ ?_)
  · intro b sp hl' st k hk
    obtain ⟨rfl, rfl⟩ := look_one rfl hl'
    refine loopS_ok (fun st hst K hK => ?_) hk
    subst hst
    match i, hi with
    | 0, _ =>
      exact flt_yes0 s row col hs p (p + (nameF 0).length) hp' (yesf 0 rfl) hK
    | 1, _ =>
      exact flt_no0 s row col hs p p hp' (nof 0 (by kernel_rfl)) (flt_yes1 s row col hs p (p + (nameF 7).length) hp' (yesf 7 rfl) hK)
    | 2, _ =>
      exact flt_no0 s row col hs p p hp' (nof 0 (by kernel_rfl)) (flt_no1 s row col hs p p hp' (nof 7 (by kernel_rfl)) (flt_yes2 s row col hs p (p + (nameF 15).length) hp' (yesf 15 rfl) hK))
    | 3, _ =>
      exact flt_no0 s row col hs p p hp' (nof 0 (by kernel_rfl)) (flt_no1 s row col hs p p hp' (nof 7 (by kernel_rfl)) (flt_no2 s row col hs p p hp' (nof 15 (by kernel_rfl)) (flt_yes3 s row col hs p (p + (nameF 23).length) hp' (yesf 23 rfl) hK)))
    | 4, _ =>
      exact flt_no0 s row col hs p p hp' (nof 0 (by kernel_rfl)) (flt_no1 s row col hs p p hp' (nof 7 (by kernel_rfl)) (flt_no2 s row col hs p p hp' (nof 15 (by kernel_rfl)) (flt_no3 s row col hs p p hp' (nof 23 (by kernel_rfl)) (flt_yes4 s row col hs p (p + (nameF 29).length) hp' (yesf 29 rfl) hK))))
    | 5, _ =>
      exact flt_no0 s row col hs p p hp' (nof 0 (by kernel_rfl)) (flt_no1 s row col hs p p hp' (nof 7 (by kernel_rfl)) (flt_no2 s row col hs p p hp' (nof 15 (by kernel_rfl)) (flt_no3 s row col hs p p hp' (nof 23 (by kernel_rfl)) (flt_no4 s row col hs p p hp' (nof 29 (by kernel_rfl)) (flt_yes5 s row col hs p (p + (nameF 36).length) hp' (yesf 36 rfl) hK)))))
    | 6, _ =>
      exact flt_no0 s row col hs p p hp' (nof 0 (by kernel_rfl)) (flt_no1 s row col hs p p hp' (nof 7 (by kernel_rfl)) (flt_no2 s row col hs p p hp' (nof 15 (by kernel_rfl)) (flt_no3 s row col hs p p hp' (nof 23 (by kernel_rfl)) (flt_no4 s row col hs p p hp' (nof 29 (by kernel_rfl)) (flt_no5 s row col hs p p hp' (nof 36 (by kernel_rfl)) (flt_yes6 s row col hs p (p + (nameF 42).length) hp' (yesf 42 rfl) hK))))))
    | n + 7, h => omega
  · rw [vc146]
    exact ⟨rfl, _, .inr (wk_cells (cFlt (fltE i)) 18), hΦ⟩
theorem nt75 : ntOf cfg 75 = 87 := by kernel_rfl
theorem nd75 : nodupK (loops 0 (codeOf cfg 75)) = true := by kernel_rfl
theorem split34 : ∀ x : List UInt8, ∃ a, (∀ y ∈ a, y ≠ 34) /\ (x = a /\ dbl x = a \/ ∃ x', x = a ++ 34 :: x' /\ dbl x = a ++ 34 :: 34 :: dbl x')
  | [] => ⟨[], by simp, .inl ⟨rfl, rfl⟩⟩
  | y :: x => by
    cases hb : Nat.beq y.toNat 34 with
    | true =>
      have hy : y = 34 := UInt8.toNat_inj.1 (Nat.eq_of_beq_eq_true hb)
      subst hy
      exact ⟨[], by simp, .inr ⟨x, rfl, by simp [dbl]⟩⟩
    | false =>
      have hy : y ≠ 34 := by
        rintro rfl
        exact absurd hb (by decide)
      obtain ⟨a, h1, h2⟩ := split34 x
      refine ⟨y :: a, fun z hz => ?_, ?_⟩
      · simp only [List.mem_cons] at hz
        rcases hz with rfl | hz
        · exact hy
        · exact h1 z hz
      · rcases h2 with ⟨h2, h3⟩ | ⟨x', h2, h3⟩
        · exact .inl ⟨by rw [h2], by simp [dbl, hb, h3]⟩
        · exact .inr ⟨x', by rw [h2]; rfl, by simp [dbl, hb, h3]⟩
theorem stop75 (hix : SpecOK cfg Pr Ow 154 idxS) (s : List UInt8) (hs : s.length <= 4000000000) (row col : Int) (q : Int) (rest : List UInt8) (hr : ∀ y t, rest = y :: t -> y ≠ 34) {K : Ex -> St -> Prop} (a : List UInt8) (ha : ∀ y ∈ a, y ≠ 34) (p : Nat) (acc : List UInt8) (hp' : p < s.length) (hd : s.drop (p + 1) = a ++ 34 :: rest) (hacc : acc.length <= p + 1)
    (hF : F75 s row col q ((p + 1 + a.length + 1 : Nat) : Int) (acc ++ a) K) : GoL cfg Pr Ow 75 87 (bodyOf cfg 75 0) (hd75 s row col q p acc) K := by
  have hlen := congrArg List.length hd
  simp only [List.length_drop, List.length_append, List.length_cons] at hlen
  have hix' : Lib.indexByte (s.drop (p + 1)) 34 = (a.length : Int) := by rw [hd]; exact ix_at ha
  have hd2 : s.drop (p + 1 + a.length) = 34 :: rest := drop_app hd
  have hd3 : s.drop (p + 1 + a.length + 1) = rest := (byt_drop hd2).2.2
  refine round_of (E := E75b a.length (s.drop (p + 1))) (envOK ⟨callG_ok fun _ Φ h => idx112 hix _ _ _ (by show Φ (.int .i64 (Lib.indexByte (s.drop (p + 1)) 34)) []; rw [hix']; exact h), hpS_ok', noCall_ok, trivial⟩ trivial trivial) nt75 rfl
    (L := fun st => False) (ks := [0, 2, 3, 4]) (bs := [2]) (ks2 := [0, 2, 3, 4]) (bs2 := [2]) ?_ (fun _ h => h.elim)
  rw [vc75b]
  have t1 : Int.toNat ((p : Int) + 1) = p + 1 := by omega
  have t2 : Int.toNat ((p : Int) + 1 + (a.length : Int)) = p + 1 + a.length := by omega
  have t3 : Int.toNat ((p : Int) + 1 + ((a.length : Int) + 1)) = p + 1 + a.length + 1 := by omega
  have t4 : (p : Int) + 1 + ((a.length : Int) + 1) = ((p + 1 + a.length + 1 : Nat) : Int) := by omega
  rw [t1, t2, t3, t4, List.take_length]
  have t5 : List.drop (p + 1) (List.take (p + 1 + a.length) s) = a := by
    rw [List.drop_take, hd]
    simp
  rw [t5, hd3]
  refine obB_of (inR64 (by omega)) (obB_of (decide_eq_true (by omega)) (obB_of (decide_eq_true (by omega)) ⟨trivial, rfl, obB_of (inR64 (by omega)) (obB_of (decide_eq_true (by omega)) (obB_of (decide_eq_true (by omega)) (obB_of (decide_eq_true (by omega)) (obB_of (decide_eq_true (by omega)) (obB_of (decide_eq_true (by omega)) (obB_of (inR64 (by omega)) (obB_of (inR64 (by omega)) (obB_of (decide_eq_true (by omega)) (obB_of (decide_eq_true (by omega)) (brB_of (fun _ => hF) fun h0 => ?_))))))))))⟩))
  have : hp rest #[(34 : UInt8)].toList = false := by
    cases rest with
    | nil => rfl
    | cons y t =>
      have := hr y t rfl
      show (Nat.beq y.toNat (34 : UInt8).toNat && hp t []) = false
      cases hq : Nat.beq y.toNat (34 : UInt8).toNat with
      | false => rfl
      | true => exact absurd (UInt8.toNat_inj.1 (Nat.eq_of_beq_eq_true hq)) this
  rw [this] at h0; cases h0
theorem loop75 (hix : SpecOK cfg Pr Ow 154 idxS) (s : List UInt8) (hs : s.length <= 4000000000) (row col : Int) (q : Int) (rest : List UInt8) (hr : ∀ y t, rest = y :: t -> y ≠ 34) {K : Ex -> St -> Prop} : ∀ (n : Nat) (x : List UInt8), x.length <= n -> ∀ (p : Nat) (acc : List UInt8), p < s.length -> s.drop (p + 1) = dbl x ++ 34 :: rest -> acc.length <= p + 1 -> 
    F75 s row col q ((p + 1 + (dbl x).length + 1 : Nat) : Int) (acc ++ x) K -> GoL cfg Pr Ow 75 87 (bodyOf cfg 75 0) (hd75 s row col q p acc) K := by
  intro n
  induction n with
  | zero =>
    intro x hx p acc hp' hd hacc hF
    have : x = [] := by cases x with | nil => rfl | cons _ _ => simp at hx
    subst this
    exact stop75 hix s hs row col q rest hr [] (by simp) p acc hp' hd hacc hF
  | succ n ih =>
    intro x hx p acc hp' hd hacc hF
    obtain ⟨a, ha, h⟩ := split34 x
    rcases h with ⟨rfl, h3⟩ | ⟨x', rfl, h3⟩
    · rw [h3] at hd hF
      exact stop75 hix s hs row col q rest hr x ha p acc hp' hd hacc hF
    · rw [h3] at hd hF
      have hlen := congrArg List.length hd
      simp only [List.length_drop, List.length_append, List.length_cons] at hlen
      have hix' : Lib.indexByte (s.drop (p + 1)) 34 = (a.length : Int) := by rw [hd]; simp only [List.append_assoc, List.cons_append]; exact ix_at ha
      have hd2 : s.drop (p + 1 + a.length) = 34 :: 34 :: (dbl x' ++ 34 :: rest) := drop_app (by rw [hd]; simp)
      have hd3 : s.drop (p + 1 + a.length + 1) = 34 :: (dbl x' ++ 34 :: rest) := (byt_drop hd2).2.2
      refine round_of (E := E75b a.length (s.drop (p + 1))) (envOK ⟨callG_ok fun _ Φ h => idx112 hix _ _ _ (by show Φ (.int .i64 (Lib.indexByte (s.drop (p + 1)) 34)) []; rw [hix']; exact h), hpS_ok', noCall_ok, trivial⟩ trivial trivial) nt75 rfl
        (L := fun st => st = hd75 s row col q ((p + 1 + a.length + 1 : Nat) : Int) (acc ++ a ++ [34])) (ks := [0, 2, 3, 4]) (bs := [2]) (ks2 := [0, 2, 3, 4]) (bs2 := [2]) ?_ ?_
      · rw [vc75b]
        have t1 : Int.toNat ((p : Int) + 1) = p + 1 := by omega
        have t2 : Int.toNat ((p : Int) + 1 + (a.length : Int)) = p + 1 + a.length := by omega
        have t3 : Int.toNat ((p : Int) + 1 + ((a.length : Int) + 1)) = p + 1 + a.length + 1 := by omega
        have t4 : (p : Int) + 1 + ((a.length : Int) + 1) = ((p + 1 + a.length + 1 : Nat) : Int) := by omega
        rw [t1, t2, t3, t4, List.take_length]
        have t5 : List.drop (p + 1) (List.take (p + 1 + a.length) s) = a := by
          rw [List.drop_take, hd]
          simp
        rw [t5, hd3]
        refine obB_of (inR64 (by omega)) (obB_of (decide_eq_true (by omega)) (obB_of (decide_eq_true (by omega)) ⟨trivial, rfl, obB_of (inR64 (by omega)) (obB_of (decide_eq_true (by omega)) (obB_of (decide_eq_true (by omega)) (obB_of (decide_eq_true (by omega)) (obB_of (decide_eq_true (by omega)) (obB_of (decide_eq_true (by omega)) (obB_of (inR64 (by omega)) (obB_of (inR64 (by omega)) (obB_of (decide_eq_true (by omega)) (obB_of (decide_eq_true (by omega)) (brB_of (fun h0 => ?_) fun _ => obB_of (decide_eq_true (by simp; omega)) rfl))))))))))⟩))
        have : hp (34 :: (dbl x' ++ 34 :: rest)) #[(34 : UInt8)].toList = true := by simp [hp, hp_nil]
        rw [this] at h0; cases h0
      · rintro _ rfl
        simp only [List.length_append, List.length_cons] at hx
        refine ih x' (by omega) (p + 1 + a.length + 1) (acc ++ a ++ [34]) (by omega) (byt_drop hd3).2.2 (by simp; omega) ?_
        have e1 : p + 1 + a.length + 1 + 1 + (dbl x').length + 1 = p + 1 + (a ++ 34 :: 34 :: dbl x').length + 1 := by simp; omega
        have e2 : acc ++ a ++ [34] ++ x' = acc ++ (a ++ 34 :: x') := by simp
        rw [e1, e2]
        exact hF
theorem go75 {uN uE : List UInt8 -> Int} (lb : LbB Pr Ow uN uE) (hix : SpecOK cfg Pr Ow 154 idxS) (s : List UInt8) (hs : s.length <= 4000000000) (row col : Int) (p : Nat) (hp' : p < s.length) (x rest : List UInt8) (hx : x.length <= 3000) (hu : uE x = 0) (hr : ∀ y t, rest = y :: t -> y ≠ 34) (hd : s.drop (p + 1) = dbl x ++ 34 :: rest)
    (Φ : DV -> List Blk -> Prop) (hΦ : Φ (cStr x).dv [rdr s row col ((p + 1 + (dbl x).length + 1 : Nat) : Int) 0 0]) : GoC cfg Pr Ow 75 [.ptr 87 6 0 0] [rdr s row col p 0 0] Φ := by
  refine go_wk (WkL.refl _) (fn_of (E := E75 (fun st => st = hd75 s row col p p []) s row col p ((p + 1 + (dbl x).length + 1 : Nat) : Int) x (uN x)) (envOK ⟨callG_ok fun _ Φ h => lb.un x hx Φ (by rw [hu]; exact h), noCall_ok, trivial⟩ trivial trivial) nt75 nd75 ?_ ?_)
  · intro b sp hl' st k hk
    obtain ⟨rfl, rfl⟩ := look_one rfl hl'
    refine loopS_ok (fun st hst K hK => ?_) hk
    subst hst
    refine loop75 hix s hs row col p rest hr x.length x (Nat.le_refl _) p [] hp' hd (by simp) ?_
    rw [List.nil_append]; exact hK
  · have := vc75 s row col p ((p + 1 + (dbl x).length + 1 : Nat) : Int) x (uN x) (fun st => st = hd75 s row col p p []) (fun r ex => ∃ r', (r = r' \/ WkV r r') /\ Φ r' ex)
    rw [this]
    exact ⟨rfl, trivial, rfl, _, .inr (wk_cells (cStr x) 18), hΦ⟩
end
end Go.Det.Sea
end

section
namespace Go.Det.Sea
open Go Go.Det
theorem runN_app {set : List UInt8} : ∀ {a r : List UInt8}, (∀ y ∈ a, mem set y.toNat = true) -> (∀ y t, r = y :: t -> mem set y.toNat = false) -> runN set (a ++ r) = a.length
  | [], [], _, _ => rfl
  | [], y :: t, _, h => by simp [runN, h y t rfl]
  | x :: a, r, h1, h2 => by
    simp only [List.cons_append, runN, h1 x (by simp), cond_true, List.length_cons]
    rw [runN_app (fun y hy => h1 y (by simp [hy])) h2]
theorem runA_app {set : List UInt8} : ∀ {a r : List UInt8}, (∀ y ∈ a, mem set y.toNat = true /\ y.toNat <= 127) -> (∀ y t, r = y :: t -> mem set y.toNat = false /\ y.toNat <= 127) -> runA set (a ++ r) = true
  | [], [], _, _ => rfl
  | [], y :: t, _, h => by
    simp only [List.nil_append, runA, (h y t rfl).1, cond_false, Bool.and_true]
    exact Nat.ble_eq_true_of_le (h y t rfl).2
  | x :: a, r, h1, h2 => by
    simp only [List.cons_append, runA, (h1 x (by simp)).1, cond_true, Bool.and_eq_true]
    exact ⟨Nat.ble_eq_true_of_le (h1 x (by simp)).2, runA_app (fun y hy => h1 y (by simp [hy])) h2⟩
theorem mem_is {l : List UInt8} {c : Nat} (h : mem l c = true) : ∃ x ∈ l, x.toNat = c := by
  unfold mem at h
  rw [List.any_eq_true] at h
  obtain ⟨x, h1, h2⟩ := h
  exact ⟨x, h1, Nat.eq_of_beq_eq_true h2⟩
theorem stop_at {c : Nat} (h : mem stopL c = true) : c = 32 \/ c = 41 \/ c = 44 \/ c = 37 \/ c = 43 \/ c = 45 \/ c = 42 \/ c = 47 \/ c = 94 \/ c = 38 \/ c = 61 \/ c = 60 \/ c = 62 := by
  obtain ⟨x, hx, rfl⟩ := mem_is h
  simp only [stopL, List.mem_cons, List.not_mem_nil, or_false] at hx
  rcases hx with rfl | rfl | rfl | rfl | rfl | rfl | rfl | rfl | rfl | rfl | rfl | rfl | rfl <;> simp
def isWrd (x : UInt8) : Bool := isLet x || (isDig x || (Nat.beq x.toNat 36 || Nat.beq x.toNat 39))
theorem wrd_mem {x : UInt8} (h : isWrd x = true) : mem wrdP x.toNat = true /\ x.toNat <= 127 := by
  unfold isWrd at h
  simp only [Bool.or_eq_true] at h
  have e : x = UInt8.ofNat x.toNat := by simp
  rcases h with h | h | h | h
  · have := isLet_at h
    refine ⟨?_, by omega⟩
    have : x.toNat = 65 \/ x.toNat = 66 \/ x.toNat = 67 \/ x.toNat = 68 \/ x.toNat = 69 \/ x.toNat = 70 \/ x.toNat = 71 \/ x.toNat = 72 \/ x.toNat = 73 \/ x.toNat = 74 \/ x.toNat = 75 \/ x.toNat = 76 \/ x.toNat = 77 \/ x.toNat = 78 \/ x.toNat = 79 \/ x.toNat = 80 \/ x.toNat = 81 \/ x.toNat = 82 \/ x.toNat = 83 \/ x.toNat = 84 \/ x.toNat = 85 \/ x.toNat = 86 \/ x.toNat = 87 \/ x.toNat = 88 \/ x.toNat = 89 \/ x.toNat = 90 := by omega
    rcases this with h | h | h | h | h | h | h | h | h | h | h | h | h | h | h | h | h | h | h | h | h | h | h | h | h | h <;> rw [h] <;> rfl
  · have := isDig_at h
    refine ⟨?_, by omega⟩
    have : x.toNat = 48 \/ x.toNat = 49 \/ x.toNat = 50 \/ x.toNat = 51 \/ x.toNat = 52 \/ x.toNat = 53 \/ x.toNat = 54 \/ x.toNat = 55 \/ x.toNat = 56 \/ x.toNat = 57 := by omega
    rcases this with h | h | h | h | h | h | h | h | h | h <;> rw [h] <;> rfl
  · rw [Nat.eq_of_beq_eq_true h]; exact ⟨rfl, by omega⟩
  · rw [Nat.eq_of_beq_eq_true h]; exact ⟨rfl, by omega⟩
theorem wrd_not {c : Nat} (h : c = 32 \/ c = 41 \/ c = 44 \/ c = 37 \/ c = 43 \/ c = 45 \/ c = 42 \/ c = 47 \/ c = 94 \/ c = 38 \/ c = 61 \/ c = 60 \/ c = 62 \/ c = 33 \/ c = 40 \/ c = 58) : mem wrdP c = false /\ mem digP c = false /\ c <= 127 := by
  rcases h with rfl | rfl | rfl | rfl | rfl | rfl | rfl | rfl | rfl | rfl | rfl | rfl | rfl | rfl | rfl | rfl <;> exact ⟨rfl, rfl, by omega⟩
def endW (r : List UInt8) : Prop := ∀ y t, r = y :: t -> (y.toNat = 33 \/ y.toNat = 40 \/ y.toNat = 58 \/ mem stopL y.toNat = true)
theorem endW.no {r : List UInt8} (h : endW r) : ∀ y t, r = y :: t -> mem wrdP y.toNat = false /\ mem digP y.toNat = false /\ y.toNat <= 127 := by
  intro y t e
  rcases h y t e with h | h | h | h
  · exact wrd_not (by omega)
  · exact wrd_not (by omega)
  · exact wrd_not (by omega)
  · have := stop_at h
    exact wrd_not (by omega)
theorem endW_stop {r : List UInt8} (h : stopW r = true) : endW r := by
  intro y t e
  subst e
  exact .inr (.inr (.inr (stopW_head h)))
section
variable {Pr Ow : Nat -> List DV -> DV -> Prop}
theorem word_ok {s : List UInt8} (hs : s.length <= 4000000000) {row col : Int} {p : Nat} {w r : List UInt8} (hd : s.drop p = w ++ r) (hp' : p <= s.length) (hw : ∀ y ∈ w, isWrd y = true) (h0 : ∀ y t, w = y :: t -> ¬ (48 <= y.toNat /\ y.toNat <= 57)) (hn : w ≠ []) (hr : endW r)
    (Φ : DV -> List Blk -> Prop) (h : Φ (.str w) [rdr s row col ((p + w.length : Nat) : Int) 0 0]) : GoC cfg Pr Ow 180 [.ptr 39 6 0 0] [rdr s row col p 0 0] Φ := by
  have e1 : runN wrdP (s.drop p) = w.length := by rw [hd]; exact runN_app (fun y hy => (wrd_mem (hw y hy)).1) (fun y t e => (hr.no y t e).1)
  refine go180 s hs row col p hp' (fun hlt => ?_) (by rw [hd]; exact runA_app (fun y hy => wrd_mem (hw y hy)) (fun y t e => ⟨(hr.no y t e).1, (hr.no y t e).2.2⟩)) Φ ?_
  · obtain ⟨y, t, e⟩ := cons_of hn
    have hd' : s.drop p = y :: (t ++ r) := by rw [hd, e]; rfl
    rw [(drop_lt hd').2]
    exact h0 y t e
  · rw [e1, hd]
    simpa using h
theorem behind_ok {s : List UInt8} {row col : Int} {p : Nat} (hp' : p <= s.length) {g : List UInt8} {b : Bool} (h : hp (s.drop p) g = b) : SpecOK cfg Pr Ow 181 (callE True [.ptr 16 6 0 0, .str g] [rdr s row col p 0 0] (.bool b) [rdr s row col p 0 0]) :=
  callE_ok fun _ Φ hΦ => go181 s g row col 0 0 p hp' Φ (by rw [h]; exact hΦ)
theorem hp_one {r : List UInt8} {y : UInt8} (h : ∀ z t, r = z :: t -> z.toNat ≠ y.toNat) : hp r [y] = false := by
  cases r with
  | nil => rfl
  | cons z t =>
    have := h z t rfl
    simp only [hp]
    cases hb : Nat.beq z.toNat y.toNat with
    | false => rfl
    | true => exact absurd (Nat.eq_of_beq_eq_true hb) this
theorem hp_yes (y : UInt8) (t : List UInt8) : hp (y :: t) [y] = true := by simp [hp, hp_nil]
abbrev TRUE' : List UInt8 := #[(84 : UInt8), (82 : UInt8), (85 : UInt8), (69 : UInt8)].toList
abbrev FALSE' : List UInt8 := #[(70 : UInt8), (65 : UInt8), (76 : UInt8), (83 : UInt8), (69 : UInt8)].toList
theorem go147t (b : Bool) {s : List UInt8} (hs : s.length <= 4000000000) {row col : Int} {p : Nat} {r : List UInt8} (hp' : p <= s.length) (hd : s.drop p = truT b ++ r) (hr : stopW r = true) (Φ : DV -> List Blk -> Prop) (hΦ : Φ (cTru b).dv [rdr s row col ((p + (truT b).length : Nat) : Int) 0 0]) : GoC cfg Pr Ow 147 [.ptr 126 6 0 0] [rdr s row col p 0 0] Φ := by
  have hd1 := drop_app hd
  have hlt : p + (truT b).length <= s.length := by
    have := congrArg List.length hd
    simp only [List.length_drop, List.length_append] at this
    have : 0 < (truT b).length := by cases b <;> decide
    omega
  have hst := endW_stop hr
  have hb1 : hp (s.drop (p + (truT b).length)) [40] = false := by
    rw [hd1]; refine hp_one fun z t e => ?_
    subst e
    have := stop_at (stopW_head hr)
    rw [show (40 : UInt8).toNat = 40 from rfl]; omega
  have hb2 : hp (s.drop (p + (truT b).length)) [33] = false := by
    rw [hd1]; refine hp_one fun z t e => ?_
    subst e
    have := stop_at (stopW_head hr)
    rw [show (33 : UInt8).toNat = 33 from rfl]; omega
  refine go_wk (WkL.refl _) (fn_of0 (E := E147 s row col p (p + (truT b).length) 0 0 (truT b) [] [] [] false false false 0 0 default False False False False False) (envOK ⟨noCall_ok, noCall_ok, trivial⟩
    ⟨callE_ok fun _ => word_ok hs hd hp' (by cases b <;> decide) (by cases b <;> intro y t e <;> cases e <;> decide) (by cases b <;> decide) hst, behind_ok hlt hb1, behind_ok hlt hb2, behind_ok hlt hb1, behind_ok hlt hb2, callG_ok fun h => h.elim, callE_ok fun h => h.elim, callG_ok fun h => h.elim, callG_ok fun h => h.elim, hpS_ok', callE_ok fun h => h.elim, callE_ok fun h => h.elim, callG_ok fun h => h.elim, hpS_ok', callG_ok fun h => h.elim, callE_ok fun h => h.elim, trivial⟩ trivial) rfl ?_)
  rw [vc147]
  cases b with
  | true => exact ⟨⟨trivial, rfl, rfl⟩, ⟨trivial, rfl, rfl⟩, ⟨trivial, rfl, rfl⟩, _, .inr (wk_cells (cTru true) 18), hΦ⟩
  | false => exact ⟨⟨trivial, rfl, rfl⟩, ⟨trivial, rfl, rfl⟩, ⟨trivial, rfl, rfl⟩, _, .inr (wk_cells (cTru false) 18), hΦ⟩
theorem go147f {s : List UInt8} (hs : s.length <= 4000000000) {row col : Int} {p : Nat} {w r : List UInt8} (hp' : p <= s.length) (hd : s.drop p = w ++ (40 :: r)) (hw : ∀ y ∈ w, isWrd y = true) (h0 : ∀ y t, w = y :: t -> ¬ (48 <= y.toNat /\ y.toNat <= 57)) (hn : w ≠ []) (hT : (w == TRUE') = false) (hF : (w == FALSE') = false) {op : Int} {t : Tr} {p2 : Nat}
    (hf : ∀ Φ : DV -> List Blk -> Prop, Φ (.tup [.int .i64 op, .bool true]) [] -> GoC cfg Pr Ow 182 [.str w] [] Φ) (hc : ∀ Φ : DV -> List Blk -> Prop, Φ t.dv [rdr s row col p2 0 0] -> GoC cfg Pr Ow 183 [.ptr 38 6 0 0, .int .i64 op] [rdr s row col ((p + w.length : Nat) : Int) 0 0] Φ)
    (Φ : DV -> List Blk -> Prop) (hΦ : Φ t.dv [rdr s row col p2 0 0]) : GoC cfg Pr Ow 147 [.ptr 126 6 0 0] [rdr s row col p 0 0] Φ := by
  have hd1 := drop_app hd
  have hlt : p + w.length <= s.length := by
    have := congrArg List.length hd
    simp only [List.length_drop, List.length_append, List.length_cons] at this
    omega
  have hb1 : hp (s.drop (p + w.length)) [40] = true := by rw [hd1]; exact hp_yes 40 r
  have hb2 : hp (s.drop (p + w.length)) [33] = false := by
    rw [hd1]; refine hp_one fun z t e => ?_
    cases e; decide
  have hst : endW (40 :: r) := by intro y t e; cases e; exact .inr (.inl rfl)
  refine fn_of0 (E := E147 s row col p (p + w.length) p2 0 w [] [] [] true false false op 0 t True False False False False) (envOK ⟨noCall_ok, noCall_ok, trivial⟩
    ⟨callE_ok fun _ => word_ok hs hd hp' hw h0 hn hst, behind_ok hlt hb1, behind_ok hlt hb2, behind_ok hlt hb1, behind_ok hlt hb2, callG_ok fun _ => hf, callE_ok fun _ => hc, callG_ok fun h => h.elim, callG_ok fun h => h.elim, hpS_ok', callE_ok fun h => h.elim, callE_ok fun h => h.elim, callG_ok fun h => h.elim, hpS_ok', callG_ok fun h => h.elim, callE_ok fun h => h.elim, trivial⟩ trivial) rfl ?_
  rw [vc147, hT, hF]
  exact ⟨⟨trivial, rfl, rfl⟩, ⟨trivial, rfl, rfl⟩, trivial, rfl, ⟨trivial, rfl, rfl⟩, hΦ⟩
theorem plainW {s : List UInt8} {p : Nat} {w r : List UInt8} (hd : s.drop p = w ++ r) (hr : ∀ z t, r = z :: t -> z.toNat ≠ 40 /\ z.toNat ≠ 33) (hp' : p <= s.length) : p + w.length <= s.length /\ hp (s.drop (p + w.length)) [40] = false /\ hp (s.drop (p + w.length)) [33] = false := by
  have hd1 := drop_app hd
  refine ⟨?_, ?_, ?_⟩
  · have := congrArg List.length hd
    simp only [List.length_drop, List.length_append] at this
    by_cases h : w.length = 0
    · omega
    · omega
  · rw [hd1]; exact hp_one fun z t e => (hr z t e).1
  · rw [hd1]; exact hp_one fun z t e => (hr z t e).2
variable (lb : LbA Pr Ow)
include lb
theorem go147n {s : List UInt8} (hs : s.length <= 4000000000) {row col : Int} {p n : Nat} {r : List UInt8} (hp' : p <= s.length) (hn : n <= 1023) (hd : s.drop p = (78 :: (Lib.decDigits n ++ [39])) ++ r) (hr : stopW r = true) (Φ : DV -> List Blk -> Prop) (hΦ : Φ (Tr.mk 6 v0 r0 r0 0 n []).dv [rdr s row col ((p + (78 :: (Lib.decDigits n ++ [39])).length : Nat) : Int) 0 0]) : GoC cfg Pr Ow 147 [.ptr 126 6 0 0] [rdr s row col p 0 0] Φ := by
  obtain ⟨hlt, hb1, hb2⟩ := plainW hd (fun z t e => by subst e; have := stop_at (stopW_head hr); omega) hp'
  have hdig := dec_dig n
  rw [List.all_eq_true] at hdig
  have hdl : (Lib.decDigits n).length <= 4 := dec_len_le (k := 4) (by omega) (by omega)
  have hcs : csF (78 :: (Lib.decDigits n ++ [39])) [39] = (78 :: Lib.decDigits n, true) := by
    have hh : hsF (78 :: (Lib.decDigits n ++ [39])) [39] = true := by
      unfold hsF
      rw [Bool.and_eq_true]
      refine ⟨decide_eq_true (by simp), ?_⟩
      have : List.drop ((78 :: (Lib.decDigits n ++ [39])).length - [(39 : UInt8)].length) (78 :: (Lib.decDigits n ++ [39])) = [39] := by
        rw [show (78 :: (Lib.decDigits n ++ [39])).length - [(39 : UInt8)].length = (78 :: Lib.decDigits n).length by simp]
        show List.drop (78 :: Lib.decDigits n).length ((78 :: Lib.decDigits n) ++ [39]) = _
        exact List.drop_left
      rw [this]; exact beq_self_eq_true _
    unfold csF
    rw [hh]
    simp only [cond_true]
    rw [show (78 :: (Lib.decDigits n ++ [39])).length - [(39 : UInt8)].length = (78 :: Lib.decDigits n).length by simp]
    show (List.take (78 :: Lib.decDigits n).length ((78 :: Lib.decDigits n) ++ [39]), true) = _
    rw [List.take_left]
  have hT : ((78 :: (Lib.decDigits n ++ [39])) == TRUE') = false := rfl
  have hF : ((78 :: (Lib.decDigits n ++ [39])) == FALSE') = false := rfl
  have hw : ∀ y ∈ 78 :: (Lib.decDigits n ++ [39]), isWrd y = true := by
    intro y hy
    simp only [List.mem_cons, List.mem_append, List.not_mem_nil, or_false] at hy
    rcases hy with rfl | hy | rfl
    · rfl
    · unfold isWrd; rw [hdig y hy]; simp
    · rfl
  refine go_wk (WkL.refl _) (fn_of0 (E := E147 s row col p (p + (78 :: (Lib.decDigits n ++ [39])).length) 0 0 (78 :: (Lib.decDigits n ++ [39])) [] [] (78 :: Lib.decDigits n) false false true 0 n default False False True True False) (envOK ⟨noCall_ok, noCall_ok, trivial⟩
    ⟨callE_ok fun _ => word_ok hs hd hp' hw (by intro y t e; cases e; decide) (by simp) (endW_stop hr), behind_ok hlt hb1, behind_ok hlt hb2, behind_ok hlt hb1, behind_ok hlt hb2, callG_ok fun h => h.elim, callE_ok fun h => h.elim, callG_ok fun h => h.elim, callG_ok fun h => h.elim, hpS_ok', callE_ok fun h => h.elim, callE_ok fun h => h.elim, callG_ok fun _ Φ h => go187 _ (by simp; omega) 39 Φ (by rw [hcs]; exact h), hpS_ok', callG_ok fun _ => go184 lb n (by omega), callE_ok fun h => h.elim, trivial⟩ trivial) rfl ?_)
  rw [vc147, hT, hF]
  refine ⟨⟨trivial, rfl, rfl⟩, ⟨trivial, rfl, rfl⟩, ⟨trivial, rfl, rfl⟩, trivial, rfl, ?_⟩
  have h78 : hp (78 :: Lib.decDigits n) #[(78 : UInt8)].toList = true := hp_yes 78 _
  rw [h78]
  refine brB_of (fun _ => brB_of (fun _ => obB_of (decide_eq_true (by simp)) ⟨trivial, ?_, _, .inr (wk_cells (Tr.mk 6 v0 r0 r0 0 n []) 18), hΦ⟩) (fun h => by cases h)) (fun h => by cases h)
  rw [List.take_length]
theorem wrd_ref {row col : Int} {w : List UInt8} {R : Rf} (h : RefW row col w R) : (∀ y ∈ w, isWrd y = true) /\ (∀ y t, w = y :: t -> ¬ (48 <= y.toNat /\ y.toNat <= 57)) /\ w ≠ [] /\ (w == TRUE') = false /\ (w == FALSE') = false /\ hsF w [39] = false /\ w.length <= 10 := by
  obtain ⟨x, l, e, hx⟩ := h.hd
  cases h with
  | @mk L D r c rr rc h =>
    have hll := h.ll
    have hdd := h.dd
    have hlen := h.len
    rw [List.all_eq_true] at hll hdd
    have hdol : ∀ b : Bool, ∀ y ∈ dol b, isWrd y = true /\ y = 36 := by
      intro b y hy
      cases b with
      | true => cases hy
      | false =>
        have : y = 36 := by simpa [dol] using hy
        subst this; exact ⟨rfl, rfl⟩
    have hdl : ∀ b : Bool, (dol b).length <= 1 := by intro b; cases b <;> simp [dol]
    obtain ⟨z, t, ez⟩ := cons_of h.l0
    have hz : isLet z = true := hll z (by rw [ez]; simp)
    have hz' := isLet_at hz
    -- the last one is a digit
    have hlast : ∃ u v, dol rc ++ (L ++ (dol rr ++ D)) = u ++ [v] /\ isDig v = true := by
      have hd0 := h.d0
      obtain ⟨D', v, e⟩ : ∃ D' v, D = D' ++ [v] := ⟨D.dropLast, D.getLast hd0, (List.dropLast_concat_getLast hd0).symm⟩
      refine ⟨dol rc ++ (L ++ (dol rr ++ D')), v, by rw [e]; simp, hdd v (by rw [e]; simp)⟩
    obtain ⟨u, v, euv, hv⟩ := hlast
    have hv' := isDig_at hv
    refine ⟨?_, ?_, ?_, ?_, ?_, ?_, ?_⟩
    · intro y hy
      simp only [List.mem_append] at hy
      rcases hy with hy | hy | hy | hy
      · exact (hdol rc y hy).1
      · unfold isWrd; rw [hll y hy]; rfl
      · exact (hdol rr y hy).1
      · unfold isWrd; rw [hdd y hy]; simp
    · intro y t' ey
      cases rc with
      | false =>
        simp only [dol, cond_false, List.cons_append, List.cons.injEq] at ey
        rw [← ey.1]; decide
      | true =>
        rw [ez] at ey
        simp only [dol, cond_true, List.nil_append, List.cons_append, List.cons.injEq] at ey
        rw [← ey.1]; omega
    · rw [e]; simp
    · rw [beq_eq_false_iff_ne]
      intro h0
      rw [euv] at h0
      have : v = 69 := by
        have := congrArg List.getLast? h0
        simpa using this
      rw [this] at hv'; exact absurd hv'.2 (by decide)
    · rw [beq_eq_false_iff_ne]
      intro h0
      rw [euv] at h0
      have : v = 69 := by
        have := congrArg List.getLast? h0
        simpa using this
      rw [this] at hv'; exact absurd hv'.2 (by decide)
    · rw [euv]
      unfold hsF
      rw [Bool.and_eq_false_iff]
      right
      rw [beq_eq_false_iff_ne]
      intro h0
      rw [show (u ++ [v]).length - [(39 : UInt8)].length = u.length by simp, List.drop_left] at h0
      have : v = 39 := by simpa using h0
      rw [this] at hv'; exact absurd hv'.1 (by decide)
    · have h1 := hdl rc
      have h2 := hdl rr
      simp only [List.length_append]; omega
theorem go147c {s : List UInt8} (hs : s.length <= 4000000000) {row col : Int} {p : Nat} {w r : List UInt8} {R : Rf} (h : RefW row col w R) (hp' : p <= s.length) (hd : s.drop p = w ++ r) (hr : endW r) (hr2 : ∀ z t, r = z :: t -> z.toNat ≠ 40 /\ z.toNat ≠ 33) {t : Tr} {p2 : Nat}
    (hpl : ∀ Φ : DV -> List Blk -> Prop, Φ t.dv [rdr s row col p2 0 0] -> GoC cfg Pr Ow 186 [.ptr 56 6 0 0, .int .i64 p, .str w, .int .i64 2, .int .i64 3, .int .i64 0] [rdr s row col ((p + w.length : Nat) : Int) 0 0] Φ)
    (Φ : DV -> List Blk -> Prop) (hΦ : Φ t.dv [rdr s row col p2 0 0]) : GoC cfg Pr Ow 147 [.ptr 126 6 0 0] [rdr s row col p 0 0] Φ := by
  obtain ⟨hw, h0, hn, hT, hF, hq, hwl⟩ := wrd_ref lb h
  obtain ⟨hlt, hb1, hb2⟩ := plainW hd hr2 hp'
  have hcs : csF w [39] = (w, false) := by unfold csF; rw [hq]; rfl
  refine fn_of0 (E := E147 s row col p (p + w.length) p2 0 w [] [] w false false false 0 0 t False False True False True) (envOK ⟨noCall_ok, noCall_ok, trivial⟩
    ⟨callE_ok fun _ => word_ok hs hd hp' hw h0 hn hr, behind_ok hlt hb1, behind_ok hlt hb2, behind_ok hlt hb1, behind_ok hlt hb2, callG_ok fun h => h.elim, callE_ok fun h => h.elim, callG_ok fun h => h.elim, callG_ok fun h => h.elim, hpS_ok', callE_ok fun h => h.elim, callE_ok fun h => h.elim, callG_ok fun _ Φ h => go187 _ (by omega) 39 Φ (by rw [hcs]; exact h), hpS_ok', callG_ok fun h => h.elim, callE_ok fun _ => hpl, trivial⟩ trivial) rfl ?_
  rw [vc147, hT, hF]
  exact ⟨⟨trivial, rfl, rfl⟩, ⟨trivial, rfl, rfl⟩, ⟨trivial, rfl, rfl⟩, trivial, rfl, ⟨trivial, rfl, rfl⟩, hΦ⟩
theorem go147s {s : List UInt8} (hs : s.length <= 4000000000) {row col : Int} {p n : Nat} (hn : n <= 7) {w r : List UInt8} {R : Rf} (h : RefW row col w R) (hp' : p <= s.length) (hd : s.drop p = (83 :: Lib.decDigits (n + 1)) ++ (33 :: (w ++ r))) (hr : endW r) {t : Tr} {p2 : Nat}
    (hpl : ∀ Φ : DV -> List Blk -> Prop, Φ t.dv [rdr s row col p2 0 0] -> GoC cfg Pr Ow 186 [.ptr 56 6 0 0, .int .i64 ((p + (83 :: Lib.decDigits (n + 1)).length : Nat) + 1 : Int), .str w, .int .i64 4, .int .i64 5, .int .i64 n] [rdr s row col ((p + (83 :: Lib.decDigits (n + 1)).length + 1 + w.length : Nat) : Int) 0 0] Φ)
    (Φ : DV -> List Blk -> Prop) (hΦ : Φ t.dv [rdr s row col p2 0 0]) : GoC cfg Pr Ow 147 [.ptr 126 6 0 0] [rdr s row col p 0 0] Φ := by
  obtain ⟨hw, h0, hnn, hT, hF, hq, hwl⟩ := wrd_ref lb h
  have hd1 := drop_app hd
  have hlt : p + (83 :: Lib.decDigits (n + 1)).length < s.length := (drop_lt hd1).1
  have hb1 : hp (s.drop (p + (83 :: Lib.decDigits (n + 1)).length)) [40] = false := by
    rw [hd1]; refine hp_one fun z t e => ?_
    cases e; decide
  have hb2 : hp (s.drop (p + (83 :: Lib.decDigits (n + 1)).length)) [33] = true := by rw [hd1]; exact hp_yes 33 _
  have hd2 := (byt_drop hd1).2.2
  have hdig := dec_dig (n + 1)
  rw [List.all_eq_true] at hdig
  have hws : ∀ y ∈ 83 :: Lib.decDigits (n + 1), isWrd y = true := by
    intro y hy
    simp only [List.mem_cons] at hy
    rcases hy with rfl | hy
    · rfl
    · unfold isWrd; rw [hdig y hy]; simp
  have hst : endW (33 :: (w ++ r)) := by intro y t e; cases e; exact .inl rfl
  have hcp : (cpF (83 :: Lib.decDigits (n + 1)) [83]).1 = Lib.decDigits (n + 1) := by
    unfold cpF
    rw [hp_yes]; rfl
  have hT' : ((83 :: Lib.decDigits (n + 1)) == TRUE') = false := rfl
  have hF' : ((83 :: Lib.decDigits (n + 1)) == FALSE') = false := rfl
  generalize hS : 83 :: Lib.decDigits (n + 1) = S at *
  have hS1 : hp S #[(83 : UInt8)].toList = true := by rw [← hS]; exact hp_yes 83 _
  refine fn_of0 (E := E147 s row col p (p + S.length) p2 (p + S.length + 1 + w.length) S (Lib.decDigits (n + 1)) w [] false true false 0 ((n + 1 : Nat) : Int) t False True False False False) (envOK ⟨noCall_ok, noCall_ok, trivial⟩
    ⟨callE_ok fun _ => word_ok hs hd hp' hws (by intro y t e; rw [← hS] at e; cases e; decide) (by rw [← hS]; simp) hst, behind_ok (by omega) hb1, behind_ok (by omega) hb2, behind_ok (by omega) hb1, behind_ok (by omega) hb2, callG_ok fun h => h.elim, callE_ok fun h => h.elim, callG_ok fun _ Φ h => go185 _ 83 Φ (by rw [hcp]; exact h), callG_ok fun _ => go184 lb (n + 1) (by omega), hpS_ok', callE_ok fun _ Φ h => ?word, callE_ok fun _ Φ h => ?pl, callG_ok fun h => h.elim, hpS_ok', callG_ok fun h => h.elim, callE_ok fun h => h.elim, trivial⟩ trivial) rfl ?_
  case word => exact word_ok (p := p + S.length + 1) hs hd2 (by omega) hw h0 hnn hr Φ h
  case pl =>
    rw [show ((n + 1 : Nat) : Int) - 1 = (n : Int) by omega]
    exact hpl Φ h
  · rw [vc147, hT', hF', hS1]
    refine ⟨⟨trivial, rfl, rfl⟩, ⟨trivial, rfl, rfl⟩, ⟨trivial, rfl, rfl⟩, trivial, rfl, trivial, rfl, brB_of (fun h1 => ?_) fun _ => obB_of (inR64 (by omega)) ⟨⟨trivial, rfl, rfl⟩, brB_of (fun h1 => ?_) fun _ => obB_of (inR64 (by omega)) ⟨⟨trivial, rfl, rfl⟩, hΦ⟩⟩⟩
    · have : decide (((n + 1 : Nat) : Int) < 1) = false := decide_eq_false (by omega)
      rw [this] at h1; cases h1
    · have : w = [] := by simpa using h1
      exact hnn this
end
end Go.Det.Sea
end

section
namespace Go.Det.Sea
open Go Go.Det
section
variable {Pr Ow : Nat -> List DV -> DV -> Prop}
theorem nt147 : ntOf cfg 147 = 126 := by kernel_rfl
theorem nt75' : ntOf cfg 75 = 87 := by kernel_rfl
theorem nt146' : ntOf cfg 146 = 26 := by kernel_rfl
variable {s : List UInt8} (hs : s.length <= 4000000000) {row col : Int} {p q p2 : Nat} (hp' : p <= s.length) (hq : blN s p = q) {t : Tr}
include hs hp' hq
theorem prim_num (hlt : q < s.length) (hb : 48 <= byt s q /\ byt s q <= 57) (h : ∀ Φ : DV -> List Blk -> Prop, Φ t.dv [rdr s row col p2 0 0] -> GoC cfg Pr Ow 74 [.ptr 25 6 0 0] [rdr s row col q 0 0] Φ) : RdsOK Pr Ow s row col .prim p t p2 := by
  intro Φ hΦ
  refine fn_of0 (E := E108 s row col p q q p2 t t True False False False False) (envOK ⟨callE_ok fun _ Φ hΦ => go36 s hs row col 0 0 p Φ (by rw [hq]; exact hΦ), noCall_ok, callE_ok fun _ => h, callE_ok fun h => h.elim, callE_ok fun h => h.elim, callE_ok fun h => h.elim, callE_ok fun h => h.elim, callE_ok fun h => h.elim, trivial⟩ trivial trivial) rfl ?_
  rw [vc108]
  unfold byt at hb
  refine ⟨⟨trivial, rfl, rfl⟩, brB_of (fun h => ?_) fun _ => obB_of (decide_eq_true hlt) (brB_of (fun _ => ⟨⟨trivial, rfl, rfl⟩, hΦ⟩) (fun h => ?_))⟩
  · have := of_decide_eq_true h; omega
  · exfalso
    rw [decide_eq_true (show ((UInt8.toNat (List.getD s q 0) : Nat) : Int) ≥ 48 by omega), decide_eq_true (show ((UInt8.toNat (List.getD s q 0) : Nat) : Int) <= 57 by omega)] at h
    cases h
theorem prim_str (hlt : q < s.length) (hb : byt s q = 34) (h : ∀ Φ : DV -> List Blk -> Prop, Φ t.dv [rdr s row col p2 0 0] -> GoC cfg Pr Ow 75 [.ptr 87 6 0 0] [rdr s row col q 0 0] Φ) : RdsOK Pr Ow s row col .prim p t p2 := by
  intro Φ hΦ
  refine fn_of0 (E := E108 s row col p q q p2 t t False True False False False) (envOK ⟨callE_ok fun _ Φ hΦ => go36 s hs row col 0 0 p Φ (by rw [hq]; exact hΦ), noCall_ok, callE_ok fun h => h.elim, callE_ok fun _ => by rw [nt75']; exact h, callE_ok fun h => h.elim, callE_ok fun h => h.elim, callE_ok fun h => h.elim, callE_ok fun h => h.elim, trivial⟩ trivial trivial) rfl ?_
  rw [vc108]
  unfold byt at hb
  rw [hb]
  refine ⟨⟨trivial, rfl, rfl⟩, brB_of (fun h => ?_) fun _ => obB_of (decide_eq_true hlt) ⟨⟨trivial, rfl, rfl⟩, hΦ⟩⟩
  have := of_decide_eq_true h; omega
theorem prim_flt (hlt : q < s.length) (hb : byt s q = 35) (h : ∀ Φ : DV -> List Blk -> Prop, Φ t.dv [rdr s row col p2 0 0] -> GoC cfg Pr Ow 146 [.ptr 26 6 0 0] [rdr s row col q 0 0] Φ) : RdsOK Pr Ow s row col .prim p t p2 := by
  intro Φ hΦ
  refine fn_of0 (E := E108 s row col p q q p2 t t False False True False False) (envOK ⟨callE_ok fun _ Φ hΦ => go36 s hs row col 0 0 p Φ (by rw [hq]; exact hΦ), noCall_ok, callE_ok fun h => h.elim, callE_ok fun h => h.elim, callE_ok fun _ => by rw [nt146']; exact h, callE_ok fun h => h.elim, callE_ok fun h => h.elim, callE_ok fun h => h.elim, trivial⟩ trivial trivial) rfl ?_
  rw [vc108]
  unfold byt at hb
  rw [hb]
  refine ⟨⟨trivial, rfl, rfl⟩, brB_of (fun h => ?_) fun _ => obB_of (decide_eq_true hlt) ⟨⟨trivial, rfl, rfl⟩, hΦ⟩⟩
  have := of_decide_eq_true h; omega
theorem prim_nam (hlt : q < s.length) (hb : (65 <= byt s q /\ byt s q <= 90) \/ byt s q = 36) (h : ∀ Φ : DV -> List Blk -> Prop, Φ t.dv [rdr s row col p2 0 0] -> GoC cfg Pr Ow 147 [.ptr 126 6 0 0] [rdr s row col q 0 0] Φ) : RdsOK Pr Ow s row col .prim p t p2 := by
  intro Φ hΦ
  refine fn_of0 (E := E108 s row col p q q p2 t t False False False True False) (envOK ⟨callE_ok fun _ Φ hΦ => go36 s hs row col 0 0 p Φ (by rw [hq]; exact hΦ), noCall_ok, callE_ok fun h => h.elim, callE_ok fun h => h.elim, callE_ok fun h => h.elim, callE_ok fun _ => by rw [nt147]; exact h, callE_ok fun h => h.elim, callE_ok fun h => h.elim, trivial⟩ trivial trivial) rfl ?_
  rw [vc108]
  unfold byt at hb
  generalize hB : UInt8.toNat (List.getD s q 0) = B at *
  have c1 : (decide ((B : Int) ≥ 48) && decide ((B : Int) <= 57) || (B : Int) == 46) = false := by
    rcases hb with hb | hb
    · rw [decide_eq_false (show ¬ ((B : Int) <= 57) by omega), Bool.and_false, Bool.false_or, beq_eq_false_iff_ne]; omega
    · subst hb; rfl
  have c2 : ((B : Int) == 34) = false := by rw [beq_eq_false_iff_ne]; omega
  have c3 : ((B : Int) == 35) = false := by rw [beq_eq_false_iff_ne]; omega
  have c4 : (decide ((B : Int) ≥ 65) && decide ((B : Int) <= 90) || (B : Int) == 36 || (B : Int) == 39) = true := by
    rcases hb with hb | hb
    · rw [decide_eq_true (show ((B : Int) ≥ 65) by omega), decide_eq_true (show ((B : Int) <= 90) by omega)]; rfl
    · subst hb; rfl
  rw [c1, c2, c3, c4]
  refine ⟨⟨trivial, rfl, rfl⟩, brB_of (fun h => ?_) fun _ => obB_of (decide_eq_true hlt) ⟨⟨trivial, rfl, rfl⟩, hΦ⟩⟩
  have := of_decide_eq_true h; omega
end
section
variable {Pr Ow : Nat -> List DV -> DV -> Prop} {uN uE : List UInt8 -> Int} (lb : LbA Pr Ow) (lc : LbB Pr Ow uN uE)
include lb
omit lb in
theorem ref_head {row col : Int} {w : List UInt8} {R : Rf} (h : RefW row col w R) {x : UInt8} {l : List UInt8} (e : w = x :: l) : (65 <= x.toNat /\ x.toNat <= 90) \/ x.toNat = 36 := by
  cases h with
  | @mk L D r c rr rc h =>
    cases rc with
    | false =>
      simp only [dol, cond_false, List.cons_append, List.cons.injEq] at e
      rw [← e.1]; right; rfl
    | true =>
      obtain ⟨z, t, ez⟩ := cons_of h.l0
      have hll := h.ll
      rw [ez] at e hll
      simp only [dol, cond_true, List.nil_append, List.cons_append, List.cons.injEq] at e
      rw [List.all_cons, Bool.and_eq_true] at hll
      rw [← e.1]; left; exact isLet_at hll.1
theorem area_ok {s : List UInt8} (hs : s.length <= 4000000000) {row col : Int} (h3 : farI row) (h4 : farI col) {w w2 r : List UInt8} {R R2 : Rf} (h : RefW row col w R) (h2 : RefW row col w2 R2) (e : Nat) (he : e <= s.length) (q k ar sh : Int) (hd : s.drop e = 58 :: (w2 ++ r)) (hr : endW r) (Φ : DV -> List Blk -> Prop) (hΦ : Φ (Tr.mk ar v0 R R2 sh 0 []).dv [rdr s row col ((e + 1 + w2.length : Nat) : Int) 0 0]) :
    GoC cfg Pr Ow 186 [.ptr 56 6 0 0, .int .i64 q, .str w, .int .i64 k, .int .i64 ar, .int .i64 sh] [rdr s row col e 0 0] Φ := by
  obtain ⟨hw, h0, hn, _, _, _, hwl⟩ := wrd_ref lb h2
  have eb : blN s e = e := blN_nb (by rw [hd]; rfl)
  have hsg : signF s e [58] = (true, e + 1) := by
    have := signF_yes (s := s) (p := e) (y := 58) (l := w2 ++ r) (by rw [eb]; exact hd)
    rw [eb] at this; exact this
  have hd2 := (byt_drop hd).2.2
  have hlt := (drop_lt hd).1
  obtain ⟨y, t, ey, hy⟩ := h2.hd
  have eb2 : blN s (e + 1) = e + 1 := blN_nb (by rw [hd2, ey]; simp [nbl, (hdOK_at (hd1_at hy).1).1])
  exact go186a lb h3 h4 h h2 hn s hs e (e + 1) (e + 1) (e + 1 + w2.length) he q k ar sh hsg eb2 (fun Φ hΦ => word_ok hs hd2 (by omega) hw h0 hn hr Φ hΦ) Φ hΦ
omit lb in
theorem stop58 {s : List UInt8} {e : Nat} (h : stopW (s.drop e) = true) : signF s e [58] = (false, blN s e) := by
  unfold signF
  simp only
  have := stopW_col h
  rw [hp_one (y := 58) fun z t e' => ?_]
  · rfl
  · refine this z t ?_
    unfold blN at e'
    rw [← List.drop_drop] at e'
    exact e'
theorem trail_le {s T rest : List UInt8} {q : Nat} (h : s.drop q = T ++ rest) (hT : T ≠ []) : q + T.length <= s.length := by
  have := congrArg List.length h
  simp only [List.length_drop, List.length_append] at this
  have : 0 < T.length := by cases T with | nil => exact absurd rfl hT | cons _ _ => simp
  omega
include lc
theorem leafG_ok {s : List UInt8} (hs : s.length <= 4000000000) {row col : Int} (h3 : farI row) (h4 : farI col) (p q : Nat) (t : Tr) (p2 : Nat) (hp' : p <= s.length) (hq : blN s p = q) (h : leafG s row col uE q t p2) : p2 <= s.length /\ RdsOK Pr Ow s row col .prim p t p2 := by
  obtain ⟨T, rest, hd, hst, rfl, hT⟩ := h
  obtain ⟨x, l, e, hx⟩ := hT.hd
  have hle := trail_le lb hd (by rw [e]; simp)
  have hd1 := drop_app hd
  have hdx : s.drop q = x :: (l ++ rest) := by rw [hd, e]; rfl
  obtain ⟨hlt, hbx⟩ := drop_lt hdx
  have hste := endW_stop hst
  have hble : blN s (q + T.length) <= s.length := blN_le hle
  have hst' : stopW (s.drop (q + T.length)) = true := by rw [hd1]; exact hst
  cases hT with
  | @num wh bh h =>
    have hall : ∀ y ∈ wh ++ ptT bh, mem digP y.toNat = true /\ y.toNat <= 127 := by
      intro y hy
      have dg : ∀ l : List UInt8, l.all isDig = true -> ∀ y ∈ l, mem digP y.toNat = true /\ y.toNat <= 127 := by
        intro l hl y hy
        rw [List.all_eq_true] at hl
        have := isDig_at (hl y hy)
        refine ⟨?_, by omega⟩
        have : y.toNat = 48 \/ y.toNat = 49 \/ y.toNat = 50 \/ y.toNat = 51 \/ y.toNat = 52 \/ y.toNat = 53 \/ y.toNat = 54 \/ y.toNat = 55 \/ y.toNat = 56 \/ y.toNat = 57 := by omega
        rcases this with h | h | h | h | h | h | h | h | h | h <;> rw [h] <;> rfl
      rw [List.mem_append] at hy
      rcases hy with hy | hy
      · exact dg wh h.wd y hy
      · cases bh with
        | nil => cases hy
        | cons z zs =>
          simp only [ptT, List.mem_cons] at hy
          rcases hy with rfl | hy
          · exact ⟨rfl, by decide⟩
          · exact dg (z :: zs) h.bd y (by simpa using hy)
    have e1 : runN digP (s.drop q) = (wh ++ ptT bh).length := by rw [hd]; exact runN_app (fun y hy => (hall y hy).1) (fun y t e => (hste.no y t e).2.1)
    have e2 : runA digP (s.drop q) = true := by rw [hd]; exact runA_app hall (fun y t e => ⟨(hste.no y t e).2.1, (hste.no y t e).2.2⟩)
    have e3 : (s.drop q).take (runN digP (s.drop q)) = wh ++ ptT bh := by rw [e1, hd]; exact List.take_left
    have hx' : 48 <= x.toNat /\ x.toNat <= 57 := by
      obtain ⟨c, m, ec⟩ := cons_of h.w0
      have hwd := h.wd
      rw [ec] at e hwd
      rw [List.all_cons, Bool.and_eq_true] at hwd
      have : c = x := (List.cons.inj e).1
      rw [← this]; exact isDig_at hwd.1
    refine ⟨hle, prim_num hs hp' hq hlt (by rw [hbx]; exact hx') fun Φ hΦ => ?_⟩
    refine go74 s hs row col q (by omega) e2 _ _ (fun Φ hΦ => by rw [e3]; exact go110 lb.ix h Φ hΦ) Φ (by rw [e1]; exact hΦ)
  | @str x' hu hl =>
    refine ⟨hle, prim_str hs hp' hq hlt (by rw [hbx, (List.cons.inj e).1.symm]; rfl) fun Φ hΦ => ?_⟩
    have hd' : s.drop q = 34 :: (dbl x' ++ 34 :: rest) := by rw [hd]; simp
    refine go75 lc lb.ix s hs row col q hlt x' rest hl hu (fun y t e => ?_) (byt_drop hd').2.2 Φ ?_
    · subst e
      have := stop_at (stopW_head hst)
      rintro rfl
      have : (34 : UInt8).toNat = 34 := rfl
      omega
    · have : q + 1 + (dbl x').length + 1 = q + (34 :: (dbl x' ++ [34])).length := by simp; omega
      rw [this]; exact hΦ
  | @flt i hi =>
    have hx35 : x.toNat = 35 := by
      match i, hi with
      | 0, _ => cases e; rfl
      | 1, _ => cases e; rfl
      | 2, _ => cases e; rfl
      | 3, _ => cases e; rfl
      | 4, _ => cases e; rfl
      | 5, _ => cases e; rfl
      | 6, _ => cases e; rfl
      | n + 7, h => omega
    exact ⟨hle, prim_flt hs hp' hq hlt (by rw [hbx]; exact hx35) fun Φ hΦ => go146 s row col hs q (by omega) i hi rest hd Φ hΦ⟩
  | tru b =>
    refine ⟨hle, prim_nam hs hp' hq hlt (by left; rw [hbx]; cases b <;> cases e <;> decide) fun Φ hΦ => go147t b hs (by omega) hd hst Φ hΦ⟩
  | @name n hn =>
    refine ⟨hle, prim_nam hs hp' hq hlt (by left; rw [hbx]; cases e; decide) fun Φ hΦ => go147n lb hs (by omega) hn hd hst Φ hΦ⟩
  | @cell w R h =>
    have hxx := ref_head h e
    refine ⟨hble, prim_nam hs hp' hq hlt (by rw [hbx]; exact hxx) fun Φ hΦ => ?_⟩
    refine go147c lb hs h (by omega) hd hste (fun z t e => by subst e; have := stop_at (stopW_head hst); omega) (fun Φ hΦ => ?_) Φ hΦ
    exact go186c lb h3 h4 h s hs (q + T.length) (blN s (q + T.length)) hle q 2 3 0 (stop58 hst') Φ hΦ
  | @area w w2 R R2 h h2 =>
    obtain ⟨x0, l0, e0, _⟩ := h.hd
    have hxx : (65 <= x.toNat /\ x.toNat <= 90) \/ x.toNat = 36 := by
      have := ref_head h e0
      rw [e0] at e
      have : x0 = x := (List.cons.inj e).1
      rw [← this]; assumption
    have hd' : s.drop q = w ++ (58 :: (w2 ++ rest)) := by rw [hd]; simp
    have hd2 := drop_app hd'
    have hle2 : q + w.length <= s.length := by have := (drop_lt hd2).1; omega
    have epos : q + w.length + 1 + w2.length = q + (w ++ 58 :: w2).length := by simp; omega
    refine ⟨hle, prim_nam hs hp' hq hlt (by rw [hbx]; exact hxx) fun Φ hΦ => ?_⟩
    refine go147c lb hs h (by omega) hd' (by intro y t e; cases e; exact .inr (.inr (.inl rfl))) (fun z t e => by cases e; decide) (fun Φ hΦ => ?_) Φ hΦ
    refine area_ok lb hs h3 h4 h h2 (q + w.length) hle2 q 2 3 0 hd2 hste Φ ?_
    rw [epos]; exact hΦ
  | @scell n w R hn h =>
    have hd' : s.drop q = (83 :: Lib.decDigits (n + 1)) ++ (33 :: (w ++ rest)) := by rw [hd]; simp
    have epos : q + (83 :: Lib.decDigits (n + 1)).length + 1 + w.length = q + (83 :: (Lib.decDigits (n + 1) ++ 33 :: w)).length := by simp; omega
    refine ⟨hble, prim_nam hs hp' hq hlt (by left; rw [hbx]; cases e; decide) fun Φ hΦ => ?_⟩
    refine go147s lb hs hn h (by omega) hd' hste (fun Φ hΦ => ?_) Φ hΦ
    rw [epos]
    exact go186c lb h3 h4 h s hs _ _ hle _ 4 5 n (stop58 hst') Φ hΦ
  | @sarea n w w2 R R2 hn h h2 =>
    have hd' : s.drop q = (83 :: Lib.decDigits (n + 1)) ++ (33 :: (w ++ (58 :: (w2 ++ rest)))) := by rw [hd]; simp
    have epos : q + (83 :: Lib.decDigits (n + 1)).length + 1 + w.length + 1 + w2.length = q + (83 :: (Lib.decDigits (n + 1) ++ 33 :: (w ++ 58 :: w2))).length := by simp; omega
    have hd2 := (byt_drop (drop_app hd')).2.2
    have hd3 := drop_app hd2
    have hle3 := (drop_lt hd3).1
    refine ⟨hle, prim_nam hs hp' hq hlt (by left; rw [hbx]; cases e; decide) fun Φ hΦ => ?_⟩
    refine go147s lb hs hn h (by omega) hd' (by intro y t e; cases e; exact .inr (.inr (.inl rfl))) (fun Φ hΦ => ?_) Φ hΦ
    refine area_ok lb hs h3 h4 h h2 _ (by omega) _ 4 5 n hd3 hste Φ ?_
    rw [epos]; exact hΦ
omit lc in
theorem headG_ok {s : List UInt8} (hs : s.length <= 4000000000) {row col : Int} (p q : Nat) (op : Int) (p1 : Nat) (hp' : p <= s.length) (hq : blN s p = q) (h : headG s q op p1) : p1 <= s.length /\ ∀ t p2, RdsOK Pr Ow s row col (.call op) p1 t p2 -> RdsOK Pr Ow s row col .prim p t p2 := by
  obtain ⟨i, rest, hi, hd, rfl, rfl⟩ := h
  obtain ⟨x, l, e, hx⟩ := fnNm_hd hi
  have hl : ∀ w ∈ fnL, ((w.all isWrd && (match w with | x :: _ => isLet x | [] => false)) && ((w == TRUE') == false && (w == FALSE') == false)) = true := by
    have : (fnL.all fun w => ((w.all isWrd && (match w with | x :: _ => isLet x | [] => false)) && ((w == TRUE') == false && (w == FALSE') == false))) = true := by kernel_rfl
    exact List.all_eq_true.1 this
  have hw := hl _ (fnNm_mem hi)
  generalize hW : fnNm i = w at *
  simp only [Bool.and_eq_true, beq_iff_eq] at hw
  obtain ⟨⟨hw1, hw2⟩, hw3, hw4⟩ := hw
  subst e
  have hxl := isLet_at hw2
  have hdx : s.drop q = x :: (l ++ (40 :: rest)) := by rw [hd]; rfl
  obtain ⟨hlt, hbx⟩ := drop_lt hdx
  refine ⟨trail_le lb hd (by simp), fun t p2 hc => prim_nam hs hp' hq hlt (by left; rw [hbx]; exact hxl) fun Φ hΦ => ?_⟩
  refine go147f hs (by omega) hd (by rw [List.all_eq_true] at hw1; exact hw1) (by intro y t e; cases e; omega) (by simp) hw3 hw4 (fun Φ h => by rw [← hW]; exact lb.fd i hi Φ h) (fun Φ h => hc Φ h) Φ hΦ
end
end Go.Det.Sea
end
