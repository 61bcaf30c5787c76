/- TextMovesCardSaid: part 9 of the texts behind it: Gr3, Gr5, Gr4, Sg3, Pl1, Ck1, Ck2. No premise of its own. -/
import Derived.Test.YtpfjeinhmmmhkaaGreatDoorD8
set_option linter.all false
section
namespace Go.Det.Sea
open Go Go.Det
def unT (o : Int) (t : Tr) : Tr := .mk 7 v0 r0 r0 0 o [t]
def biT (o : Int) (a b : Tr) : Tr := .mk 8 v0 r0 r0 0 o [a, b]
def paT (t : Tr) : Tr := .mk 10 v0 r0 r0 0 0 [t]
def caT (o : Int) (l : List Tr) : Tr := .mk 9 v0 r0 r0 0 o l
def hd35 (s : List UInt8) (row col : Int) (p : Nat) (bind : Int) (acc : Tr) : St := mkS 34 [(0, .ptr 34 6 0 0), (1, .int .i64 bind), (4, .ptr 4 18 0 0), (5, .ptr 5 18 0 0)] [(4, .box zeroE), (5, .box acc.cells)] [rdr s row col p 0 0]
def F35 (s : List UInt8) (row col : Int) (p : Nat) (out : Tr) (k : Ex -> St -> Prop) : Prop := k (.exit 0) (mkS 34 [(4, .ptr 4 18 0 0), (5, .ptr 5 18 0 0)] [(4, .box zeroE), (5, .box out.cells)] [rdr s row col p 0 0])
def E35 (L : St -> Prop) (s : List UInt8) (row col : Int) (p p1 p2 : Nat) (bind : Int) (a out : Tr) (g : Prop) : Env := { ss := [(10, 72, callE g [.ptr 38 6 0 0] [rdr s row col p 0 0] out.dv [rdr s row col p2 0 0]), (14, 35, callE (¬ g) [.ptr 34 6 0 0, .int .i64 (bind + 1)] [rdr s row col p 0 0] a.dv [rdr s row col p1 0 0])], ls := [(0, loopS [0, 1, 4, 5] [4, 5] 34 L (F35 s row col p2 out))] }
def E35b (s : List UInt8) (row col : Int) (p p1 p2 : Nat) (bind : Int) (op : Nat) (c : Tr) (g : Prop) : Env := { ss := [(22, 73, callE True [.ptr 70 6 0 0, .int .i64 bind] [rdr s row col p 0 0] (.int .i64 op) [rdr s row col p1 0 0]), (30, 35, callE g [.ptr 34 6 0 0, .int .i64 (bind + 1)] [rdr s row col p1 0 0] c.dv [rdr s row col p2 0 0])] }
theorem vc35 (s : List UInt8) (row col : Int) (p p1 p2 : Nat) (bind : Int) (a out : Tr) (g : Prop) (L : St -> Prop) (Φ : DV -> List Blk -> Prop) : (vcF cfg (E35 L s row col p p1 p2 bind a out g) 35 [.ptr 34 6 0 0, .int .i64 bind] [rdr s row col p 0 0] Φ) =
    (brB (bind == (6 : Int)) ((g /\ [DV.ptr 38 6 0 0] = [DV.ptr 38 6 0 0] /\ [rdr s row col p 0 0] = [rdr s row col p 0 0]) /\ Φ (Tr.dv out) [rdr s row col p2 0 0]) (obB (inR .i64 (bind + (1 : Int))) (((g -> False) /\ [DV.ptr 34 6 0 0, DV.int .i64 (bind + (1 : Int))] = [DV.ptr 34 6 0 0, DV.int .i64 (bind + (1 : Int))] /\ [rdr s row col p 0 0] = [rdr s row col p 0 0]) /\ L (mkS 34 [(0, DV.ptr 34 6 0 0), (1, DV.int .i64 bind), (4, DV.ptr 4 18 0 0), (5, DV.ptr 5 18 0 0)] [(4, Blk.box zeroE), (5, Blk.box (Tr.cells a))] [rdr s row col p1 0 0]) /\ Φ (Tr.dv out) [rdr s row col p2 0 0]))) := by kernel_rfl
theorem vc35_1 (s : List UInt8) (row col : Int) (p p1 p2 : Nat) (bind : Int) (op : Nat) (acc c : Tr) (g : Prop) (L : St -> Prop) (K : Ex -> St -> Prop) : (vcB cfg (E35b s row col p p1 p2 bind op c g) 35 0 (hd35 s row col p bind acc) (bodyK L [0, 1, 4, 5] [4, 5] [4, 5] [4, 5] 34 K)) =
    ((True /\ [DV.ptr 70 6 0 0, DV.int .i64 bind] = [DV.ptr 70 6 0 0, DV.int .i64 bind] /\ [rdr s row col p 0 0] = [rdr s row col p 0 0]) /\ brB ((↑op : Int) == 0) (K (Ex.exit 0) (mkS 34 [(4, DV.ptr 4 18 0 0), (5, DV.ptr 5 18 0 0)] [(4, Blk.box zeroE), (5, Blk.box (Tr.cells acc))] [rdr s row col p1 0 0])) (obB (inR .i64 (bind + (1 : Int))) ((g /\ [DV.ptr 34 6 0 0, DV.int .i64 (bind + (1 : Int))] = [DV.ptr 34 6 0 0, DV.int .i64 (bind + (1 : Int))] /\ [rdr s row col p1 0 0] = [rdr s row col p1 0 0]) /\ L (mkS 34 [(0, DV.ptr 34 6 0 0), (1, DV.int .i64 bind), (4, DV.ptr 4 18 0 0), (5, DV.ptr 5 18 0 0)] [(4, Blk.box zeroE), (5, Blk.box [DV.int .i64 8, DV.int .i64 0, DV.int .i64 0, DV.int .i64 0, DV.str [], DV.bool false, DV.int .i64 0, DV.int .i64 0, DV.int .i64 0, DV.bool false, DV.bool false, DV.int .i64 0, DV.int .i64 0, DV.bool false, DV.bool false, DV.int .i64 0, DV.int .i64 op, DV.psl 18 [Tr.dv acc, Tr.dv c]])] [rdr s row col p2 0 0])))) := by kernel_rfl
def hd72 (s : List UInt8) (row col : Int) (p : Nat) (i : Int) : St := mkS 38 [(0, .ptr 38 6 0 0), (2, .ptr 2 18 0 0), (6, .psl 1 [.str [45], .str [43]]), (7, .int .i64 2), (8, .int .i64 i)] [(2, .box zeroE)] [rdr s row col p 0 0]
def F72 (s : List UInt8) (row col : Int) (p : Nat) (out : Tr) (r : Bool) (k : Ex -> St -> Prop) : Prop := brB r (k .ret (mkS 38 [(0, .ptr 38 6 0 0), (2, .ptr 2 18 0 0)] [(2, .box out.cells)] [rdr s row col p 0 0])) (k (.exit 0) (mkS 38 [(0, .ptr 38 6 0 0), (2, .ptr 2 18 0 0)] [(2, .box zeroE)] [rdr s row col p 0 0]))
def hp72 (s : List UInt8) (row col : Int) (p : Nat) (acc : Tr) : St := mkS 38 [(0, .ptr 38 6 0 0), (2, .ptr 2 18 0 0), (5, .ptr 5 18 0 0)] [(2, .box zeroE), (5, .box acc.cells)] [rdr s row col p 0 0]
def Fp72 (s : List UInt8) (row col : Int) (p : Nat) (out : Tr) (k : Ex -> St -> Prop) : Prop := k (.exit 2) (mkS 38 [(2, .ptr 2 18 0 0), (5, .ptr 5 18 0 0)] [(2, .box zeroE), (5, .box out.cells)] [rdr s row col p 0 0])
def E72 (L Lp : St -> Prop) (s : List UInt8) (row col : Int) (p p1 p2 : Nat) (a out : Tr) (r : Bool) : Env := { ls := [(0, loopS [0, 2, 6, 7, 8] [2] 38 L (F72 s row col p out r)), (2, loopS [0, 2, 5] [2, 5] 38 Lp (Fp72 s row col p2 out))], ss := [(24, 108, callE (r = false) [.ptr 95 6 0 0] [rdr s row col p 0 0] a.dv [rdr s row col p1 0 0])] }
def E72b (s : List UInt8) (row col : Int) (p p1 p2 : Nat) (r : Bool) (x : List UInt8) (t : Tr) : Env := { ss := [(15, 107, callE True [.ptr 28 6 0 0, .str x] [rdr s row col p 0 0] (.bool r) [rdr s row col p1 0 0]), (19, 72, callE (r = true) [.ptr 38 6 0 0] [rdr s row col p1 0 0] t.dv [rdr s row col p2 0 0])] }
def E72p (s : List UInt8) (row col : Int) (p p1 : Nat) (r : Bool) : Env := { ss := [(32, 107, callE True [.ptr 28 6 0 0, .str [37]] [rdr s row col p 0 0] (.bool r) [rdr s row col p1 0 0])], sp := [8] }
theorem vc72 (s : List UInt8) (row col : Int) (p p1 p2 p3 : Nat) (a out : Tr) (r : Bool) (L Lp : St -> Prop) (Φ : DV -> List Blk -> Prop) : (vcF cfg (E72 L Lp s row col p p1 p2 a out r) 72 [.ptr 38 6 0 0] [rdr s row col p3 0 0] Φ) =
    (L (mkS 38 [(0, DV.ptr 38 6 0 0), (2, DV.ptr 2 18 0 0), (6, DV.psl 1 [DV.str [45], DV.str [43]]), (7, DV.int .i64 2), (8, DV.int .i64 0)] [(2, Blk.box zeroE)] [rdr s row col p3 0 0]) /\ brB r (Φ (Tr.dv out) [rdr s row col p 0 0]) ((r = false /\ [DV.ptr 95 6 0 0] = [DV.ptr 95 6 0 0] /\ [rdr s row col p 0 0] = [rdr s row col p 0 0]) /\ Lp (mkS 38 [(0, DV.ptr 38 6 0 0), (2, DV.ptr 2 18 0 0), (5, DV.ptr 5 18 0 0)] [(2, Blk.box zeroE), (5, Blk.box (Tr.cells a))] [rdr s row col p1 0 0]) /\ Φ (Tr.dv out) [rdr s row col p2 0 0])) := by kernel_rfl
theorem vc72_0 (s : List UInt8) (row col : Int) (p p1 p2 : Nat) (r : Bool) (x : List UInt8) (t : Tr) (L : St -> Prop) (K : Ex -> St -> Prop) : (vcB cfg (E72b s row col p p1 p2 r x t) 72 0 (hd72 s row col p 0) (bodyK L [0, 2, 6, 7, 8] [2] [0, 2] [2] 38 K)) =
    ((True /\ [DV.ptr 28 6 0 0, DV.str [45]] = [DV.ptr 28 6 0 0, DV.str x] /\ [rdr s row col p 0 0] = [rdr s row col p 0 0]) /\ brB r ((r = true /\ [DV.ptr 38 6 0 0] = [DV.ptr 38 6 0 0] /\ [rdr s row col p1 0 0] = [rdr s row col p1 0 0]) /\ K Ex.ret (mkS 38 [(0, DV.ptr 38 6 0 0), (2, DV.ptr 2 18 0 0)] [(2, Blk.box [DV.int .i64 7, DV.int .i64 0, DV.int .i64 0, DV.int .i64 0, DV.str [], DV.bool false, DV.int .i64 0, DV.int .i64 0, DV.int .i64 0, DV.bool false, DV.bool false, DV.int .i64 0, DV.int .i64 0, DV.bool false, DV.bool false, DV.int .i64 0, DV.int .i64 1, DV.psl 18 [Tr.dv t]])] [rdr s row col p2 0 0])) (L (mkS 38 [(0, DV.ptr 38 6 0 0), (2, DV.ptr 2 18 0 0), (6, DV.psl 1 [DV.str [45], DV.str [43]]), (7, DV.int .i64 2), (8, DV.int .i64 1)] [(2, Blk.box zeroE)] [rdr s row col p1 0 0]))) := by kernel_rfl
theorem vc72_1 (s : List UInt8) (row col : Int) (p p1 p2 : Nat) (r : Bool) (x : List UInt8) (t : Tr) (L : St -> Prop) (K : Ex -> St -> Prop) : (vcB cfg (E72b s row col p p1 p2 r x t) 72 0 (hd72 s row col p 1) (bodyK L [0, 2, 6, 7, 8] [2] [0, 2] [2] 38 K)) =
    ((True /\ [DV.ptr 28 6 0 0, DV.str [43]] = [DV.ptr 28 6 0 0, DV.str x] /\ [rdr s row col p 0 0] = [rdr s row col p 0 0]) /\ brB r ((r = true /\ [DV.ptr 38 6 0 0] = [DV.ptr 38 6 0 0] /\ [rdr s row col p1 0 0] = [rdr s row col p1 0 0]) /\ K Ex.ret (mkS 38 [(0, DV.ptr 38 6 0 0), (2, DV.ptr 2 18 0 0)] [(2, Blk.box [DV.int .i64 7, DV.int .i64 0, DV.int .i64 0, DV.int .i64 0, DV.str [], DV.bool false, DV.int .i64 0, DV.int .i64 0, DV.int .i64 0, DV.bool false, DV.bool false, DV.int .i64 0, DV.int .i64 0, DV.bool false, DV.bool false, DV.int .i64 0, DV.int .i64 2, DV.psl 18 [Tr.dv t]])] [rdr s row col p2 0 0])) (L (mkS 38 [(0, DV.ptr 38 6 0 0), (2, DV.ptr 2 18 0 0), (6, DV.psl 1 [DV.str [45], DV.str [43]]), (7, DV.int .i64 2), (8, DV.int .i64 2)] [(2, Blk.box zeroE)] [rdr s row col p1 0 0]))) := by kernel_rfl
theorem vc72_2 (s : List UInt8) (row col : Int) (p : Nat) (L : St -> Prop) (K : Ex -> St -> Prop) : (vcB cfg {} 72 0 (hd72 s row col p 2) (bodyK L [0, 2, 6, 7, 8] [2] [0, 2] [2] 38 K)) =
    (K (Ex.exit 0) (mkS 38 [(0, DV.ptr 38 6 0 0), (2, DV.ptr 2 18 0 0)] [(2, Blk.box zeroE)] [rdr s row col p 0 0])) := by kernel_rfl
theorem vc72_p (s : List UInt8) (row col : Int) (p p1 : Nat) (r : Bool) (acc : Tr) (L : St -> Prop) (K : Ex -> St -> Prop) : (vcB cfg (E72p s row col p p1 r) 72 2 (hp72 s row col p acc) (bodyK L [0, 2, 5] [2, 5] [2, 5] [2, 5] 38 K)) =
    ((True /\ [DV.ptr 28 6 0 0, DV.str [37]] = [DV.ptr 28 6 0 0, DV.str [37]] /\ [rdr s row col p 0 0] = [rdr s row col p 0 0]) /\ brB r (L (mkS 38 [(0, DV.ptr 38 6 0 0), (2, DV.ptr 2 18 0 0), (5, DV.ptr 5 18 0 0)] [(2, Blk.box zeroE), (5, Blk.box [DV.int .i64 7, DV.int .i64 0, DV.int .i64 0, DV.int .i64 0, DV.str [], DV.bool false, DV.int .i64 0, DV.int .i64 0, DV.int .i64 0, DV.bool false, DV.bool false, DV.int .i64 0, DV.int .i64 0, DV.bool false, DV.bool false, DV.int .i64 0, DV.int .i64 3, DV.psl 18 [Tr.dv acc]])] [rdr s row col p1 0 0])) (K (Ex.exit 2) (mkS 38 [(2, DV.ptr 2 18 0 0), (5, DV.ptr 5 18 0 0)] [(2, Blk.box zeroE), (5, Blk.box (Tr.cells acc))] [rdr s row col p1 0 0]))) := by kernel_rfl
def E148 (s : List UInt8) (row col : Int) (p p1 : Nat) : Env := { ss := [(9, 107, callE True [.ptr 28 6 0 0, .str [41]] [rdr s row col p 0 0] (.bool true) [rdr s row col p1 0 0])], cs := [(37, noCall)], sp := [0] }
theorem vc148 (s : List UInt8) (row col : Int) (p p1 : Nat) (Φ : DV -> List Blk -> Prop) : (vcF cfg (E148 s row col p p1) 148 [.ptr 14 6 0 0] [rdr s row col p 0 0] Φ) =
    ((True /\ [DV.ptr 28 6 0 0, DV.str [41]] = [DV.ptr 28 6 0 0, DV.str [41]] /\ [rdr s row col p 0 0] = [rdr s row col p 0 0]) /\ Φ (DV.tup []) [rdr s row col p1 0 0]) := by kernel_rfl
def E108 (s : List UInt8) (row col : Int) (p0 p p1 p2 : Nat) (t u : Tr) (g74 g75 g146 g147 g35 : Prop) : Env := { cs := [(36, callE True [.ptr 31 6 0 0] [rdr s row col p0 0 0] (.tup []) [rdr s row col p 0 0]), (76, noCall), (74, callE g74 [.ptr 25 6 0 0] [rdr s row col p 0 0] t.dv [rdr s row col p2 0 0]), (75, callE g75 [.ptr (ntOf cfg 75) 6 0 0] [rdr s row col p 0 0] t.dv [rdr s row col p2 0 0]), (146, callE g146 [.ptr (ntOf cfg 146) 6 0 0] [rdr s row col p 0 0] t.dv [rdr s row col p2 0 0]), (147, callE g147 [.ptr (ntOf cfg 147) 6 0 0] [rdr s row col p 0 0] t.dv [rdr s row col p2 0 0]), (35, callE g35 [.ptr 34 6 0 0, .int .i64 1] [rdr s row col ((p : Int) + 1) 0 0] u.dv [rdr s row col p1 0 0]), (148, callE g35 [.ptr 14 6 0 0] [rdr s row col p1 0 0] (.tup []) [rdr s row col p2 0 0])] }
theorem vc108 (s : List UInt8) (row col : Int) (p0 p p1 p2 : Nat) (t u : Tr) (g74 g75 g146 g147 g35 : Prop) (Φ : DV -> List Blk -> Prop) : (vcF cfg (E108 s row col p0 p p1 p2 t u g74 g75 g146 g147 g35) 108 [.ptr 95 6 0 0] [rdr s row col p0 0 0] Φ) =
    ((True /\ [DV.ptr 31 6 0 0] = [DV.ptr 31 6 0 0] /\ [rdr s row col p0 0 0] = [rdr s row col p0 0 0]) /\ brB ((↑p : Int) == (↑(List.length s) : Int)) False (obB (decide (p < List.length s)) (brB (decide ((↑(UInt8.toNat (List.getD s p (0 : UInt8))) : Int) ≥ 48) && decide ((↑(UInt8.toNat (List.getD s p (0 : UInt8))) : Int) <= 57) || (↑(UInt8.toNat (List.getD s p (0 : UInt8))) : Int) == 46) ((g74 /\ [DV.ptr 25 6 0 0] = [DV.ptr 25 6 0 0] /\ [rdr s row col p 0 0] = [rdr s row col p 0 0]) /\ Φ (Tr.dv t) [rdr s row col p2 0 0]) (brB ((↑(UInt8.toNat (List.getD s p (0 : UInt8))) : Int) == 34) ((g75 /\ [DV.ptr 87 6 0 0] = [DV.ptr 87 6 0 0] /\ [rdr s row col p 0 0] = [rdr s row col p 0 0]) /\ Φ (Tr.dv t) [rdr s row col p2 0 0]) (brB ((↑(UInt8.toNat (List.getD s p (0 : UInt8))) : Int) == 35) ((g146 /\ [DV.ptr 26 6 0 0] = [DV.ptr 26 6 0 0] /\ [rdr s row col p 0 0] = [rdr s row col p 0 0]) /\ Φ (Tr.dv t) [rdr s row col p2 0 0]) (brB (decide ((↑(UInt8.toNat (List.getD s p (0 : UInt8))) : Int) ≥ 65) && decide ((↑(UInt8.toNat (List.getD s p (0 : UInt8))) : Int) <= 90) || (↑(UInt8.toNat (List.getD s p (0 : UInt8))) : Int) == 36 || (↑(UInt8.toNat (List.getD s p (0 : UInt8))) : Int) == 39) ((g147 /\ [DV.ptr 126 6 0 0] = [DV.ptr 126 6 0 0] /\ [rdr s row col p 0 0] = [rdr s row col p 0 0]) /\ Φ (Tr.dv t) [rdr s row col p2 0 0]) (obB ((↑(UInt8.toNat (List.getD s p (0 : UInt8))) : Int) == 40) (obB (inR .i64 ((↑p : Int) + 1)) ((g35 /\ [DV.ptr 34 6 0 0, DV.int .i64 1] = [DV.ptr 34 6 0 0, DV.int .i64 1] /\ [Blk.box [DV.str s, DV.int .i64 row, DV.int .i64 col, DV.int .i64 ((↑p : Int) + 1), DV.int .i64 0, DV.int .i64 0]] = [Blk.box [DV.str s, DV.int .i64 row, DV.int .i64 col, DV.int .i64 ((↑p : Int) + 1), DV.int .i64 0, DV.int .i64 0]]) /\ (g35 /\ [DV.ptr 14 6 0 0] = [DV.ptr 14 6 0 0] /\ [rdr s row col p1 0 0] = [rdr s row col p1 0 0]) /\ Φ (DV.agg [DV.int .i64 10, DV.int .i64 0, DV.int .i64 0, DV.int .i64 0, DV.str [], DV.bool false, DV.int .i64 0, DV.int .i64 0, DV.int .i64 0, DV.bool false, DV.bool false, DV.int .i64 0, DV.int .i64 0, DV.bool false, DV.bool false, DV.int .i64 0, DV.int .i64 0, DV.psl 18 [Tr.dv u]]) [rdr s row col p2 0 0]))))))))) := by kernel_rfl
theorem vc24 (r c : Int) (Φ : DV -> List Blk -> Prop) : (vcF cfg E0 24 [.agg [.int .i64 r, .int .i64 c]] [] Φ) =
    (Φ (DV.bool (decide (r ≥ (0 : Int)) && decide (r < (65536 : Int)) && decide (c ≥ (0 : Int)) && decide (c < (256 : Int)))) []) := by kernel_rfl
def E15 (s : List UInt8) (row col : Int) (p p2 : Nat) (t : Tr) (f : Int) : Env := { cs := [(24, callG True [.agg [.int .i64 row, .int .i64 col]] (.bool true)), (35, callE True [.ptr 34 6 0 0, .int .i64 1] [rdr s row col 0 0 0] t.dv [rdr s row col p 0 0]), (36, callE True [.ptr 31 6 0 0] [rdr s row col p 0 0] (.tup []) [rdr s row col p2 0 0]), (37, noCall), (29, callG True [t.dv] (.int .i64 f))] }
theorem vc15 (s : List UInt8) (row col : Int) (p p2 : Nat) (t : Tr) (f : Int) (Φ : DV -> List Blk -> Prop) : (vcF cfg (E15 s row col p p2 t f) 15 [.str s, .agg [.int .i64 row, .int .i64 col]] [] Φ) =
    (True /\ [DV.agg [DV.int .i64 row, DV.int .i64 col]] = [DV.agg [DV.int .i64 row, DV.int .i64 col]] /\ (True /\ [DV.ptr 34 6 0 0, DV.int .i64 1] = [DV.ptr 34 6 0 0, DV.int .i64 1] /\ [rdr s row col 0 0 0] = [rdr s row col 0 0 0]) /\ (True /\ [DV.ptr 31 6 0 0] = [DV.ptr 31 6 0 0] /\ [rdr s row col p 0 0] = [rdr s row col p 0 0]) /\ brB (decide ((↑p2 : Int) < (↑(List.length s) : Int))) False (True /\ [Tr.dv t] = [Tr.dv t] /\ brB (f != (0 : Int)) (Φ (DV.tup [DV.agg zeroE, DV.int .i64 0, DV.int .i64 f]) []) (Φ (DV.tup [Tr.dv t, DV.int .i64 0, DV.int .i64 0]) []))) := by kernel_rfl
end Go.Det.Sea
end

section
namespace Go.Det.Sea
open Go Go.Det
def hd183_0 (s : List UInt8) (row col : Int) (p : Nat) (op : Int) : St := mkS 38 [(0, .ptr 38 6 0 0), (4, .ptr 4 18 0 0), (5, .ptr 5 18 0 0)] [(4, .box zeroE), (5, .box ((caT op []).cellsK .nilsl))] [rdr s row col p 0 0]
def hd183_1 (s : List UInt8) (row col : Int) (p : Nat) (op : Int) (acc : List DV) (m : Nat) : St := mkS 38 [(0, .ptr 38 6 0 0), (4, .ptr 4 18 0 0), (5, .ptr 5 18 0 0)] [(4, .box zeroE), (5, .box ((caT op []).cellsK (.rsl 23 18 0 m))), (23, .row 18 acc)] [rdr s row col p 0 0]
def F183 (s : List UInt8) (row col : Int) (p : Nat) (op : Int) (out : List DV) (m : Nat) (k : Ex -> St -> Prop) : Prop := k (.exit 0) (mkS 38 [(4, .ptr 4 18 0 0), (5, .ptr 5 18 0 0)] [(4, .box zeroE), (5, .box ((caT op []).cellsK (.rsl 23 18 0 m))), (23, .row 18 out)] [rdr s row col p 0 0])
def E183 (L : St -> Prop) (s : List UInt8) (row col : Int) (p p1 p2 p3 : Nat) (op : Int) (r : Bool) (out : List DV) (m : Nat) : Env := { ss := [(9, 107, callE True [.ptr 28 6 0 0, .str [40]] [rdr s row col p 0 0] (.bool true) [rdr s row col p1 0 0]), (11, 107, callE True [.ptr 28 6 0 0, .str [41]] [rdr s row col p1 0 0] (.bool r) [rdr s row col p2 0 0])], ls := [(0, loopS [0, 4, 5] [4, 5] 38 L (F183 s row col p3 op out m))] }
def E183b (s : List UInt8) (row col : Int) (p p1 p2 p3 : Nat) (c : Tr) (r : Bool) : Env := { ss := [(21, 35, callE True [.ptr 34 6 0 0, .int .i64 1] [rdr s row col p 0 0] c.dv [rdr s row col p1 0 0]), (32, 107, callE True [.ptr 28 6 0 0, .str [44]] [rdr s row col p1 0 0] (.bool r) [rdr s row col p2 0 0]), (36, 148, callE (r = false) [.ptr 14 6 0 0] [rdr s row col p2 0 0] (.tup []) [rdr s row col p3 0 0])], sp := [7] }
theorem vc183 (s : List UInt8) (row col : Int) (p p1 p2 p3 : Nat) (op : Int) (r : Bool) (out : List DV) (m : Nat) (L : St -> Prop) (Φ : DV -> List Blk -> Prop) : (vcF cfg (E183 L s row col p p1 p2 p3 op r out m) 183 [.ptr 38 6 0 0, .int .i64 op] [rdr s row col p 0 0] Φ) =
    ((True /\ [DV.ptr 28 6 0 0, DV.str [40]] = [DV.ptr 28 6 0 0, DV.str [40]] /\ [Blk.box [DV.str s, DV.int .i64 row, DV.int .i64 col, DV.int .i64 p, DV.int .i64 0, DV.int .i64 0]] = [Blk.box [DV.str s, DV.int .i64 row, DV.int .i64 col, DV.int .i64 p, DV.int .i64 0, DV.int .i64 0]]) /\ (True /\ [DV.ptr 28 6 0 0, DV.str [41]] = [DV.ptr 28 6 0 0, DV.str [41]] /\ [Blk.box [DV.str s, DV.int .i64 row, DV.int .i64 col, DV.int .i64 p1, DV.int .i64 0, DV.int .i64 0]] = [Blk.box [DV.str s, DV.int .i64 row, DV.int .i64 col, DV.int .i64 p1, DV.int .i64 0, DV.int .i64 0]]) /\ brB r (Φ (DV.agg [DV.int .i64 9, DV.int .i64 0, DV.int .i64 0, DV.int .i64 0, DV.str [], DV.bool false, DV.int .i64 0, DV.int .i64 0, DV.int .i64 0, DV.bool false, DV.bool false, DV.int .i64 0, DV.int .i64 0, DV.bool false, DV.bool false, DV.int .i64 0, DV.int .i64 op, DV.nilsl]) [Blk.box [DV.str s, DV.int .i64 row, DV.int .i64 col, DV.int .i64 p2, DV.int .i64 0, DV.int .i64 0]]) (L (mkS 38 [(0, DV.ptr 38 6 0 0), (4, DV.ptr 4 18 0 0), (5, DV.ptr 5 18 0 0)] [(4, Blk.box zeroE), (5, Blk.box [DV.int .i64 9, DV.int .i64 0, DV.int .i64 0, DV.int .i64 0, DV.str [], DV.bool false, DV.int .i64 0, DV.int .i64 0, DV.int .i64 0, DV.bool false, DV.bool false, DV.int .i64 0, DV.int .i64 0, DV.bool false, DV.bool false, DV.int .i64 0, DV.int .i64 op, DV.nilsl])] [Blk.box [DV.str s, DV.int .i64 row, DV.int .i64 col, DV.int .i64 p2, DV.int .i64 0, DV.int .i64 0]]) /\ obB (decide (0 + m <= List.length out)) (Φ (DV.agg (Tr.cellsK (caT op []) (DV.psl 18 (List.take m out)))) [Blk.box [DV.str s, DV.int .i64 row, DV.int .i64 col, DV.int .i64 p3, DV.int .i64 0, DV.int .i64 0]]))) := by kernel_rfl
theorem vc183_0 (s : List UInt8) (row col : Int) (p p1 p2 p3 : Nat) (op : Int) (c : Tr) (r : Bool) (L : St -> Prop) (K : Ex -> St -> Prop) : (vcB cfg (E183b s row col p p1 p2 p3 c r) 183 0 (hd183_0 s row col p op) (bodyK L [0, 4, 5] [4, 5, 23] [4, 5] [4, 5, 23] 38 K)) =
    ((True /\ [DV.ptr 34 6 0 0, DV.int .i64 1] = [DV.ptr 34 6 0 0, DV.int .i64 1] /\ [Blk.box [DV.str s, DV.int .i64 row, DV.int .i64 col, DV.int .i64 p, DV.int .i64 0, DV.int .i64 0]] = [Blk.box [DV.str s, DV.int .i64 row, DV.int .i64 col, DV.int .i64 p, DV.int .i64 0, DV.int .i64 0]]) /\ (True /\ [DV.ptr 28 6 0 0, DV.str [44]] = [DV.ptr 28 6 0 0, DV.str [44]] /\ [Blk.box [DV.str s, DV.int .i64 row, DV.int .i64 col, DV.int .i64 p1, DV.int .i64 0, DV.int .i64 0]] = [Blk.box [DV.str s, DV.int .i64 row, DV.int .i64 col, DV.int .i64 p1, DV.int .i64 0, DV.int .i64 0]]) /\ brB (!r) ((r = false /\ [DV.ptr 14 6 0 0] = [DV.ptr 14 6 0 0] /\ [Blk.box [DV.str s, DV.int .i64 row, DV.int .i64 col, DV.int .i64 p2, DV.int .i64 0, DV.int .i64 0]] = [Blk.box [DV.str s, DV.int .i64 row, DV.int .i64 col, DV.int .i64 p2, DV.int .i64 0, DV.int .i64 0]]) /\ K (Ex.exit 0) (mkS 38 [(4, DV.ptr 4 18 0 0), (5, DV.ptr 5 18 0 0)] [(4, Blk.box zeroE), (5, Blk.box (Tr.cellsK (caT op []) (DV.rsl 23 18 0 1))), (23, Blk.row 18 [Tr.dv c])] [Blk.box [DV.str s, DV.int .i64 row, DV.int .i64 col, DV.int .i64 p3, DV.int .i64 0, DV.int .i64 0]])) (L (mkS 38 [(0, DV.ptr 38 6 0 0), (4, DV.ptr 4 18 0 0), (5, DV.ptr 5 18 0 0)] [(4, Blk.box zeroE), (5, Blk.box (Tr.cellsK (caT op []) (DV.rsl 23 18 0 1))), (23, Blk.row 18 [Tr.dv c])] [Blk.box [DV.str s, DV.int .i64 row, DV.int .i64 col, DV.int .i64 p2, DV.int .i64 0, DV.int .i64 0]]))) := by kernel_rfl
theorem vc183_1 (s : List UInt8) (row col : Int) (p p1 p2 p3 : Nat) (op : Int) (acc : List DV) (m : Nat) (c : Tr) (r : Bool) (L : St -> Prop) (K : Ex -> St -> Prop) : (vcB cfg (E183b s row col p p1 p2 p3 c r) 183 0 (hd183_1 s row col p op acc m) (bodyK L [0, 4, 5] [4, 5, 23] [4, 5] [4, 5, 23] 38 K)) =
    ((True /\ [DV.ptr 34 6 0 0, DV.int .i64 1] = [DV.ptr 34 6 0 0, DV.int .i64 1] /\ [Blk.box [DV.str s, DV.int .i64 row, DV.int .i64 col, DV.int .i64 p, DV.int .i64 0, DV.int .i64 0]] = [Blk.box [DV.str s, DV.int .i64 row, DV.int .i64 col, DV.int .i64 p, DV.int .i64 0, DV.int .i64 0]]) /\ obB (decide (0 + m <= List.length acc)) (obB (roomy 152 (m + 1)) ((True /\ [DV.ptr 28 6 0 0, DV.str [44]] = [DV.ptr 28 6 0 0, DV.str [44]] /\ [Blk.box [DV.str s, DV.int .i64 row, DV.int .i64 col, DV.int .i64 p1, DV.int .i64 0, DV.int .i64 0]] = [Blk.box [DV.str s, DV.int .i64 row, DV.int .i64 col, DV.int .i64 p1, DV.int .i64 0, DV.int .i64 0]]) /\ brB (!r) ((r = false /\ [DV.ptr 14 6 0 0] = [DV.ptr 14 6 0 0] /\ [Blk.box [DV.str s, DV.int .i64 row, DV.int .i64 col, DV.int .i64 p2, DV.int .i64 0, DV.int .i64 0]] = [Blk.box [DV.str s, DV.int .i64 row, DV.int .i64 col, DV.int .i64 p2, DV.int .i64 0, DV.int .i64 0]]) /\ K (Ex.exit 0) (mkS 38 [(4, DV.ptr 4 18 0 0), (5, DV.ptr 5 18 0 0)] [(4, Blk.box zeroE), (5, Blk.box (Tr.cellsK (caT op []) (DV.rsl 23 18 0 (m + 1)))), (23, Blk.row 18 (List.take m acc ++ [Tr.dv c]))] [Blk.box [DV.str s, DV.int .i64 row, DV.int .i64 col, DV.int .i64 p3, DV.int .i64 0, DV.int .i64 0]])) (L (mkS 38 [(0, DV.ptr 38 6 0 0), (4, DV.ptr 4 18 0 0), (5, DV.ptr 5 18 0 0)] [(4, Blk.box zeroE), (5, Blk.box (Tr.cellsK (caT op []) (DV.rsl 23 18 0 (m + 1)))), (23, Blk.row 18 (List.take m acc ++ [Tr.dv c]))] [Blk.box [DV.str s, DV.int .i64 row, DV.int .i64 col, DV.int .i64 p2, DV.int .i64 0, DV.int .i64 0]]))))) := by kernel_rfl
end Go.Det.Sea
end

section
namespace Go.Det.Sea
open Go Go.Det
inductive GJ where
  | lvl (n : Nat)
  | tail (n : Nat) (acc : Tr)
  | sgn
  | pct (acc : Tr)
  | prim
  | call (op : Int)
  | args (op : Int) (acc : List Tr)
inductive Rds (s : List UInt8) (leaf : Nat -> Tr -> Nat -> Prop) (head : Nat -> Int -> Nat -> Prop) : GJ -> Nat -> Tr -> Nat -> Prop where
  | lvl {n p a p1 t p2} : n < 6 -> Rds s leaf head (.lvl (n + 1)) p a p1 -> Rds s leaf head (.tail n a) p1 t p2 -> Rds s leaf head (.lvl n) p t p2
  | lvl6 {p t p2} : Rds s leaf head .sgn p t p2 -> Rds s leaf head (.lvl 6) p t p2
  | tl0 {n : Nat} {acc p p1} : opF s p (n : Int) = (0, p1) -> Rds s leaf head (.tail n acc) p acc p1
  | tl1 {n : Nat} {acc p p1} {o : Nat} {c p2 t p3} : n < 6 -> opF s p (n : Int) = (o + 1, p1) -> Rds s leaf head (.lvl (n + 1)) p1 c p2 -> Rds s leaf head (.tail n (biT ((o + 1 : Nat) : Int) acc c)) p2 t p3 -> Rds s leaf head (.tail n acc) p t p3
  | neg {p p1 t p2} : signF s p [45] = (true, p1) -> Rds s leaf head .sgn p1 t p2 -> Rds s leaf head .sgn p (unT 1 t) p2
  | pos {p p0 p1 t p2} : signF s p [45] = (false, p0) -> signF s p0 [43] = (true, p1) -> Rds s leaf head .sgn p1 t p2 -> Rds s leaf head .sgn p (unT 2 t) p2
  | plain {p p0 p1 a p2 t p3} : signF s p [45] = (false, p0) -> signF s p0 [43] = (false, p1) -> Rds s leaf head .prim p1 a p2 -> Rds s leaf head (.pct a) p2 t p3 -> Rds s leaf head .sgn p t p3
  | pc0 {acc p p1} : signF s p [37] = (false, p1) -> Rds s leaf head (.pct acc) p acc p1
  | pc1 {acc p p1 t p2} : signF s p [37] = (true, p1) -> Rds s leaf head (.pct (unT 3 acc)) p1 t p2 -> Rds s leaf head (.pct acc) p t p2
  | leaf {p q t p2} : blN s p = q -> leaf q t p2 -> Rds s leaf head .prim p t p2
  | paren {p q u p1 p2} : blN s p = q -> q < s.length -> byt s q = 40 -> Rds s leaf head (.lvl 1) (q + 1) u p1 -> signF s p1 [41] = (true, p2) -> Rds s leaf head .prim p (paT u) p2
  | call {p q op p1 t p2} : blN s p = q -> head q op p1 -> Rds s leaf head (.call op) p1 t p2 -> Rds s leaf head .prim p t p2
  | call0 {op p p1 p2} : signF s p [40] = (true, p1) -> signF s p1 [41] = (true, p2) -> Rds s leaf head (.call op) p (caT op []) p2
  | call1 {op p p1 p2 t p3} : signF s p [40] = (true, p1) -> signF s p1 [41] = (false, p2) -> Rds s leaf head (.args op []) p2 t p3 -> Rds s leaf head (.call op) p t p3
  | arg1 {op acc p c p1 p2 t p3} : acc.length <= 1000000 -> Rds s leaf head (.lvl 1) p c p1 -> signF s p1 [44] = (true, p2) -> Rds s leaf head (.args op (acc ++ [c])) p2 t p3 -> Rds s leaf head (.args op acc) p t p3
  | arg0 {op acc p c p1 p2 p3} : acc.length <= 1000000 -> Rds s leaf head (.lvl 1) p c p1 -> signF s p1 [44] = (false, p2) -> signF s p2 [41] = (true, p3) -> Rds s leaf head (.args op acc) p (caT op (acc ++ [c])) p3
theorem hp_len : ∀ {a b : List UInt8}, hp a b = true -> b.length <= a.length
  | _, [], _ => Nat.zero_le _
  | [], _ :: _, h => by simp [hp] at h
  | x :: a, y :: b, h => by
    simp only [hp, Bool.and_eq_true] at h
    have := hp_len h.2
    simp only [List.length_cons]; omega
theorem signF_le {s : List UInt8} {p : Nat} {g : List UInt8} {r : Bool} {p1 : Nat} (h : signF s p g = (r, p1)) (hp' : p <= s.length) : p1 <= s.length := by
  have hn := blN_le hp'
  unfold signF at h
  simp only at h
  cases hq : hp (s.drop (blN s p)) g with
  | false => rw [hq] at h; simp at h; omega
  | true =>
    rw [hq] at h
    have := hp_len hq
    rw [List.length_drop] at this
    simp at h; omega
theorem bestFrom_hp (rest : List UInt8) : ∀ d i b, (b = 0 \/ hp rest (sgn (b - 1)) = true) -> (bestFrom rest d i b = 0 \/ hp rest (sgn (bestFrom rest d i b - 1)) = true)
  | 0, i, b, h => by simpa [bestFrom] using h
  | d + 1, i, b, h => by
    simp only [bestFrom]
    refine bestFrom_hp rest d (i + 1) _ ?_
    unfold bestStep
    cases hc : (hp rest (sgn i) && (Nat.beq b 0 || decide ((sgn i).length > (sgn (b - 1)).length))) with
    | false => exact h
    | true =>
      rw [Bool.and_eq_true] at hc
      exact .inr hc.1
theorem opF_le {s : List UInt8} {p : Nat} {n : Int} {r p1 : Nat} (h : opF s p n = (r, p1)) (hp' : p <= s.length) : p1 <= s.length := by
  have hn := blN_le hp'
  have hb := bestFrom_hp (s.drop (blN s p)) 12 0 0 (.inl rfl)
  unfold opF at h
  simp only at h
  generalize hB : bestFrom (s.drop (blN s p)) 12 0 0 = B at h hb
  cases hc : (Nat.beq B 0 || !(bindsI B == n)) with
  | true => rw [hc] at h; simp at h; omega
  | false =>
    rw [hc] at h
    rcases hb with h0 | h0
    · subst h0; simp at hc
    · have := hp_len h0
      rw [List.length_drop] at this
      simp at h; omega
section
variable {Pr Ow : Nat -> List DV -> DV -> Prop} (s : List UInt8) (row col : Int)
def RdsOK (Pr Ow : Nat -> List DV -> DV -> Prop) (s : List UInt8) (row col : Int) : GJ -> Nat -> Tr -> Nat -> Prop
  | .lvl n, p, t, p2 => ∀ Φ : DV -> List Blk -> Prop, Φ t.dv [rdr s row col p2 0 0] -> GoC cfg Pr Ow 35 [.ptr 34 6 0 0, .int .i64 n] [rdr s row col p 0 0] Φ
  | .tail n acc, p, t, p2 => ∀ K, F35 s row col p2 t K -> GoL cfg Pr Ow 35 34 (bodyOf cfg 35 0) (hd35 s row col p n acc) K
  | .sgn, p, t, p2 => ∀ Φ : DV -> List Blk -> Prop, Φ t.dv [rdr s row col p2 0 0] -> GoC cfg Pr Ow 72 [.ptr 38 6 0 0] [rdr s row col p 0 0] Φ
  | .pct acc, p, t, p2 => ∀ K, Fp72 s row col p2 t K -> GoL cfg Pr Ow 72 38 (bodyOf cfg 72 2) (hp72 s row col p acc) K
  | .prim, p, t, p2 => ∀ Φ : DV -> List Blk -> Prop, Φ t.dv [rdr s row col p2 0 0] -> GoC cfg Pr Ow 108 [.ptr 95 6 0 0] [rdr s row col p 0 0] Φ
  | .call op, p, t, p2 => ∀ Φ : DV -> List Blk -> Prop, Φ t.dv [rdr s row col p2 0 0] -> GoC cfg Pr Ow 183 [.ptr 38 6 0 0, .int .i64 op] [rdr s row col p 0 0] Φ
  | .args op acc, p, t, p2 => t = caT op t.kids /\ t.kids ≠ [] /\ ∀ K, F183 s row col p2 op (Tr.encs t.kids) t.kids.length K -> GoL cfg Pr Ow 183 38 (bodyOf cfg 183 0) (match acc with | [] => hd183_0 s row col p op | x :: l => hd183_1 s row col p op (Tr.encs (x :: l)) (x :: l).length) K
theorem nt35 : ntOf cfg 35 = 34 := by kernel_rfl
theorem nd35 : nodupK (loops 0 (codeOf cfg 35)) = true := by kernel_rfl
theorem nt72 : ntOf cfg 72 = 38 := by kernel_rfl
theorem nd72 : nodupK (loops 0 (codeOf cfg 72)) = true := by kernel_rfl
theorem nt183 : ntOf cfg 183 = 38 := by kernel_rfl
theorem nd183 : nodupK (loops 0 (codeOf cfg 183)) = true := by kernel_rfl
theorem op_ok (hs : s.length <= 4000000000) {p : Nat} (hp' : p <= s.length) {n : Int} {o p1 : Nat} (h : opF s p n = (o, p1)) : SpecOK cfg Pr Ow 73 (callE True [.ptr 70 6 0 0, .int .i64 n] [rdr s row col p 0 0] (.int .i64 o) [rdr s row col p1 0 0]) :=
  callE_ok fun _ Φ hΦ => go73 s hs row col 0 0 p hp' n Φ (by rw [h]; exact hΦ)
theorem sign_ok (hs : s.length <= 4000000000) {p : Nat} (hp' : p <= s.length) {g : List UInt8} (hg : g.length <= 4000000000) {o : Bool} {p1 : Nat} (h : signF s p g = (o, p1)) : SpecOK cfg Pr Ow 107 (callE True [.ptr 28 6 0 0, .str g] [rdr s row col p 0 0] (.bool o) [rdr s row col p1 0 0]) :=
  callE_ok fun _ Φ hΦ => go107 s hs row col 0 0 p hp' g hg Φ (by rw [h]; exact hΦ)
theorem go148 (hs : s.length <= 4000000000) {p : Nat} (hp' : p <= s.length) {p1 : Nat} (h : signF s p [41] = (true, p1)) (Φ : DV -> List Blk -> Prop) (hΦ : Φ (.tup []) [rdr s row col p1 0 0]) : GoC cfg Pr Ow 148 [.ptr 14 6 0 0] [rdr s row col p 0 0] Φ := by
  refine fn_of0 (E := E148 s row col p p1) (envOK ⟨noCall_ok, trivial⟩ ⟨sign_ok s row col hs hp' (by simp) h, trivial⟩ trivial) rfl ?_
  rw [vc148]
  exact ⟨⟨trivial, rfl, rfl⟩, hΦ⟩
theorem look_two {E : Env} {sp0 sp2 : LSpec} (hE : E.ls = [(0, sp0), (2, sp2)]) {b : Nat} {sp : LSpec} (hl : look b E.ls = some sp) : (b = 0 /\ sp = sp0) \/ (b = 2 /\ sp = sp2) := by
  rw [hE] at hl
  have := look_mem hl
  simp only [List.mem_cons, Prod.mk.injEq, List.not_mem_nil, or_false] at this
  exact this
theorem rds_ok (hs : s.length <= 4000000000) {leaf : Nat -> Tr -> Nat -> Prop} {head : Nat -> Int -> Nat -> Prop}
    (hleaf : ∀ p q t p2, p <= s.length -> blN s p = q -> leaf q t p2 -> p2 <= s.length /\ RdsOK Pr Ow s row col .prim p t p2)
    (hhead : ∀ p q op p1, p <= s.length -> blN s p = q -> head q op p1 -> p1 <= s.length /\ ∀ t p2, RdsOK Pr Ow s row col (.call op) p1 t p2 -> RdsOK Pr Ow s row col .prim p t p2)
    {j : GJ} {p : Nat} {t : Tr} {p2 : Nat} (h : Rds s leaf head j p t p2) : p <= s.length -> p2 <= s.length /\ RdsOK Pr Ow s row col j p t p2 := by
  induction h with
  | @lvl n p a p1 t p2 hn h1 h2 ih1 ih2 =>
    intro hp
    obtain ⟨l1, r1⟩ := ih1 hp
    obtain ⟨l2, r2⟩ := ih2 l1
    refine ⟨l2, fun Φ hΦ => ?_⟩
    refine fn_of (E := E35 (fun st => st = hd35 s row col p1 n a) s row col p p1 p2 (n : Int) a t False) (envOK trivial ⟨callE_ok fun h => h.elim, callE_ok fun _ => ?_, trivial⟩ trivial) nt35 nd35 ?_ ?_
    · rw [← cast_succ]; exact r1
    · intro b sp hl st k hk
      obtain ⟨rfl, rfl⟩ := look_one rfl hl
      exact loopS_ok (fun st hst K hK => by subst hst; exact r2 K hK) hk
    · rw [vc35]
      refine brB_of (fun h => ?_) (fun _ => obB_of (inR64 (by omega)) ⟨⟨fun h => h, rfl, rfl⟩, rfl, hΦ⟩)
      have : n = 6 := by have := of_decide_eq_true h; omega
      omega
  | @lvl6 p t p2 h1 ih1 =>
    intro hp
    obtain ⟨l1, r1⟩ := ih1 hp
    refine ⟨l1, fun Φ hΦ => ?_⟩
    refine fn_of (E := E35 (fun st => False) s row col p p p2 6 t t True) (envOK trivial ⟨callE_ok fun _ => r1, callE_ok fun h => (h trivial).elim, trivial⟩ trivial) nt35 nd35 ?_ ?_
    · intro b sp hl st k hk
      obtain ⟨rfl, rfl⟩ := look_one rfl hl
      exact loopS_ok (fun st hst K hK => hst.elim) hk
    · have := vc35 s row col p p p2 6 t t True (fun st => False) Φ
      rw [show (((6 : Nat) : Int)) = 6 from rfl, this]
      exact ⟨⟨trivial, rfl, rfl⟩, hΦ⟩
  | @tl0 n acc p p1 h1 =>
    intro hp
    refine ⟨opF_le h1 hp, fun K hK => ?_⟩
    refine round_of (E := E35b s row col p p1 p1 n 0 acc False) (envOK trivial ⟨op_ok s row col hs hp h1, callE_ok fun h => h.elim, trivial⟩ trivial) nt35 rfl (L := fun _ => False) (ks := [0, 1, 4, 5]) (bs := [4, 5]) (ks2 := [4, 5]) (bs2 := [4, 5]) ?_ (fun _ h => h.elim)
    rw [vc35_1]
    exact ⟨⟨trivial, rfl, rfl⟩, hK⟩
  | @tl1 n acc p p1 o c p2 t p3 hn h1 h2 h3 ih1 ih2 =>
    intro hp
    obtain ⟨l1, r1⟩ := ih1 (opF_le h1 hp)
    obtain ⟨l2, r2⟩ := ih2 l1
    refine ⟨l2, fun K hK => ?_⟩
    refine round_of (E := E35b s row col p p1 p2 n (o + 1) c True) (envOK trivial ⟨op_ok s row col hs hp h1, callE_ok fun _ => ?_, trivial⟩ trivial) nt35 rfl (L := fun st => st = hd35 s row col p2 n (biT ((o + 1 : Nat) : Int) acc c)) (ks := [0, 1, 4, 5]) (bs := [4, 5]) (ks2 := [4, 5]) (bs2 := [4, 5]) ?_ (fun st hst => by subst hst; exact r2 K hK)
    · rw [← cast_succ]; exact r1
    · rw [vc35_1]
      refine ⟨⟨trivial, rfl, rfl⟩, brB_of (fun h => ?_) (fun _ => obB_of (inR64 (by omega)) ⟨⟨trivial, rfl, rfl⟩, ?_⟩)⟩
      · have := of_decide_eq_true h; omega
      · simp only [hd35, biT, Tr.cells, Tr.cellsK, Tr.encs, Tr.kids, Tr.enc_eq]
        rfl
  | @neg p p1 t p2 h1 h2 ih =>
    intro hp
    have l0 := signF_le h1 hp
    obtain ⟨l1, r1⟩ := ih l0
    refine ⟨l1, fun Φ hΦ => ?_⟩
    refine fn_of (E := E72 (fun st => st = hd72 s row col p 0) (fun _ => False) s row col p2 p2 p2 t (unT 1 t) true) (envOK trivial ⟨callE_ok (fun h => by cases h), trivial⟩ trivial) nt72 nd72 ?_ ?_
    · intro b sp hl st k hk
      rcases look_two rfl hl with ⟨rfl, rfl⟩ | ⟨rfl, rfl⟩
      · refine loopS_ok (fun st hst K hK => ?_) hk
        subst hst
        refine round_of (E := E72b s row col p p1 p2 true [45] t) (envOK trivial ⟨sign_ok s row col hs hp (by simp) h1, callE_ok fun _ => r1, trivial⟩ trivial) nt72 rfl (L := fun _ => False) (ks := [0, 2, 6, 7, 8]) (bs := [2]) (ks2 := [0, 2]) (bs2 := [2]) ?_ (fun _ h => h.elim)
        rw [vc72_0]
        refine ⟨⟨trivial, rfl, rfl⟩, ⟨rfl, rfl, rfl⟩, ?_⟩
        simp only [F72, unT, Tr.cells, Tr.cellsK, Tr.encs, Tr.kids, Tr.enc_eq] at hK
        exact hK
      · exact loopS_ok (fun st hst K hK => hst.elim) hk
    · rw [vc72]
      exact ⟨rfl, hΦ⟩
  | @pos p p0 p1 t p2 h1 h2 h3 ih =>
    intro hp
    have l0 := signF_le h1 hp
    have l0' := signF_le h2 l0
    obtain ⟨l1, r1⟩ := ih l0'
    refine ⟨l1, fun Φ hΦ => ?_⟩
    refine fn_of (E := E72 (fun st => st = hd72 s row col p 0) (fun _ => False) s row col p2 p2 p2 t (unT 2 t) true) (envOK trivial ⟨callE_ok (fun h => by cases h), trivial⟩ trivial) nt72 nd72 ?_ ?_
    · intro b sp hl st k hk
      rcases look_two rfl hl with ⟨rfl, rfl⟩ | ⟨rfl, rfl⟩
      · refine loopS_ok (fun st hst K hK => ?_) hk
        subst hst
        refine round_of (E := E72b s row col p p0 p0 false [45] t) (envOK trivial ⟨sign_ok s row col hs hp (by simp) h1, callE_ok (fun h => by cases h), trivial⟩ trivial) nt72 rfl (L := fun st => st = hd72 s row col p0 1) (ks := [0, 2, 6, 7, 8]) (bs := [2]) (ks2 := [0, 2]) (bs2 := [2]) ?_ (fun st hst => ?_)
        · rw [vc72_0]
          exact ⟨⟨trivial, rfl, rfl⟩, rfl⟩
        · subst hst
          refine round_of (E := E72b s row col p0 p1 p2 true [43] t) (envOK trivial ⟨sign_ok s row col hs l0 (by simp) h2, callE_ok fun _ => r1, trivial⟩ trivial) nt72 rfl (L := fun _ => False) (ks := [0, 2, 6, 7, 8]) (bs := [2]) (ks2 := [0, 2]) (bs2 := [2]) ?_ (fun _ h => h.elim)
          rw [vc72_1]
          refine ⟨⟨trivial, rfl, rfl⟩, ⟨rfl, rfl, rfl⟩, ?_⟩
          simp only [F72, unT, Tr.cells, Tr.cellsK, Tr.encs, Tr.kids, Tr.enc_eq] at hK
          exact hK
      · exact loopS_ok (fun st hst K hK => hst.elim) hk
    · rw [vc72]
      exact ⟨rfl, hΦ⟩
  | @plain p p0 p1 a p2 t p3 h1 h2 h3 h4 ih1 ih2 =>
    intro hp
    have l0 := signF_le h1 hp
    have l0' := signF_le h2 l0
    obtain ⟨l1, r1⟩ := ih1 l0'
    obtain ⟨l2, r2⟩ := ih2 l1
    refine ⟨l2, fun Φ hΦ => ?_⟩
    refine fn_of (E := E72 (fun st => st = hd72 s row col p 0) (fun st => st = hp72 s row col p2 a) s row col p1 p2 p3 a t false) (envOK trivial ⟨callE_ok (fun _ => r1), trivial⟩ trivial) nt72 nd72 ?_ ?_
    · intro b sp hl st k hk
      rcases look_two rfl hl with ⟨rfl, rfl⟩ | ⟨rfl, rfl⟩
      · refine loopS_ok (fun st hst K hK => ?_) hk
        subst hst
        refine round_of (E := E72b s row col p p0 p0 false [45] a) (envOK trivial ⟨sign_ok s row col hs hp (by simp) h1, callE_ok (fun h => by cases h), trivial⟩ trivial) nt72 rfl (L := fun st => st = hd72 s row col p0 1) (ks := [0, 2, 6, 7, 8]) (bs := [2]) (ks2 := [0, 2]) (bs2 := [2]) ?_ (fun st hst => ?_)
        · rw [vc72_0]
          exact ⟨⟨trivial, rfl, rfl⟩, rfl⟩
        · subst hst
          refine round_of (E := E72b s row col p0 p1 p1 false [43] a) (envOK trivial ⟨sign_ok s row col hs l0 (by simp) h2, callE_ok (fun h => by cases h), trivial⟩ trivial) nt72 rfl (L := fun st => st = hd72 s row col p1 2) (ks := [0, 2, 6, 7, 8]) (bs := [2]) (ks2 := [0, 2]) (bs2 := [2]) ?_ (fun st hst => ?_)
          · rw [vc72_1]
            exact ⟨⟨trivial, rfl, rfl⟩, rfl⟩
          · subst hst
            refine round_of (E := {}) (envOK trivial trivial trivial) nt72 rfl (L := fun st => False) (ks := [0, 2, 6, 7, 8]) (bs := [2]) (ks2 := [0, 2]) (bs2 := [2]) ?_ (fun _ h => h.elim)
            rw [vc72_2]
            exact hK
      · exact loopS_ok (fun st hst K hK => by subst hst; exact r2 K hK) hk
    · rw [vc72]
      exact ⟨rfl, ⟨rfl, rfl, rfl⟩, rfl, hΦ⟩
  | @pc0 acc p p1 h1 =>
    intro hp
    refine ⟨signF_le h1 hp, fun K hK => ?_⟩
    refine round_of (E := E72p s row col p p1 false) (envOK trivial ⟨sign_ok s row col hs hp (by simp) h1, trivial⟩ trivial) nt72 rfl (L := fun _ => False) (ks := [0, 2, 5]) (bs := [2, 5]) (ks2 := [2, 5]) (bs2 := [2, 5]) ?_ (fun _ h => h.elim)
    rw [vc72_p]
    exact ⟨⟨trivial, rfl, rfl⟩, hK⟩
  | @pc1 acc p p1 t p2 h1 h2 ih =>
    intro hp
    obtain ⟨l1, r1⟩ := ih (signF_le h1 hp)
    refine ⟨l1, fun K hK => ?_⟩
    refine round_of (E := E72p s row col p p1 true) (envOK trivial ⟨sign_ok s row col hs hp (by simp) h1, trivial⟩ trivial) nt72 rfl (L := fun st => st = hp72 s row col p1 (unT 3 acc)) (ks := [0, 2, 5]) (bs := [2, 5]) (ks2 := [2, 5]) (bs2 := [2, 5]) ?_ (fun st hst => by subst hst; exact r1 K hK)
    rw [vc72_p]
    refine ⟨⟨trivial, rfl, rfl⟩, ?_⟩
    simp only [hp72, unT, Tr.cells, Tr.cellsK, Tr.encs, Tr.kids, Tr.enc_eq]
    rfl
  | @leaf p q t p2 h1 h2 => exact fun hp => hleaf p q t p2 hp h1 h2
  | @paren p q u p1 p2 h1 h2 h3 h4 h5 ih =>
    intro hp
    obtain ⟨l1, r1⟩ := ih h2
    refine ⟨signF_le h5 l1, fun Φ hΦ => ?_⟩
    refine fn_of0 (E := E108 s row col p q p1 p2 u u False False False False True) (envOK ⟨callE_ok fun _ Φ hΦ => go36 s hs row col 0 0 p Φ (by rw [h1]; exact hΦ), noCall_ok, callE_ok fun h => h.elim, callE_ok fun h => h.elim, callE_ok fun h => h.elim, callE_ok fun h => h.elim, callE_ok fun _ => ?_, callE_ok fun _ => go148 s row col hs l1 h5, trivial⟩ trivial trivial) rfl ?_
    · rw [← cast_succ]; exact r1
    · rw [vc108]
      unfold byt at h3
      rw [h3]
      refine ⟨⟨trivial, rfl, rfl⟩, brB_of (fun h => ?_) fun _ => obB_of (decide_eq_true h2) ?_⟩
      · have := of_decide_eq_true h; omega
      · refine obB_of (inR64 (by omega)) ⟨⟨trivial, rfl, rfl⟩, ⟨trivial, rfl, rfl⟩, ?_⟩
        simp only [paT, Tr.dv, Tr.cells, Tr.cellsK, Tr.encs, Tr.kids, Tr.enc_eq] at hΦ
        exact hΦ
  | @call p q op p1 t p2 h1 h2 h3 ih =>
    intro hp
    obtain ⟨l1, r1⟩ := hhead p q op p1 hp h1 h2
    obtain ⟨l2, r2⟩ := ih l1
    exact ⟨l2, r1 t p2 r2⟩
  | @call0 op p p1 p2 h1 h2 =>
    intro hp
    have l1 := signF_le h1 hp
    refine ⟨signF_le h2 l1, fun Φ hΦ => ?_⟩
    refine go_wk (WkL.refl _) (fn_of (E := E183 (fun st => False) s row col p p1 p2 p2 op true [] 0) (envOK trivial ⟨sign_ok s row col hs hp (by simp) h1, sign_ok s row col hs l1 (by simp) h2, trivial⟩ trivial) nt183 nd183 ?_ ?_)
    · intro b sp hl st k hk
      obtain ⟨rfl, rfl⟩ := look_one rfl hl
      exact loopS_ok (fun st hst K hK => hst.elim) hk
    · rw [vc183]
      exact ⟨⟨trivial, rfl, rfl⟩, ⟨trivial, rfl, rfl⟩, _, .inr (wk_cells (caT op []) 18), hΦ⟩
  | @call1 op p p1 p2 t p3 h1 h2 h3 ih =>
    intro hp
    have l1 := signF_le h1 hp
    obtain ⟨l2, e1, e2, r⟩ := ih (signF_le h2 l1)
    refine ⟨l2, fun Φ hΦ => ?_⟩
    refine fn_of (E := E183 (fun st => st = hd183_0 s row col p2 op) s row col p p1 p2 p3 op false (Tr.encs t.kids) t.kids.length) (envOK trivial ⟨sign_ok s row col hs hp (by simp) h1, sign_ok s row col hs l1 (by simp) h2, trivial⟩ trivial) nt183 nd183 ?_ ?_
    · intro b sp hl st k hk
      obtain ⟨rfl, rfl⟩ := look_one rfl hl
      exact loopS_ok (fun st hst K hK => by subst hst; exact r K hK) hk
    · rw [vc183]
      refine ⟨⟨trivial, rfl, rfl⟩, ⟨trivial, rfl, rfl⟩, rfl, obB_of (by simp [Tr.encs_len]) ?_⟩
      have : List.take t.kids.length (Tr.encs t.kids) = Tr.encs t.kids := by rw [← Tr.encs_len, List.take_length]
      rw [this]
      have e3 : (DV.agg ((caT op []).cellsK (.psl 18 (Tr.encs t.kids)))) = t.dv := by
        conv => rhs; rw [e1]
        rfl
      rw [e3]; exact hΦ
  | @arg1 op acc p c p1 p2 t p3 h0 h1 h2 h3 ih1 ih2 =>
    intro hp
    obtain ⟨l1, r1⟩ := ih1 hp
    obtain ⟨l2, e1, e2, r⟩ := ih2 (signF_le h2 l1)
    refine ⟨l2, e1, e2, fun K hK => ?_⟩
    cases acc with
    | nil =>
      refine round_of (E := E183b s row col p p1 p2 p2 c true) (envOK trivial ⟨callE_ok fun _ => r1, sign_ok s row col hs l1 (by simp) h2, callE_ok (fun h => by cases h), trivial⟩ trivial) nt183 rfl
        (L := fun st => st = hd183_1 s row col p2 op (Tr.encs [c]) 1) (ks := [0, 4, 5]) (bs := [4, 5, 23]) (ks2 := [4, 5]) (bs2 := [4, 5, 23]) ?_ (fun st hst => by subst hst; exact r K hK)
      rw [vc183_0]
      refine ⟨⟨trivial, rfl, rfl⟩, ⟨trivial, rfl, rfl⟩, ?_⟩
      simp only [hd183_1, Tr.encs, Tr.enc_eq]; rfl
    | cons x l =>
      refine round_of (E := E183b s row col p p1 p2 p2 c true) (envOK trivial ⟨callE_ok fun _ => r1, sign_ok s row col hs l1 (by simp) h2, callE_ok (fun h => by cases h), trivial⟩ trivial) nt183 rfl
        (L := fun st => st = hd183_1 s row col p2 op (Tr.encs (x :: l ++ [c])) (x :: l ++ [c]).length) (ks := [0, 4, 5]) (bs := [4, 5, 23]) (ks2 := [4, 5]) (bs2 := [4, 5, 23]) ?_ (fun st hst => by subst hst; exact r K hK)
      rw [vc183_1]
      refine ⟨⟨trivial, rfl, rfl⟩, obB_of (by simp [Tr.encs_len]) (obB_of (roomy_of (by omega) (by omega)) ⟨⟨trivial, rfl, rfl⟩, ?_⟩)⟩
      rw [show List.take (x :: l).length (Tr.encs (x :: l)) = Tr.encs (x :: l) by rw [← Tr.encs_len, List.take_length]]
      rw [show Tr.encs (x :: l) ++ [c.dv] = Tr.encs (x :: l ++ [c]) by simp [Tr.encs_eq, Tr.enc_eq]]
      rw [show (x :: l ++ [c]).length = (x :: l).length + 1 by simp]
      rfl
  | @arg0 op acc p c p1 p2 p3 h0 h1 h2 h3 ih =>
    intro hp
    obtain ⟨l1, r1⟩ := ih hp
    have l2 := signF_le h2 l1
    refine ⟨signF_le h3 l2, rfl, by simp [caT, Tr.kids], fun K hK => ?_⟩
    cases acc with
    | nil =>
      refine round_of (E := E183b s row col p p1 p2 p3 c false) (envOK trivial ⟨callE_ok fun _ => r1, sign_ok s row col hs l1 (by simp) h2, callE_ok (fun _ => go148 s row col hs l2 h3), trivial⟩ trivial) nt183 rfl
        (L := fun st => False) (ks := [0, 4, 5]) (bs := [4, 5, 23]) (ks2 := [4, 5]) (bs2 := [4, 5, 23]) ?_ (fun _ h => h.elim)
      rw [vc183_0]
      refine ⟨⟨trivial, rfl, rfl⟩, ⟨trivial, rfl, rfl⟩, ⟨rfl, rfl, rfl⟩, ?_⟩
      simp only [F183, caT, Tr.kids, List.nil_append, Tr.encs, Tr.enc_eq] at hK
      exact hK
    | cons x l =>
      refine round_of (E := E183b s row col p p1 p2 p3 c false) (envOK trivial ⟨callE_ok fun _ => r1, sign_ok s row col hs l1 (by simp) h2, callE_ok (fun _ => go148 s row col hs l2 h3), trivial⟩ trivial) nt183 rfl
        (L := fun st => False) (ks := [0, 4, 5]) (bs := [4, 5, 23]) (ks2 := [4, 5]) (bs2 := [4, 5, 23]) ?_ (fun _ h => h.elim)
      rw [vc183_1]
      refine ⟨⟨trivial, rfl, rfl⟩, obB_of (by simp [Tr.encs_len]) (obB_of (roomy_of (by omega) (by omega)) ⟨⟨trivial, rfl, rfl⟩, ⟨rfl, rfl, rfl⟩, ?_⟩)⟩
      rw [show List.take (x :: l).length (Tr.encs (x :: l)) = Tr.encs (x :: l) by rw [← Tr.encs_len, List.take_length]]
      rw [show Tr.encs (x :: l) ++ [c.dv] = Tr.encs (x :: l ++ [c]) by simp [Tr.encs_eq, Tr.enc_eq]]
      have e : (caT op (x :: l ++ [c])).kids.length = (x :: l).length + 1 := by simp [caT, Tr.kids]
      unfold F183 at hK
      rw [e] at hK
      exact hK
end
end Go.Det.Sea
end

section
namespace Go.Det.Sea
open Go Go.Det
inductive Sx where
  | num (d : Nat)
  | bin (o : Nat) (a b : Sx)
inductive SJ where
  | lvl (n : Nat)
  | tail (n : Nat) (acc : Sx)
  | sgn
  | prim
def bd (i : Nat) : Nat := [3, 3, 4, 4, 5, 2, 1, 1, 1, 1, 1, 1].getD i 0
end Go.Det.Sea
end

section
namespace Go.Det.Sea
open Go Go.Det
theorem drop_app {s a r : List UInt8} {q : Nat} (h : s.drop q = a ++ r) : s.drop (q + a.length) = r := by
  rw [← List.drop_drop, h]
  simp
theorem drop_lt {s a : List UInt8} {x : UInt8} {q : Nat} (h : s.drop q = x :: a) : q < s.length /\ byt s q = x.toNat := ⟨(byt_drop h).2.1, (byt_drop h).1⟩
def nbl : List UInt8 -> Bool
  | [] => true
  | x :: _ => !(Nat.beq x.toNat 32)
theorem skip_nb : ∀ l : List UInt8, nbl (l.drop (skipB l)) = true
  | [] => rfl
  | x :: l => by
    simp only [skipB]
    cases h : Nat.beq x.toNat 32 with
    | true => simpa using skip_nb l
    | false => simp [nbl, h]
theorem nb_blN (s : List UInt8) (p : Nat) : nbl (s.drop (blN s p)) = true := by
  unfold blN
  rw [← List.drop_drop]; exact skip_nb _
theorem blN_nb {s : List UInt8} {q : Nat} (h : nbl (s.drop q) = true) : blN s q = q := by
  unfold blN
  cases hd : s.drop q with
  | nil => rfl
  | cons x l =>
    rw [hd] at h
    simp only [nbl, Bool.not_eq_true'] at h
    simp [skipB, h]
theorem blN_idem (s : List UInt8) (p : Nat) : blN s (blN s p) = blN s p := blN_nb (nb_blN s p)
def noEq : List UInt8 -> Bool
  | [] => true
  | x :: _ => !(Nat.beq x.toNat 61) && !(Nat.beq x.toNat 62)
def stopL : List UInt8 := [32, 41, 44, 37, 43, 45, 42, 47, 94, 38, 61, 60, 62]
def noCol (r : List UInt8) : Bool := match r.drop (skipB r) with
  | [] => true
  | y :: _ => !(Nat.beq y.toNat 58)
def stopW : List UInt8 -> Bool
  | [] => true
  | x :: r => mem stopL x.toNat && noCol (x :: r)
theorem stopW_head {y : UInt8} {t : List UInt8} (h : stopW (y :: t) = true) : mem stopL y.toNat = true := by
  simp only [stopW, Bool.and_eq_true] at h; exact h.1
theorem stopW_col {r : List UInt8} (h : stopW r = true) : ∀ y t, r.drop (skipB r) = y :: t -> y.toNat ≠ 58 := by
  intro y t e
  cases r with
  | nil => cases e
  | cons x r =>
    simp only [stopW, Bool.and_eq_true] at h
    have h2 := h.2
    unfold noCol at h2
    rw [e] at h2
    intro h58
    have h2 : (!(Nat.beq y.toNat 58)) = true := h2
    rw [h58] at h2
    cases h2
inductive Fol (n : Nat) : List UInt8 -> Prop where
  | nil : Fol n []
  | sp {r : List UInt8} : Fol n r -> Fol n (32 :: r)
  | br {r : List UInt8} : Fol n (41 :: r)
  | co {r : List UInt8} : Fol n (44 :: r)
  | op {o : Nat} {r : List UInt8} : o < 12 -> bd o < n -> noEq r = true -> Fol n (sgn o ++ r)
theorem Fol.mono {n m : Nat} (hm : n <= m) {l : List UInt8} (h : Fol n l) : Fol m l := by
  induction h with
  | nil => exact .nil
  | sp _ ih => exact .sp ih
  | br => exact .br
  | co => exact .co
  | op h1 h2 h3 => exact .op h1 (by omega) h3
theorem sgn_cons (r : List UInt8) : ∀ o, o < 12 -> ∃ x l, sgn o ++ r = x :: l /\ Nat.beq x.toNat 32 = false /\ Nat.beq x.toNat 37 = false /\ mem stopL x.toNat = true
  | 0, _ => ⟨_, _, rfl, rfl, rfl, rfl⟩ | 1, _ => ⟨_, _, rfl, rfl, rfl, rfl⟩ | 2, _ => ⟨_, _, rfl, rfl, rfl, rfl⟩ | 3, _ => ⟨_, _, rfl, rfl, rfl, rfl⟩ | 4, _ => ⟨_, _, rfl, rfl, rfl, rfl⟩ | 5, _ => ⟨_, _, rfl, rfl, rfl, rfl⟩
  | 6, _ => ⟨_, _, rfl, rfl, rfl, rfl⟩ | 7, _ => ⟨_, _, rfl, rfl, rfl, rfl⟩ | 8, _ => ⟨_, _, rfl, rfl, rfl, rfl⟩ | 9, _ => ⟨_, _, rfl, rfl, rfl, rfl⟩ | 10, _ => ⟨_, _, rfl, rfl, rfl, rfl⟩ | 11, _ => ⟨_, _, rfl, rfl, rfl, rfl⟩
  | n + 12, h => by omega
theorem Fol.skip {n : Nat} {l : List UInt8} (h : Fol n l) : Fol n (l.drop (skipB l)) := by
  induction h with
  | nil => exact .nil
  | sp _ ih => exact ih
  | br => exact .br
  | co => exact .co
  | @op o r h1 h2 h3 =>
    have : skipB (sgn o ++ r) = 0 := by
      obtain ⟨x, l, e, hx, _⟩ := sgn_cons r o h1
      rw [e]; simp [skipB, hx]
    rw [this]
    exact .op h1 h2 h3
theorem sgn_col (r : List UInt8) {o : Nat} (h : o < 12) : noCol (sgn o ++ r) = true := by
  obtain ⟨x, l, e, hx, _, hm⟩ := sgn_cons r o h
  rw [e]
  unfold noCol
  have : skipB (x :: l) = 0 := by simp [skipB, hx]
  rw [this]
  show (!(Nat.beq x.toNat 58)) = true
  cases hb : Nat.beq x.toNat 58 with
  | false => rfl
  | true =>
    rw [Nat.eq_of_beq_eq_true hb] at hm
    cases hm
theorem Fol.col {n : Nat} {l : List UInt8} (h : Fol n l) : noCol l = true := by
  induction h with
  | nil => rfl
  | @sp r _ ih =>
    unfold noCol at ih ⊢
    exact ih
  | br => rfl
  | co => rfl
  | @op o r h1 h2 h3 => exact sgn_col r h1
theorem Fol.stop {n : Nat} {l : List UInt8} (h : Fol n l) : stopW l = true := by
  have hc := h.col
  cases h with
  | nil => rfl
  | @sp r _ =>
    simp only [stopW, hc, Bool.and_true]; rfl
  | br => rfl
  | co => rfl
  | @op o r h1 h2 h3 =>
    obtain ⟨x, l, e, _, _, hx⟩ := sgn_cons r o h1
    rw [e] at hc ⊢
    simp only [stopW, hx, hc, Bool.and_self]
theorem hp_nil (l : List UInt8) : hp l [] = true := by cases l <;> rfl
theorem best_congr {r1 r2 : List UInt8} : ∀ d i b, (∀ j, i <= j -> j < i + d -> hp r1 (sgn j) = hp r2 (sgn j)) -> bestFrom r1 d i b = bestFrom r2 d i b
  | 0, i, b, _ => rfl
  | d + 1, i, b, h => by
    simp only [bestFrom]
    rw [show bestStep r1 b i = bestStep r2 b i by unfold bestStep; rw [h i (by omega) (by omega)]]
    exact best_congr d (i + 1) _ fun j h1 h2 => h j (by omega) (by omega)
theorem best_sgn {r : List UInt8} (hr : noEq r = true) : ∀ o, o < 12 -> bestFrom (sgn o ++ r) 12 0 0 = o + 1 := by
  have h61 : hp r [61] = false /\ hp r [62] = false := by
    cases r with
    | nil => exact ⟨rfl, rfl⟩
    | cons y ys =>
      simp only [noEq, Bool.and_eq_true, Bool.not_eq_true'] at hr
      exact ⟨by simp only [hp]; rw [show Nat.beq y.toNat (61 : UInt8).toNat = false from hr.1]; rfl, by simp only [hp]; rw [show Nat.beq y.toNat (62 : UInt8).toNat = false from hr.2]; rfl⟩
  obtain ⟨h1, h2⟩ := h61
  intro o ho
  match o, ho with
  | 0, _ => cases r <;> rfl
  | 1, _ => cases r <;> rfl
  | 2, _ => cases r <;> rfl
  | 3, _ => cases r <;> rfl
  | 4, _ => cases r <;> rfl
  | 5, _ => cases r <;> rfl
  | 6, _ => cases r <;> rfl
  | 7, _ => cases r <;> rfl
  | 8, _ =>
    rw [best_congr (r2 := [60]) 12 0 0 ?_]
    · rfl
    · intro j _ hj
      match j, hj with
      | 0, _ => rfl | 1, _ => rfl | 2, _ => rfl | 3, _ => rfl | 4, _ => rfl | 5, _ => rfl | 6, _ => rfl
      | 7, _ => show (Nat.beq 60 60 && hp r [62]) = _; rw [h2]; rfl
      | 8, _ => cases r <;> rfl
      | 9, _ => show (Nat.beq 60 60 && hp r [61]) = _; rw [h1]; rfl
      | 10, _ => rfl | 11, _ => rfl
      | n + 12, h => omega
  | 9, _ => cases r <;> rfl
  | 10, _ =>
    rw [best_congr (r2 := [62]) 12 0 0 ?_]
    · rfl
    · intro j _ hj
      match j, hj with
      | 0, _ => rfl | 1, _ => rfl | 2, _ => rfl | 3, _ => rfl | 4, _ => rfl | 5, _ => rfl | 6, _ => rfl | 7, _ => rfl | 8, _ => rfl | 9, _ => rfl
      | 10, _ => cases r <;> rfl
      | 11, _ => show (Nat.beq 62 62 && hp r [61]) = _; rw [h1]; rfl
      | n + 12, h => omega
  | 11, _ => cases r <;> rfl
theorem bindsI_bd : ∀ o, o < 12 -> bindsI ((o + 1 : Nat) : Int) = ((bd o : Nat) : Int)
  | 0, _ => rfl | 1, _ => rfl | 2, _ => rfl | 3, _ => rfl | 4, _ => rfl | 5, _ => rfl | 6, _ => rfl | 7, _ => rfl | 8, _ => rfl | 9, _ => rfl | 10, _ => rfl | 11, _ => rfl
  | n + 12, h => by omega
theorem opF_sgn {s r : List UInt8} {q o : Nat} (h : s.drop (blN s q) = sgn o ++ r) (ho : o < 12) (hr : noEq r = true) : opF s q ((bd o : Nat) : Int) = (o + 1, blN s q + (sgn o).length) := by
  unfold opF
  simp only [h, best_sgn hr o ho]
  rw [bindsI_bd o ho]
  have : Nat.beq (o + 1) 0 = false := rfl
  simp [this]
theorem Fol.op0 {n k : Nat} {s : List UInt8} {q : Nat} (h : Fol n (s.drop q)) (hk : n <= k) : opF s q ((k : Nat) : Int) = (0, blN s q) := by
  have h' : Fol n (s.drop (blN s q)) := by
    unfold blN; rw [← List.drop_drop]; exact h.skip
  have hb := nb_blN s q
  unfold opF
  simp only
  generalize blN s q = m at *
  generalize s.drop m = l at *
  cases h' with
  | nil => rfl
  | sp _ => cases hb
  | br => rfl
  | co => rfl
  | @op o r h1 h2 h3 =>
    rw [best_sgn h3 o h1, bindsI_bd o h1]
    have : (((bd o : Nat) : Int) == ((k : Nat) : Int)) = false := by
      rw [beq_eq_false_iff_ne]; omega
    rw [this]; simp
theorem Fol.pc0 {n : Nat} {s : List UInt8} {q : Nat} (h : Fol n (s.drop q)) : signF s q [37] = (false, blN s q) := by
  have h' : Fol n (s.drop (blN s q)) := by
    unfold blN; rw [← List.drop_drop]; exact h.skip
  have hb := nb_blN s q
  unfold signF
  simp only
  generalize blN s q = m at *
  generalize s.drop m = l at *
  cases h' with
  | nil => rfl
  | sp _ => cases hb
  | br => rfl
  | co => rfl
  | @op o r h1 h2 h3 =>
    obtain ⟨x, l, e, _, hx, _⟩ := sgn_cons r o h1
    rw [e]
    have : hp (x :: l) [37] = false := by
      simp only [hp]; rw [show Nat.beq x.toNat (37 : UInt8).toNat = false from hx]; rfl
    rw [this]; rfl
theorem signF_no {s : List UInt8} {p : Nat} {x y : UInt8} {l : List UInt8} (h : s.drop (blN s p) = x :: l) (hx : Nat.beq x.toNat y.toNat = false) : signF s p [y] = (false, blN s p) := by
  unfold signF
  simp only [h, hp, hx]; rfl
theorem signF_yes {s : List UInt8} {p : Nat} {y : UInt8} {l : List UInt8} (h : s.drop (blN s p) = y :: l) : signF s p [y] = (true, blN s p + 1) := by
  unfold signF
  simp only [h, hp, hp_nil, Nat.beq_refl]; rfl
section
variable {s : List UInt8} {leaf : Nat -> Tr -> Nat -> Prop} {head : Nat -> Int -> Nat -> Prop}
def LoT (s : List UInt8) (leaf : Nat -> Tr -> Nat -> Prop) (head : Nat -> Int -> Nat -> Prop) (T : List UInt8) (B : Tr) (n : Nat) : Prop :=
  ∀ p rest, s.drop (blN s p) = T ++ rest -> Fol (n + 1) rest -> ∀ t p3, Rds s leaf head (.tail n B) (blN s (blN s p + T.length)) t p3 -> Rds s leaf head (.lvl n) p t p3
def VT (s : List UInt8) (leaf : Nat -> Tr -> Nat -> Prop) (head : Nat -> Int -> Nat -> Prop) (T : List UInt8) (B : Tr) (n : Nat) : Prop :=
  ∀ p rest, s.drop (blN s p) = T ++ rest -> Fol n rest -> Rds s leaf head (.lvl n) p B (blN s (blN s p + T.length))
theorem LoT.v {T : List UInt8} {B : Tr} {n : Nat} (h : LoT s leaf head T B n) : VT s leaf head T B n := by
  intro p rest hd hF
  refine h p rest hd (hF.mono (by omega)) _ _ (.tl0 ?_)
  have := (show Fol n (s.drop (blN s (blN s p + T.length))) by
    have e := drop_app hd
    unfold blN at e ⊢
    rw [← List.drop_drop, e]
    exact hF.skip).op0 (Nat.le_refl n)
  rw [blN_idem] at this
  exact this
theorem VT.lo {T : List UInt8} {B : Tr} {n : Nat} (hn : n < 6) (h : VT s leaf head T B (n + 1)) : LoT s leaf head T B n := by
  intro p rest hd hF t p3 ht
  exact .lvl hn (h p rest hd hF) ht
theorem VT.down {T : List UInt8} {B : Tr} : ∀ (d n b : Nat), n + d = b -> b <= 6 -> VT s leaf head T B b -> VT s leaf head T B n
  | 0, n, b, h, _, hv => by
    obtain rfl : n = b := by omega
    exact hv
  | d + 1, n, b, h, hb, hv => (VT.lo (by omega) (VT.down d (n + 1) b (by omega) hb hv)).v
def hdOK (c : Nat) : Bool := !(mem [32, 37, 41, 44, 61, 62] c)
structure RdT (s : List UInt8) (leaf : Nat -> Tr -> Nat -> Prop) (head : Nat -> Int -> Nat -> Prop) (T : List UInt8) (B : Tr) (b : Nat) : Prop where
  hd : ∃ x l, T = x :: l /\ hdOK x.toNat = true /\ (7 <= b -> Nat.beq x.toNat 45 = false /\ Nat.beq x.toNat 43 = false)
  lo : ∀ n, n <= b -> n <= 5 -> LoT s leaf head T B n
  sg : 6 <= b -> ∀ p rest, s.drop (blN s p) = T ++ rest -> Fol 6 rest -> Rds s leaf head .sgn p B (blN s (blN s p + T.length))
  pc : 7 <= b -> ∀ q rest, s.drop q = T ++ rest -> stopW rest = true -> ∃ a p1, Rds s leaf head .prim q a p1 /\ ∀ t p3, Rds s leaf head (.pct B) (q + T.length) t p3 -> Rds s leaf head (.pct a) p1 t p3
theorem RdT.v {T : List UInt8} {B : Tr} {b : Nat} (h : RdT s leaf head T B b) {n : Nat} (hn : n <= b) (h6 : n <= 6) : VT s leaf head T B n := by
  by_cases h5 : n <= 5
  · exact (h.lo n hn h5).v
  · obtain rfl : n = 6 := by omega
    exact fun p rest hd hF => .lvl6 (h.sg hn p rest hd hF)
theorem hdOK_at {x : Nat} (h : hdOK x = true) : Nat.beq x 32 = false /\ Nat.beq x 37 = false /\ Nat.beq x 41 = false /\ Nat.beq x 44 = false /\ Nat.beq x 61 = false /\ Nat.beq x 62 = false := by
  have h : mem [32, 37, 41, 44, 61, 62] x = false := by unfold hdOK at h; simpa using h
  simp only [mem, List.any_cons, List.any_nil, Bool.or_eq_false_iff] at h
  have sw : ∀ a : UInt8, Nat.beq a.toNat x = false -> Nat.beq x a.toNat = false := by
    intro a ha
    cases hb : Nat.beq x a.toNat with
    | false => rfl
    | true =>
      have := Nat.eq_of_beq_eq_true hb
      rw [this, Nat.beq_refl] at ha; cases ha
  exact ⟨sw 32 h.1, sw 37 h.2.1, sw 41 h.2.2.1, sw 44 h.2.2.2.1, sw 61 h.2.2.2.2.1, sw 62 h.2.2.2.2.2.1⟩
theorem RdT.noEq {T : List UInt8} {B : Tr} {b : Nat} (h : RdT s leaf head T B b) (r : List UInt8) : noEq (T ++ r) = true := by
  obtain ⟨x, l, rfl, hx, _⟩ := h.hd
  have := hdOK_at hx
  simp [Sea.noEq, this]
theorem RdT.nb {T : List UInt8} {B : Tr} {b : Nat} (h : RdT s leaf head T B b) {q : Nat} {r : List UInt8} (hd : s.drop q = T ++ r) : blN s q = q := by
  obtain ⟨x, l, rfl, hx, _⟩ := h.hd
  refine blN_nb ?_
  rw [hd]
  simp [nbl, (hdOK_at hx).1]
theorem RdT.of_pc {T : List UInt8} {B : Tr} {b : Nat} (h7 : 7 <= b) (hd : ∃ x l, T = x :: l /\ hdOK x.toNat = true /\ (7 <= b -> Nat.beq x.toNat 45 = false /\ Nat.beq x.toNat 43 = false))
    (pc : ∀ q rest, s.drop q = T ++ rest -> stopW rest = true -> ∃ a p1, Rds s leaf head .prim q a p1 /\ ∀ t p3, Rds s leaf head (.pct B) (q + T.length) t p3 -> Rds s leaf head (.pct a) p1 t p3) : RdT s leaf head T B b := by
  have sg : ∀ p rest, s.drop (blN s p) = T ++ rest -> Fol 6 rest -> Rds s leaf head .sgn p B (blN s (blN s p + T.length)) := by
    intro p rest hdr hF
    obtain ⟨a, p1, h1, h2⟩ := pc _ rest hdr hF.stop
    obtain ⟨x, l, e, hx, hs⟩ := hd
    obtain ⟨hs1, hs2⟩ := hs h7
    have hdr' : s.drop (blN s p) = x :: (l ++ rest) := by rw [hdr, e]; rfl
    have hdr2 : s.drop (blN s (blN s p)) = x :: (l ++ rest) := by rw [blN_idem]; exact hdr'
    have k1 := signF_no (y := 45) hdr' hs1
    have k2 := signF_no (y := 43) hdr2 hs2
    rw [blN_idem] at k2
    refine .plain k1 k2 h1 (h2 _ _ (.pc0 ?_))
    exact (show Fol 6 (s.drop (blN s p + T.length)) by rw [drop_app hdr]; exact hF).pc0
  have v6 : VT s leaf head T B 6 := fun p rest hd hF => .lvl6 (sg p rest hd hF)
  exact ⟨hd, fun n hn h5 => VT.lo (by omega) (VT.down (5 - n) (n + 1) 6 (by omega) (by omega) v6), fun _ => sg, fun _ => pc⟩
theorem RdT.of_sg {T : List UInt8} {B : Tr} (hd : ∃ x l, T = x :: l /\ hdOK x.toNat = true) (sg : ∀ p rest, s.drop (blN s p) = T ++ rest -> Fol 6 rest -> Rds s leaf head .sgn p B (blN s (blN s p + T.length))) : RdT s leaf head T B 6 := by
  have v6 : VT s leaf head T B 6 := fun p rest hd hF => .lvl6 (sg p rest hd hF)
  obtain ⟨x, l, e, hx⟩ := hd
  exact ⟨⟨x, l, e, hx, fun h => absurd h (by omega)⟩, fun n hn h5 => VT.lo (by omega) (VT.down (5 - n) (n + 1) 6 (by omega) (by omega) v6), fun _ => sg, fun h => absurd h (by omega)⟩
theorem RdT.of_lo {T : List UInt8} {B : Tr} {b : Nat} (hb : b <= 5) (hd : ∃ x l, T = x :: l /\ hdOK x.toNat = true) (lo : LoT s leaf head T B b) : RdT s leaf head T B b := by
  obtain ⟨x, l, e, hx⟩ := hd
  refine ⟨⟨x, l, e, hx, fun h => absurd h (by omega)⟩, fun n hn h5 => ?_, fun h => absurd h (by omega), fun h => absurd h (by omega)⟩
  by_cases h : n = b
  · subst h; exact lo
  · exact VT.lo (by omega) (VT.down (b - n - 1) (n + 1) b (by omega) (by omega) lo.v)
theorem signF_bl (s : List UInt8) (p : Nat) (g : List UInt8) : signF s (blN s p) g = signF s p g := by
  unfold signF
  simp only [blN_idem]
theorem pct_bl {B t : Tr} {p p3 : Nat} (h : Rds s leaf head (.pct B) p t p3) : Rds s leaf head (.pct B) (blN s p) t p3 := by
  cases h with
  | pc0 h => exact .pc0 (by rw [signF_bl]; exact h)
  | pc1 h h2 => exact .pc1 (by rw [signF_bl]; exact h) h2
theorem RdT.atom {T : List UInt8} {B : Tr} (hd : ∃ x l, T = x :: l /\ hdOK x.toNat = true /\ Nat.beq x.toNat 45 = false /\ Nat.beq x.toNat 43 = false)
    (h : ∀ q rest, s.drop q = T ++ rest -> stopW rest = true -> leaf q B (q + T.length) \/ leaf q B (blN s (q + T.length))) : RdT s leaf head T B 8 := by
  obtain ⟨x, l, e, hx, h1, h2⟩ := hd
  refine .of_pc (by omega) ⟨x, l, e, hx, fun _ => ⟨h1, h2⟩⟩ fun q rest hdr hs => ?_
  have hb : blN s q = q := blN_nb (by rw [hdr, e]; simp [nbl, (hdOK_at hx).1])
  rcases h q rest hdr hs with h | h
  · exact ⟨B, q + T.length, .leaf hb h, fun _ _ h => h⟩
  · exact ⟨B, blN s (q + T.length), .leaf hb h, fun _ _ h => pct_bl h⟩
theorem RdT.paren {T : List UInt8} {B : Tr} {b : Nat} (h1 : 1 <= b) (h : RdT s leaf head T B b) : RdT s leaf head (40 :: (T ++ [41])) (paT B) 8 := by
  refine .of_pc (by omega) ⟨40, _, rfl, rfl, fun _ => ⟨rfl, rfl⟩⟩ fun q rest hdr hs => ⟨paT B, q + (40 :: (T ++ [41])).length, ?_, fun _ _ h => h⟩
  have hdr' : s.drop q = 40 :: (T ++ (41 :: rest)) := by rw [hdr]; simp
  obtain ⟨hlt, hb⟩ := drop_lt hdr'
  have hd1 : s.drop (q + 1) = T ++ (41 :: rest) := (byt_drop hdr').2.2
  have e1 : blN s (q + 1) = q + 1 := h.nb hd1
  have hv := h.v (n := 1) h1 (by omega) (q + 1) (41 :: rest) (by rw [e1]; exact hd1) .br
  rw [e1] at hv
  have hd2 : s.drop (q + 1 + T.length) = 41 :: rest := drop_app hd1
  have e2 : blN s (q + 1 + T.length) = q + 1 + T.length := blN_nb (by rw [hd2]; rfl)
  rw [e2] at hv
  have hsg := signF_yes (s := s) (p := q + 1 + T.length) (y := 41) (l := rest) (by rw [e2]; exact hd2)
  rw [e2] at hsg
  have e3 : q + (40 :: (T ++ [41])).length = q + 1 + T.length + 1 := by simp; omega
  rw [e3]
  exact .paren (blN_nb (by rw [hdr']; rfl)) hlt hb hv hsg
theorem RdT.pct {T : List UInt8} {B : Tr} {b : Nat} (h7 : 7 <= b) (h : RdT s leaf head T B b) : RdT s leaf head (T ++ [37]) (unT 3 B) 7 := by
  obtain ⟨x, l, e, hx, hs⟩ := h.hd
  refine .of_pc (by omega) ⟨x, l ++ [37], by rw [e]; rfl, hx, fun _ => hs h7⟩ fun q rest hdr hst => ?_
  have hdr' : s.drop q = T ++ (37 :: rest) := by rw [hdr]; simp
  obtain ⟨a, p1, k1, k2⟩ := h.pc h7 q (37 :: rest) hdr' rfl
  refine ⟨a, p1, k1, fun t p3 ht => k2 t p3 ?_⟩
  have hd2 : s.drop (q + T.length) = 37 :: rest := drop_app hdr'
  have e2 : blN s (q + T.length) = q + T.length := blN_nb (by rw [hd2]; rfl)
  have hsg := signF_yes (s := s) (p := q + T.length) (y := 37) (l := rest) (by rw [e2]; exact hd2)
  rw [e2] at hsg
  refine .pc1 hsg ?_
  have e3 : q + (T ++ [37]).length = q + T.length + 1 := by simp; omega
  rw [e3] at ht
  exact ht
theorem RdT.neg {T : List UInt8} {B : Tr} {b : Nat} (h6 : 6 <= b) (h : RdT s leaf head T B b) : RdT s leaf head (45 :: T) (unT 1 B) 6 := by
  refine .of_sg ⟨45, T, rfl, rfl⟩ fun p rest hdr hF => ?_
  have hdr' : s.drop (blN s p) = 45 :: (T ++ rest) := hdr
  have hd1 : s.drop (blN s p + 1) = T ++ rest := (byt_drop hdr').2.2
  have e1 : blN s (blN s p + 1) = blN s p + 1 := h.nb hd1
  have := h.sg h6 (blN s p + 1) rest (by rw [e1]; exact hd1) hF
  rw [e1] at this
  rw [show blN s p + (45 :: T).length = blN s p + 1 + T.length by simp; omega]
  exact .neg (signF_yes hdr') this
theorem RdT.pos {T : List UInt8} {B : Tr} {b : Nat} (h6 : 6 <= b) (h : RdT s leaf head T B b) : RdT s leaf head (43 :: T) (unT 2 B) 6 := by
  refine .of_sg ⟨43, T, rfl, rfl⟩ fun p rest hdr hF => ?_
  have hdr' : s.drop (blN s p) = 43 :: (T ++ rest) := hdr
  have hd1 : s.drop (blN s p + 1) = T ++ rest := (byt_drop hdr').2.2
  have e1 : blN s (blN s p + 1) = blN s p + 1 := h.nb hd1
  have := h.sg h6 (blN s p + 1) rest (by rw [e1]; exact hd1) hF
  rw [e1] at this
  rw [show blN s p + (43 :: T).length = blN s p + 1 + T.length by simp; omega]
  have k := signF_yes (s := s) (p := blN s p) (y := 43) (l := T ++ rest) (by rw [blN_idem]; exact hdr')
  rw [blN_idem] at k
  exact .pos (signF_no hdr' rfl) k this
theorem RdT.bin {o : Nat} (ho : o < 12) {T1 T2 : List UInt8} {B1 B2 : Tr} {b1 b2 : Nat} (h1 : RdT s leaf head T1 B1 b1) (h2 : RdT s leaf head T2 B2 b2) (hb1 : bd o <= b1) (hb2 : bd o + 1 <= b2) :
    RdT s leaf head (T1 ++ (sgn o ++ T2)) (biT ((o + 1 : Nat) : Int) B1 B2) (bd o) := by
  have h5 : bd o <= 5 := by
    unfold bd
    rcases o with _ | _ | _ | _ | _ | _ | _ | _ | _ | _ | _ | _ | o <;> simp
  obtain ⟨x, l, e, hx, _⟩ := h1.hd
  refine .of_lo h5 ⟨x, l ++ (sgn o ++ T2), by rw [e]; rfl, hx⟩ fun p rest hdr hF t p3 ht => ?_
  have hdr' : s.drop (blN s p) = T1 ++ (sgn o ++ (T2 ++ rest)) := by rw [hdr]; simp
  have hd1 : s.drop (blN s p + T1.length) = sgn o ++ (T2 ++ rest) := drop_app hdr'
  have e1 : blN s (blN s p + T1.length) = blN s p + T1.length := blN_nb (by
    rw [hd1]
    obtain ⟨y, m, e, hy, _⟩ := sgn_cons (T2 ++ rest) o ho
    rw [e]; simp [nbl, hy])
  have hd2 : s.drop (blN s p + T1.length + (sgn o).length) = T2 ++ rest := drop_app hd1
  have e2 := h2.nb hd2
  refine h1.lo (bd o) hb1 h5 p _ hdr' (.op ho (by omega) (h2.noEq rest)) t p3 ?_
  rw [e1]
  have hop := opF_sgn (s := s) (q := blN s p + T1.length) (by rw [e1]; exact hd1) ho (h2.noEq rest)
  rw [e1] at hop
  have hv := h2.v (n := bd o + 1) hb2 (by omega) (blN s p + T1.length + (sgn o).length) rest (by rw [e2]; exact hd2) hF
  rw [e2] at hv
  refine .tl1 (by omega) hop hv ?_
  rw [show blN s p + T1.length + (sgn o).length + T2.length = blN s p + (T1 ++ (sgn o ++ T2)).length by simp; omega]
  exact ht
def comma : List (List UInt8) -> List UInt8
  | [] => []
  | [T] => T
  | T :: U :: l => T ++ 44 :: comma (U :: l)
theorem args_rd {op : Int} : ∀ (L : List (List UInt8 × Tr)) (acc : List Tr) (q : Nat) (rest : List UInt8), L ≠ [] -> (∀ x ∈ L, ∃ b, 1 <= b /\ RdT s leaf head x.1 x.2 b) -> acc.length + L.length <= 1000000 -> s.drop q = comma (L.map (·.1)) ++ (41 :: rest) -> 
    Rds s leaf head (.args op acc) q (caT op (acc ++ L.map (·.2))) (q + (comma (L.map (·.1))).length + 1)
  | [], _, _, _, h, _, _, _ => absurd rfl h
  | [x], acc, q, rest, _, hL, hn, hd => by
    obtain ⟨b, hb, hx⟩ := hL x (by simp)
    have hd : s.drop q = x.1 ++ (41 :: rest) := hd
    have e0 := hx.nb hd
    have hv := hx.v (n := 1) hb (by omega) q (41 :: rest) (by rw [e0]; exact hd) .br
    rw [e0] at hv
    have hd2 := drop_app hd
    have e2 : blN s (q + x.1.length) = q + x.1.length := blN_nb (by rw [hd2]; rfl)
    rw [e2] at hv
    have k1 := signF_no (s := s) (p := q + x.1.length) (y := 44) (by rw [e2]; exact hd2) rfl
    have k2 := signF_yes (s := s) (p := q + x.1.length) (y := 41) (by rw [e2]; exact hd2)
    rw [e2] at k1 k2
    exact .arg0 (by simp at hn; omega) hv k1 k2
  | x :: y :: L, acc, q, rest, _, hL, hn, hd => by
    obtain ⟨b, hb, hx⟩ := hL x (by simp)
    have hd : s.drop q = x.1 ++ (44 :: (comma ((y :: L).map (·.1)) ++ (41 :: rest))) := by
      rw [hd]; simp [comma]
    have e0 := hx.nb hd
    have hv := hx.v (n := 1) hb (by omega) q _ (by rw [e0]; exact hd) .co
    rw [e0] at hv
    have hd2 := drop_app hd
    have e2 : blN s (q + x.1.length) = q + x.1.length := blN_nb (by rw [hd2]; rfl)
    rw [e2] at hv
    have k1 := signF_yes (s := s) (p := q + x.1.length) (y := 44) (by rw [e2]; exact hd2)
    rw [e2] at k1
    have hd3 := (byt_drop hd2).2.2
    have ih := args_rd (op := op) (y :: L) (acc ++ [x.2]) (q + x.1.length + 1) rest (by simp) (fun z hz => hL z (by simp [hz])) (by simp at hn ⊢; omega) hd3
    rw [show acc ++ [x.2] ++ (y :: L).map (·.2) = acc ++ (x :: y :: L).map (·.2) by simp] at ih
    rw [show q + x.1.length + 1 + (comma ((y :: L).map (·.1))).length + 1 = q + (comma ((x :: y :: L).map (·.1))).length + 1 by simp [comma]; omega] at ih
    exact .arg1 (by simp at hn; omega) hv k1 ih
theorem RdT.call {op : Int} {nm : List UInt8} (hnm : ∃ x l, nm = x :: l /\ hdOK x.toNat = true /\ Nat.beq x.toNat 45 = false /\ Nat.beq x.toNat 43 = false)
    (hh : ∀ q rest, s.drop q = nm ++ (40 :: rest) -> head q op (q + nm.length)) (L : List (List UInt8 × Tr)) (hL : ∀ x ∈ L, ∃ b, 1 <= b /\ RdT s leaf head x.1 x.2 b) (hn : L.length <= 1000000) :
    RdT s leaf head (nm ++ (40 :: (comma (L.map (·.1)) ++ [41]))) (caT op (L.map (·.2))) 8 := by
  obtain ⟨x, l, e, hx, h1, h2⟩ := hnm
  refine .of_pc (by omega) ⟨x, l ++ (40 :: (comma (L.map (·.1)) ++ [41])), by rw [e]; rfl, hx, fun _ => ⟨h1, h2⟩⟩ fun q rest hdr hs => ⟨caT op (L.map (·.2)), q + (nm ++ (40 :: (comma (List.map (fun z : List UInt8 × Tr => z.1) L) ++ [41]))).length, ?_, fun _ _ h => h⟩
  have hdr' : s.drop q = nm ++ (40 :: (comma (L.map (·.1)) ++ (41 :: rest))) := by rw [hdr]; simp
  have e0 : blN s q = q := blN_nb (by rw [hdr', e]; simp [nbl, (hdOK_at hx).1])
  refine .call e0 (hh q _ hdr') ?_
  have hd1 := drop_app hdr'
  have e1 : blN s (q + nm.length) = q + nm.length := blN_nb (by rw [hd1]; rfl)
  have k1 := signF_yes (s := s) (p := q + nm.length) (y := 40) (by rw [e1]; exact hd1)
  rw [e1] at k1
  have hd2 := (byt_drop hd1).2.2
  cases L with
  | nil =>
    have hd2 : s.drop (q + nm.length + 1) = 41 :: rest := hd2
    have e2 : blN s (q + nm.length + 1) = q + nm.length + 1 := blN_nb (by rw [hd2]; rfl)
    have k2 := signF_yes (s := s) (p := q + nm.length + 1) (y := 41) (by rw [e2]; exact hd2)
    rw [e2] at k2
    have := Rds.call0 (leaf := leaf) (head := head) (op := op) k1 k2
    have e9 : (nm ++ (40 :: (([] : List UInt8) ++ [41]))).length = nm.length + 1 + 1 := by simp
    show Rds s leaf head (GJ.call op) (q + nm.length) (caT op []) (q + (nm ++ (40 :: (([] : List UInt8) ++ [41]))).length)
    rw [e9]
    exact this
  | cons y L =>
    obtain ⟨b, hb, hy⟩ := hL y (by simp)
    obtain ⟨z, m, ez, hz, _⟩ := hy.hd
    have hd3 : s.drop (q + nm.length + 1) = z :: (s.drop (q + nm.length + 1)).tail := by
      rw [hd2]
      cases L with
      | nil => simp [comma, ez]
      | cons w L => simp [comma, ez]
    have hz' := hdOK_at hz
    have e2 : blN s (q + nm.length + 1) = q + nm.length + 1 := blN_nb (by rw [hd3]; simp [nbl, hz'.1])
    have k2 := signF_no (s := s) (p := q + nm.length + 1) (y := 41) (by rw [e2]; exact hd3) hz'.2.2.1
    rw [e2] at k2
    have := args_rd (op := op) (y :: L) [] (q + nm.length + 1) rest (by simp) hL (by simpa using hn) hd2
    rw [show q + nm.length + 1 + (comma (List.map (fun z : List UInt8 × Tr => z.1) (y :: L))).length + 1 = q + (nm ++ (40 :: (comma (List.map (fun z : List UInt8 × Tr => z.1) (y :: L)) ++ [41]))).length by simp; omega] at this
    exact .call1 k1 k2 this
end
end Go.Det.Sea
end

section
namespace Go.Det.Sea
open Go Go.Det
theorem vc52 (t : Tr) (d : Int) (Φ : DV -> List Blk -> Prop) : (vcF cfg E0 52 [ndv t d] [] Φ) =
    (Φ (DV.bool (decide (d > (16 : Int)))) []) := by kernel_rfl
theorem vc87 (a b c : Int) (Φ : DV -> List Blk -> Prop) : (vcF cfg E0 87 [.int .i64 a, .int .i64 b, .int .i64 c] [] Φ) =
    (Φ (DV.bool (decide (a ≥ b) && decide (a <= c))) []) := by kernel_rfl
def E132 (r : Rf) (g : Bool) : Env := { cs := [(24, callG True [.agg [.int .i64 r.row, .int .i64 r.col]] (.bool g))] }
theorem vc132 (r : Rf) (g : Bool) (Φ : DV -> List Blk -> Prop) : (vcF cfg (E132 r g) 132 [r.dv] [] Φ) =
    (True /\ [DV.agg [DV.int .i64 r.row, DV.int .i64 r.col]] = [DV.agg [DV.int .i64 r.row, DV.int .i64 r.col]] /\ brB (!g) (Φ (DV.int .i64 12) []) (Φ (DV.int .i64 0) [])) := by kernel_rfl
def E90 (a b : Rf) (x y : Int) : Env := { ss := [(5, 132, callG True [a.dv] (.int .i64 x)), (8, 132, callG True [b.dv] (.int .i64 y))] }
theorem vc90 (a b : Rf) (x y : Int) (Φ : DV -> List Blk -> Prop) : (vcF cfg (E90 a b x y) 90 [.agg (a.cells ++ b.cells)] [] Φ) =
    (True /\ [Rf.dv a] = [Rf.dv a] /\ True /\ [Rf.dv b] = [Rf.dv b] /\ Φ (DV.int .i64 (if true = true then if y > x then y else x else if y < x then y else x)) []) := by kernel_rfl
theorem vc128 (t : Tr) (Φ : DV -> List Blk -> Prop) : (vcF cfg E0 128 [t.dv] [] Φ) =
    (brB (Tr.kind t == (1 : Int)) (Φ (DV.agg [DV.int .i64 (Tr.kind t), DV.int .i64 (Tr.v t).kind, DV.int .i64 (Tr.v t).m, DV.int .i64 (Tr.v t).s, DV.str (Tr.v t).txt, DV.bool (Tr.v t).b, DV.int .i64 (Tr.v t).e, DV.int .i64 0, DV.int .i64 0, DV.bool false, DV.bool false, DV.int .i64 0, DV.int .i64 0, DV.bool false, DV.bool false, DV.int .i64 0, DV.int .i64 0, DV.nilsl]) []) (brB (Tr.kind t == (2 : Int)) (Φ (DV.agg [DV.int .i64 (Tr.kind t), DV.int .i64 0, DV.int .i64 0, DV.int .i64 0, DV.str [], DV.bool false, DV.int .i64 0, DV.int .i64 (Tr.a t).row, DV.int .i64 (Tr.a t).col, DV.bool (Tr.a t).rr, DV.bool (Tr.a t).rc, DV.int .i64 0, DV.int .i64 0, DV.bool false, DV.bool false, DV.int .i64 0, DV.int .i64 0, DV.nilsl]) []) (brB (Tr.kind t == (3 : Int)) (Φ (DV.agg [DV.int .i64 (Tr.kind t), DV.int .i64 0, DV.int .i64 0, DV.int .i64 0, DV.str [], DV.bool false, DV.int .i64 0, DV.int .i64 (Tr.a t).row, DV.int .i64 (Tr.a t).col, DV.bool (Tr.a t).rr, DV.bool (Tr.a t).rc, DV.int .i64 (Tr.b t).row, DV.int .i64 (Tr.b t).col, DV.bool (Tr.b t).rr, DV.bool (Tr.b t).rc, DV.int .i64 0, DV.int .i64 0, DV.nilsl]) []) (brB (Tr.kind t == (4 : Int)) (Φ (DV.agg [DV.int .i64 (Tr.kind t), DV.int .i64 0, DV.int .i64 0, DV.int .i64 0, DV.str [], DV.bool false, DV.int .i64 0, DV.int .i64 (Tr.a t).row, DV.int .i64 (Tr.a t).col, DV.bool (Tr.a t).rr, DV.bool (Tr.a t).rc, DV.int .i64 0, DV.int .i64 0, DV.bool false, DV.bool false, DV.int .i64 (Tr.sheet t), DV.int .i64 0, DV.nilsl]) []) (brB (Tr.kind t == (5 : Int)) (Φ (DV.agg [DV.int .i64 (Tr.kind t), DV.int .i64 0, DV.int .i64 0, DV.int .i64 0, DV.str [], DV.bool false, DV.int .i64 0, DV.int .i64 (Tr.a t).row, DV.int .i64 (Tr.a t).col, DV.bool (Tr.a t).rr, DV.bool (Tr.a t).rc, DV.int .i64 (Tr.b t).row, DV.int .i64 (Tr.b t).col, DV.bool (Tr.b t).rr, DV.bool (Tr.b t).rc, DV.int .i64 (Tr.sheet t), DV.int .i64 0, DV.nilsl]) []) (brB (Tr.kind t == (6 : Int)) (Φ (DV.agg [DV.int .i64 (Tr.kind t), DV.int .i64 0, DV.int .i64 0, DV.int .i64 0, DV.str [], DV.bool false, DV.int .i64 0, DV.int .i64 0, DV.int .i64 0, DV.bool false, DV.bool false, DV.int .i64 0, DV.int .i64 0, DV.bool false, DV.bool false, DV.int .i64 0, DV.int .i64 (Tr.op t), DV.nilsl]) []) (brB (Tr.kind t == (7 : Int)) (brB (Tr.kind t == (7 : Int)) (Φ (DV.agg [DV.int .i64 (Tr.kind t), DV.int .i64 0, DV.int .i64 0, DV.int .i64 0, DV.str [], DV.bool false, DV.int .i64 0, DV.int .i64 0, DV.int .i64 0, DV.bool false, DV.bool false, DV.int .i64 0, DV.int .i64 0, DV.bool false, DV.bool false, DV.int .i64 0, DV.int .i64 (Tr.op t), DV.psl 18 (Tr.encs (Tr.kids t))]) []) (Φ (DV.agg [DV.int .i64 (Tr.kind t), DV.int .i64 0, DV.int .i64 0, DV.int .i64 0, DV.str [], DV.bool false, DV.int .i64 0, DV.int .i64 0, DV.int .i64 0, DV.bool false, DV.bool false, DV.int .i64 0, DV.int .i64 0, DV.bool false, DV.bool false, DV.int .i64 0, DV.int .i64 0, DV.psl 18 (Tr.encs (Tr.kids t))]) [])) (brB (Tr.kind t == (8 : Int)) (brB (Tr.kind t == (8 : Int)) (Φ (DV.agg [DV.int .i64 (Tr.kind t), DV.int .i64 0, DV.int .i64 0, DV.int .i64 0, DV.str [], DV.bool false, DV.int .i64 0, DV.int .i64 0, DV.int .i64 0, DV.bool false, DV.bool false, DV.int .i64 0, DV.int .i64 0, DV.bool false, DV.bool false, DV.int .i64 0, DV.int .i64 (Tr.op t), DV.psl 18 (Tr.encs (Tr.kids t))]) []) (Φ (DV.agg [DV.int .i64 (Tr.kind t), DV.int .i64 0, DV.int .i64 0, DV.int .i64 0, DV.str [], DV.bool false, DV.int .i64 0, DV.int .i64 0, DV.int .i64 0, DV.bool false, DV.bool false, DV.int .i64 0, DV.int .i64 0, DV.bool false, DV.bool false, DV.int .i64 0, DV.int .i64 0, DV.psl 18 (Tr.encs (Tr.kids t))]) [])) (brB (Tr.kind t == (9 : Int)) (Φ (DV.agg [DV.int .i64 (Tr.kind t), DV.int .i64 0, DV.int .i64 0, DV.int .i64 0, DV.str [], DV.bool false, DV.int .i64 0, DV.int .i64 0, DV.int .i64 0, DV.bool false, DV.bool false, DV.int .i64 0, DV.int .i64 0, DV.bool false, DV.bool false, DV.int .i64 0, DV.int .i64 (Tr.op t), DV.psl 18 (Tr.encs (Tr.kids t))]) []) (Φ (DV.agg [DV.int .i64 (Tr.kind t), DV.int .i64 0, DV.int .i64 0, DV.int .i64 0, DV.str [], DV.bool false, DV.int .i64 0, DV.int .i64 0, DV.int .i64 0, DV.bool false, DV.bool false, DV.int .i64 0, DV.int .i64 0, DV.bool false, DV.bool false, DV.int .i64 0, DV.int .i64 0, DV.psl 18 (Tr.encs (Tr.kids t))]) [])))))))))) := by kernel_rfl
def E88 (t o : Tr) : Env := { cs := [(128, callG True [t.dv] o.dv)] }
theorem vc88 (t o : Tr) (Φ : DV -> List Blk -> Prop) : (vcF cfg (E88 t o) 88 [t.dv] [] Φ) =
    (True /\ [Tr.dv t] = [Tr.dv t] /\ Φ (DV.bool ((Tr.v o).kind == (Tr.v t).kind && ((Tr.v o).m == (Tr.v t).m && ((Tr.v o).s == (Tr.v t).s && true) && ((Tr.v o).txt == (Tr.v t).txt && ((Tr.v o).b == (Tr.v t).b && ((Tr.v o).e == (Tr.v t).e && true)))) && ((Tr.a o).row == (Tr.a t).row && ((Tr.a o).col == (Tr.a t).col && ((Tr.a o).rr == (Tr.a t).rr && ((Tr.a o).rc == (Tr.a t).rc && true))) && ((Tr.b o).row == (Tr.b t).row && ((Tr.b o).col == (Tr.b t).col && ((Tr.b o).rr == (Tr.b t).rr && ((Tr.b o).rc == (Tr.b t).rc && true))) && true)) && Tr.sheet o == Tr.sheet t && Tr.op o == Tr.op t && (↑(List.length (Tr.encs (Tr.kids o))) : Int) == (↑(List.length (Tr.encs (Tr.kids t))) : Int))) []) := by kernel_rfl
theorem vc130 (m s : Int) (Φ : DV -> List Blk -> Prop) : (vcF cfg E0 130 [.agg [.int .i64 m, .int .i64 s]] [] Φ) =
    (brB (decide (s < (0 : Int)) || decide (s > (9 : Int)) || decide (s > (0 : Int)) && Int.tmod m (10 : Int) == 0) (Φ (DV.int .i64 1) []) (Φ (DV.int .i64 0) [])) := by kernel_rfl
theorem vc131 (e : Int) (Φ : DV -> List Blk -> Prop) : (vcF cfg E0 131 [.int .i64 e] [] Φ) =
    (brB (e == (0 : Int)) (Φ (DV.str [35, 78, 85, 76, 76, 33]) []) (brB (e == (7 : Int)) (Φ (DV.str [35, 68, 73, 86, 47, 48, 33]) []) (brB (e == (15 : Int)) (Φ (DV.str [35, 86, 65, 76, 85, 69, 33]) []) (brB (e == (23 : Int)) (Φ (DV.str [35, 82, 69, 70, 33]) []) (brB (e == (29 : Int)) (Φ (DV.str [35, 78, 65, 77, 69, 63]) []) (brB (e == (36 : Int)) (Φ (DV.str [35, 78, 85, 77, 33]) []) (brB (e == (42 : Int)) (Φ (DV.str [35, 78, 47, 65]) []) (Φ (DV.str []) [])))))))) := by kernel_rfl
def E129 : Env := { cs := [(164, fun xs ex k => match xs, ex with | [.int .i64 n], [] => k (.agg [.int .i64 4, .int .i64 0, .int .i64 0, .str [], .bool false, .int .i64 n]) [] | _, _ => False)] }
theorem vc164 (e : Int) (Φ : DV -> List Blk -> Prop) : (vcF cfg E0 164 [.int .i64 e] [] Φ) =
    (Φ (DV.agg [DV.int .i64 4, DV.int .i64 0, DV.int .i64 0, DV.str [], DV.bool false, DV.int .i64 e]) []) := by kernel_rfl
theorem vc129 (v : Vl) (Φ : DV -> List Blk -> Prop) : (vcF cfg E129 129 [v.dv] [] Φ) =
    (brB (v.kind == (1 : Int)) (Φ (DV.agg [DV.int .i64 1, DV.int .i64 v.m, DV.int .i64 v.s, DV.str [], DV.bool false, DV.int .i64 0]) []) (brB (v.kind == (2 : Int)) (Φ (DV.agg [DV.int .i64 2, DV.int .i64 0, DV.int .i64 0, DV.str v.txt, DV.bool false, DV.int .i64 0]) []) (brB (v.kind == (3 : Int)) (Φ (DV.agg [DV.int .i64 3, DV.int .i64 0, DV.int .i64 0, DV.str [], DV.bool v.b, DV.int .i64 0]) []) (brB (v.kind == (4 : Int)) (Φ (DV.agg [DV.int .i64 4, DV.int .i64 0, DV.int .i64 0, DV.str [], DV.bool false, DV.int .i64 v.e]) []) (Φ (DV.agg [DV.int .i64 v.kind, DV.int .i64 0, DV.int .i64 0, DV.str [], DV.bool false, DV.int .i64 0]) []))))) := by kernel_rfl
def E89 (v o : Vl) (x un ue : Int) (nm : List UInt8) (g : Prop) : Env := { cs := [(129, callG True [v.dv] o.dv), (130, callG True [.agg [.int .i64 v.m, .int .i64 v.s]] (.int .i64 x)), (113, callG g [.str v.txt] (.tup [.int .i64 un, .int .i64 ue])), (131, callG True [.int .i64 v.e] (.str nm))], sp := [1] }
theorem vc89 (v o : Vl) (x un ue : Int) (nm : List UInt8) (g : Prop) (Φ : DV -> List Blk -> Prop) : (vcF cfg (E89 v o x un ue nm g) 89 [v.dv] [] Φ) =
    (brB (decide (v.kind < (0 : Int))) (Φ (DV.int .i64 1) []) (brB (decide (v.kind > (4 : Int))) (Φ (DV.int .i64 1) []) (True /\ [Vl.dv v] = [Vl.dv v] /\ brB (!(v.kind == o.kind && (v.m == o.m && (v.s == o.s && true) && (v.txt == o.txt && (v.b == o.b && (v.e == o.e && true)))))) (Φ (DV.int .i64 1) []) (brB (v.kind == (1 : Int)) (True /\ [DV.agg [DV.int .i64 v.m, DV.int .i64 v.s]] = [DV.agg [DV.int .i64 v.m, DV.int .i64 v.s]] /\ Φ (DV.int .i64 x) []) (brB (v.kind == (2 : Int)) (g /\ [DV.str v.txt] = [DV.str v.txt] /\ Φ (DV.int .i64 ue) []) (brB (v.kind == (4 : Int)) (True /\ [DV.int .i64 v.e] = [DV.int .i64 v.e] /\ brB (nm == #[].toList) (Φ (DV.int .i64 1) []) (Φ (DV.int .i64 0) [])) (Φ (DV.int .i64 0) []))))))) := by kernel_rfl
def withinS : Spec := fun xs ex k => match xs, ex with
  | [.int .i64 a, .int .i64 b, .int .i64 c], [] => k (.bool (decide (b <= a) && decide (a <= c))) []
  | _, _ => False
def E91 : Env := { cs := [(87, withinS)] }
theorem vc91 (t : Tr) (Φ : DV -> List Blk -> Prop) : (vcF cfg E91 91 [t.dv] [] Φ) =
    (brB (Tr.kind t == (6 : Int)) (Φ (DV.bool (decide ((0 : Int) <= Tr.op t) && decide (Tr.op t <= (1023 : Int)))) []) (brB (Tr.kind t == (7 : Int)) (Φ (DV.bool (decide ((1 : Int) <= Tr.op t) && decide (Tr.op t <= (3 : Int)) && (↑(List.length (Tr.encs (Tr.kids t))) : Int) == 1)) []) (brB (Tr.kind t == (8 : Int)) (Φ (DV.bool (decide ((1 : Int) <= Tr.op t) && decide (Tr.op t <= (12 : Int)) && (↑(List.length (Tr.encs (Tr.kids t))) : Int) == 2)) []) (brB (Tr.kind t == (9 : Int)) (Φ (DV.bool (decide ((0 : Int) <= Tr.op t) && decide (Tr.op t <= (29 : Int)) && decide ((↑(List.length (Tr.encs (Tr.kids t))) : Int) <= 30))) []) (brB (Tr.kind t == (10 : Int)) (Φ (DV.bool ((↑(List.length (Tr.encs (Tr.kids t))) : Int) == 1)) []) (Φ (DV.bool true) [])))))) := by kernel_rfl
def E53 (t : Tr) (al co : Bool) (x y : Int) : Env := { cs := [(87, withinS), (88, callG True [t.dv] (.bool al)), (89, callG (t.kind = 1) [t.v.dv] (.int .i64 x)), (90, callG True [.agg (t.a.cells ++ t.b.cells)] (.int .i64 y)), (91, callG True [t.dv] (.bool co))], sp := [1, 12] }
theorem vc53 (t : Tr) (al co : Bool) (x y : Int) (Φ : DV -> List Blk -> Prop) : (vcF cfg (E53 t al co x y) 53 [t.dv] [] Φ) =
    (brB (!(decide ((1 : Int) <= Tr.kind t) && decide (Tr.kind t <= (10 : Int)))) (Φ (DV.int .i64 1) []) (True /\ [Tr.dv t] = [Tr.dv t] /\ brB (!al) (Φ (DV.int .i64 1) []) (brB (Tr.kind t == (1 : Int)) (Tr.kind t = (1 : Int) /\ [Vl.dv (Tr.v t)] = [Vl.dv (Tr.v t)] /\ brB (x != (0 : Int)) (Φ (DV.int .i64 x) []) (brB ((Tr.v t).kind == (0 : Int)) (Φ (DV.int .i64 1) []) (True /\ [DV.agg [DV.int .i64 (Tr.a t).row, DV.int .i64 (Tr.a t).col, DV.bool (Tr.a t).rr, DV.bool (Tr.a t).rc, DV.int .i64 (Tr.b t).row, DV.int .i64 (Tr.b t).col, DV.bool (Tr.b t).rr, DV.bool (Tr.b t).rc]] = [DV.agg [DV.int .i64 (Tr.a t).row, DV.int .i64 (Tr.a t).col, DV.bool (Tr.a t).rr, DV.bool (Tr.a t).rc, DV.int .i64 (Tr.b t).row, DV.int .i64 (Tr.b t).col, DV.bool (Tr.b t).rr, DV.bool (Tr.b t).rc]] /\ brB (y != (0 : Int)) (Φ (DV.int .i64 y) []) (brB (!(decide ((0 : Int) <= Tr.sheet t) && decide (Tr.sheet t <= (7 : Int)))) (Φ (DV.int .i64 1) []) (True /\ [Tr.dv t] = [Tr.dv t] /\ brB (!co) (Φ (DV.int .i64 1) []) (Φ (DV.int .i64 0) [])))))) (True /\ [DV.agg [DV.int .i64 (Tr.a t).row, DV.int .i64 (Tr.a t).col, DV.bool (Tr.a t).rr, DV.bool (Tr.a t).rc, DV.int .i64 (Tr.b t).row, DV.int .i64 (Tr.b t).col, DV.bool (Tr.b t).rr, DV.bool (Tr.b t).rc]] = [DV.agg [DV.int .i64 (Tr.a t).row, DV.int .i64 (Tr.a t).col, DV.bool (Tr.a t).rr, DV.bool (Tr.a t).rc, DV.int .i64 (Tr.b t).row, DV.int .i64 (Tr.b t).col, DV.bool (Tr.b t).rr, DV.bool (Tr.b t).rc]] /\ brB (y != (0 : Int)) (Φ (DV.int .i64 y) []) (brB (!(decide ((0 : Int) <= Tr.sheet t) && decide (Tr.sheet t <= (7 : Int)))) (Φ (DV.int .i64 1) []) (True /\ [Tr.dv t] = [Tr.dv t] /\ brB (!co) (Φ (DV.int .i64 1) []) (Φ (DV.int .i64 0) []))))))) := by kernel_rfl
def hd86 (es : List DV) (n i : Nat) : St := mkS 19 [(0, .psl 19 es), (1, .fn (.func 52) [] []), (7, .int .i64 n), (8, .int .i64 i)] [] []
def F86 (k : Ex -> St -> Prop) (r : Bool) (i : Nat) : Prop := brB r (k .ret (mkS 19 [(4, .int .i64 i)] [] [])) (k (.exit 0) (mkS 19 [] [] []))
def E86 (L : St -> Prop) (r : Bool) (i : Nat) : Env := { ls := [(0, loopS [0, 1, 7, 8] [] 19 L (fun k => F86 k r i))] }
def E86b (g : Prop) (t : Tr) (d : Int) (b : Bool) : Env := { ss := [(16, 52, callG g [ndv t d] (.bool b))], an := [(15, ndv t d)] }
theorem vc86 (es : List DV) (r : Bool) (i : Nat) (L : St -> Prop) (Φ : DV -> List Blk -> Prop) : (vcF cfg (E86 L r i) 86 [.psl 19 es, .fn (.func 52) [] []] [] Φ) =
    (L (mkS 19 [(0, DV.psl 19 es), (1, DV.fn (Fn.func (52 : FuncId)) [] []), (7, DV.int .i64 (↑(List.length es) : Int)), (8, DV.int .i64 0)] [] []) /\ brB r (Φ (DV.int .i64 i) []) (Φ (DV.int .i64 (-1)) [])) := by kernel_rfl
theorem vc86_1 (es : List DV) (g : Prop) (t : Tr) (d : Int) (b : Bool) (n i : Nat) (L : St -> Prop) (K : Ex -> St -> Prop) : (vcB cfg (E86b g t d b) 86 0 (hd86 es n i) (bodyK L [0, 1, 7, 8] [] [4] [] 19 K)) =
    (brB (decide ((↑i : Int) < (↑n : Int))) (obB (decide (i < List.length es)) (es[Int.toNat (↑i : Int)]? = some (DV.agg [DV.int .i64 (Tr.kind t), DV.int .i64 (Tr.v t).kind, DV.int .i64 (Tr.v t).m, DV.int .i64 (Tr.v t).s, DV.str (Tr.v t).txt, DV.bool (Tr.v t).b, DV.int .i64 (Tr.v t).e, DV.int .i64 (Tr.a t).row, DV.int .i64 (Tr.a t).col, DV.bool (Tr.a t).rr, DV.bool (Tr.a t).rc, DV.int .i64 (Tr.b t).row, DV.int .i64 (Tr.b t).col, DV.bool (Tr.b t).rr, DV.bool (Tr.b t).rc, DV.int .i64 (Tr.sheet t), DV.int .i64 (Tr.op t), DV.psl 18 (Tr.encs (Tr.kids t)), DV.int .i64 d]) /\ g /\ [DV.agg [DV.int .i64 (Tr.kind t), DV.int .i64 (Tr.v t).kind, DV.int .i64 (Tr.v t).m, DV.int .i64 (Tr.v t).s, DV.str (Tr.v t).txt, DV.bool (Tr.v t).b, DV.int .i64 (Tr.v t).e, DV.int .i64 (Tr.a t).row, DV.int .i64 (Tr.a t).col, DV.bool (Tr.a t).rr, DV.bool (Tr.a t).rc, DV.int .i64 (Tr.b t).row, DV.int .i64 (Tr.b t).col, DV.bool (Tr.b t).rr, DV.bool (Tr.b t).rc, DV.int .i64 (Tr.sheet t), DV.int .i64 (Tr.op t), DV.psl 18 (Tr.encs (Tr.kids t)), DV.int .i64 d]] = [DV.agg [DV.int .i64 (Tr.kind t), DV.int .i64 (Tr.v t).kind, DV.int .i64 (Tr.v t).m, DV.int .i64 (Tr.v t).s, DV.str (Tr.v t).txt, DV.bool (Tr.v t).b, DV.int .i64 (Tr.v t).e, DV.int .i64 (Tr.a t).row, DV.int .i64 (Tr.a t).col, DV.bool (Tr.a t).rr, DV.bool (Tr.a t).rc, DV.int .i64 (Tr.b t).row, DV.int .i64 (Tr.b t).col, DV.bool (Tr.b t).rr, DV.bool (Tr.b t).rc, DV.int .i64 (Tr.sheet t), DV.int .i64 (Tr.op t), DV.psl 18 (Tr.encs (Tr.kids t)), DV.int .i64 d]] /\ brB b (K Ex.ret (mkS 19 [(4, DV.int .i64 i)] [] [])) (obB (inR .i64 ((↑i : Int) + 1)) (L (mkS 19 [(0, DV.psl 19 es), (1, DV.fn (Fn.func (52 : FuncId)) [] []), (7, DV.int .i64 n), (8, DV.int .i64 ((↑i : Int) + 1))] [] []))))) (K (Ex.exit 0) (mkS 19 [] [] []))) := by kernel_rfl
def E51 (es : List DV) (i : Int) : Env := { cs := [(86, callG True [.psl 19 es, .fn (.func 52) [] []] (.int .i64 i))] }
theorem vc51 (es : List DV) (i : Int) (Φ : DV -> List Blk -> Prop) : (vcF cfg (E51 es i) 51 [.psl 19 es, .fn (.func 52) [] []] [] Φ) =
    (True /\ [DV.psl 19 es, DV.fn (Fn.func (52 : FuncId)) [] []] = [DV.psl 19 es, DV.fn (Fn.func (52 : FuncId)) [] []] /\ Φ (DV.bool (decide (i ≥ (0 : Int)))) []) := by kernel_rfl
def hd29 (es : List DV) (n i : Nat) : St := mkS 27 [(14, .psl 19 es), (15, .int .i64 n), (16, .int .i64 i)] [] []
def F29 (k : Ex -> St -> Prop) (r : Bool) (f : Int) : Prop := brB r (k .ret (mkS 27 [(2, .int .i64 f)] [] [])) (k (.exit 0) (mkS 27 [] [] []))
def E29 (L : St -> Prop) (t : Tr) (es : List DV) (deep r : Bool) (f : Int) : Env := { cs := [(48, callG True [t.dv] (.psl 19 es)), (51, callG True [.psl 19 es, .fn (.func 52) [] []] (.bool deep))], ls := [(0, loopS [14, 15, 16] [] 27 L (fun k => F29 k r f))] }
def E29b (g : Prop) (t : Tr) (d f : Int) : Env := { ss := [(22, 53, callG g [t.dv] (.int .i64 f))], an := [(19, ndv t d)] }
theorem vc29 (t : Tr) (es : List DV) (deep r : Bool) (f : Int) (L : St -> Prop) (Φ : DV -> List Blk -> Prop) : (vcF cfg (E29 L t es deep r f) 29 [t.dv] [] Φ) =
    (True /\ [Tr.dv t] = [Tr.dv t] /\ True /\ [DV.psl 19 es, DV.fn (Fn.func 52) [] []] = [DV.psl 19 es, DV.fn (Fn.func (52 : FuncId)) [] []] /\ brB deep (Φ (DV.int .i64 11) []) (brB (decide ((↑(List.length es) : Int) > 1024)) (Φ (DV.int .i64 4) []) (L (mkS 27 [(14, DV.psl 19 es), (15, DV.int .i64 (↑(List.length es) : Int)), (16, DV.int .i64 0)] [] []) /\ brB r (Φ (DV.int .i64 f) []) (Φ (DV.int .i64 0) [])))) := by kernel_rfl
theorem vc29_1 (es : List DV) (g : Prop) (t : Tr) (d f : Int) (n i : Nat) (L : St -> Prop) (K : Ex -> St -> Prop) : (vcB cfg (E29b g t d f) 29 0 (hd29 es n i) (bodyK L [14, 15, 16] [] [2] [] 27 K)) =
    (brB (decide ((↑i : Int) < (↑n : Int))) (obB (decide (i < List.length es)) (es[Int.toNat (↑i : Int)]? = some (DV.agg [DV.int .i64 (Tr.kind t), DV.int .i64 (Tr.v t).kind, DV.int .i64 (Tr.v t).m, DV.int .i64 (Tr.v t).s, DV.str (Tr.v t).txt, DV.bool (Tr.v t).b, DV.int .i64 (Tr.v t).e, DV.int .i64 (Tr.a t).row, DV.int .i64 (Tr.a t).col, DV.bool (Tr.a t).rr, DV.bool (Tr.a t).rc, DV.int .i64 (Tr.b t).row, DV.int .i64 (Tr.b t).col, DV.bool (Tr.b t).rr, DV.bool (Tr.b t).rc, DV.int .i64 (Tr.sheet t), DV.int .i64 (Tr.op t), DV.psl 18 (Tr.encs (Tr.kids t)), DV.int .i64 d]) /\ g /\ [Tr.dv t] = [Tr.dv t] /\ brB (f != (0 : Int)) (K Ex.ret (mkS 27 [(2, DV.int .i64 f)] [] [])) (obB (inR .i64 ((↑i : Int) + 1)) (L (mkS 27 [(14, DV.psl 19 es), (15, DV.int .i64 n), (16, DV.int .i64 ((↑i : Int) + 1))] [] []))))) (K (Ex.exit 0) (mkS 27 [] [] []))) := by kernel_rfl
end Go.Det.Sea
end

section
namespace Go.Det.Sea
open Go Go.Det
def withinB (n lo hi : Int) : Bool := decide (lo <= n) && decide (n <= hi)
def goodB (r c : Int) : Bool := decide (r ≥ 0) && decide (r < 65536) && decide (c ≥ 0) && decide (c < 256)
def refE (r : Rf) : Int := bif goodB r.row r.col then 0 else 12
def areaE (a b : Rf) : Int := if refE b > refE a then refE b else refE a
def ownT (t : Tr) : Tr :=
  bif t.kind == 1 then .mk t.kind t.v r0 r0 0 0 [] else
  bif t.kind == 2 then .mk t.kind v0 t.a r0 0 0 [] else
  bif t.kind == 3 then .mk t.kind v0 t.a t.b 0 0 [] else
  bif t.kind == 4 then .mk t.kind v0 t.a r0 t.sheet 0 [] else
  bif t.kind == 5 then .mk t.kind v0 t.a t.b t.sheet 0 [] else
  bif t.kind == 6 then .mk t.kind v0 r0 r0 0 t.op [] else
  bif t.kind == 7 then .mk t.kind v0 r0 r0 0 t.op t.kids else
  bif t.kind == 8 then .mk t.kind v0 r0 r0 0 t.op t.kids else
  bif t.kind == 9 then .mk t.kind v0 r0 r0 0 t.op t.kids else
  .mk t.kind v0 r0 r0 0 0 t.kids
def vlEq (a b : Vl) : Bool := a.kind == b.kind && (a.m == b.m && (a.s == b.s && true) && (a.txt == b.txt && (a.b == b.b && (a.e == b.e && true))))
def rfEq (a b : Rf) : Bool := a.row == b.row && (a.col == b.col && (a.rr == b.rr && (a.rc == b.rc && true)))
def aloneB (o t : Tr) : Bool := vlEq o.v t.v && (rfEq o.a t.a && (rfEq o.b t.b && true)) && o.sheet == t.sheet && o.op == t.op && ((o.kids.length : Int) == (t.kids.length : Int))
def decE (m s : Int) : Int := bif decide (s < 0) || decide (s > 9) || decide (s > 0) && Int.tmod m 10 == 0 then 1 else 0
def nameF (e : Int) : List UInt8 :=
  bif e == 0 then [35, 78, 85, 76, 76, 33] else bif e == 7 then [35, 68, 73, 86, 47, 48, 33] else bif e == 15 then [35, 86, 65, 76, 85, 69, 33] else
  bif e == 23 then [35, 82, 69, 70, 33] else bif e == 29 then [35, 78, 65, 77, 69, 63] else bif e == 36 then [35, 78, 85, 77, 33] else bif e == 42 then [35, 78, 47, 65] else []
def ownV (v : Vl) : Vl :=
  bif v.kind == 1 then ⟨1, v.m, v.s, [], false, 0⟩ else bif v.kind == 2 then ⟨2, 0, 0, v.txt, false, 0⟩ else bif v.kind == 3 then ⟨3, 0, 0, [], v.b, 0⟩ else
  bif v.kind == 4 then ⟨4, 0, 0, [], false, v.e⟩ else ⟨v.kind, 0, 0, [], false, 0⟩
def valE (uE : List UInt8 -> Int) (v : Vl) : Int :=
  bif decide (v.kind < 0) then 1 else bif decide (v.kind > 4) then 1 else bif !vlEq v (ownV v) then 1 else
  bif v.kind == 1 then decE v.m v.s else bif v.kind == 2 then uE v.txt else bif v.kind == 4 then (bif nameF v.e == [] then 1 else 0) else 0
def countsB (t : Tr) : Bool :=
  bif t.kind == 6 then decide (0 <= t.op) && decide (t.op <= 1023) else
  bif t.kind == 7 then decide (1 <= t.op) && decide (t.op <= 3) && (t.kids.length : Int) == 1 else
  bif t.kind == 8 then decide (1 <= t.op) && decide (t.op <= 12) && (t.kids.length : Int) == 2 else
  bif t.kind == 9 then decide (0 <= t.op) && decide (t.op <= 29) && decide ((t.kids.length : Int) <= 30) else
  bif t.kind == 10 then (t.kids.length : Int) == 1 else true
def restE (t : Tr) : Int := bif areaE t.a t.b != 0 then areaE t.a t.b else bif !withinB t.sheet 0 7 then 1 else bif !countsB t then 1 else 0
def partE (uE : List UInt8 -> Int) (t : Tr) : Int :=
  bif !withinB t.kind 1 10 then 1 else bif !aloneB (ownT t) t then 1 else
  bif t.kind == 1 then (bif valE uE t.v != 0 then valE uE t.v else bif t.v.kind == 0 then 1 else restE t) else restE t
def firstE (uE : List UInt8 -> Int) : List (Tr × Int) -> Int
  | [] => 0
  | p :: l => bif partE uE p.1 != 0 then partE uE p.1 else firstE uE l
def checkE (uE : List UInt8 -> Int) (t : Tr) : Int :=
  bif (t.pre 1).any (fun p => decide (p.2 > 16)) then 11 else bif decide (((t.pre 1).length : Int) > 1024) then 4 else firstE uE (t.pre 1)
section
variable {Pr Ow : Nat -> List DV -> DV -> Prop}
theorem go24 (r c : Int) (Φ : DV -> List Blk -> Prop) (h : Φ (.bool (goodB r c)) []) : GoC cfg Pr Ow 24 [.agg [.int .i64 r, .int .i64 c]] [] Φ := by
  refine fn_of0 E0_ok rfl ?_
  rw [vc24]; exact h
theorem go132 (r : Rf) (Φ : DV -> List Blk -> Prop) (h : Φ (.int .i64 (refE r)) []) : GoC cfg Pr Ow 132 [r.dv] [] Φ := by
  refine fn_of0 (E := E132 r (goodB r.row r.col)) (envOK ⟨callG_ok fun _ => go24 _ _, trivial⟩ trivial trivial) rfl ?_
  rw [vc132]
  refine ⟨trivial, rfl, ?_⟩
  unfold refE at h
  cases hg : goodB r.row r.col <;> rw [hg] at h <;> exact h
theorem go90 (a b : Rf) (Φ : DV -> List Blk -> Prop) (h : Φ (.int .i64 (areaE a b)) []) : GoC cfg Pr Ow 90 [.agg (a.cells ++ b.cells)] [] Φ := by
  refine fn_of0 (E := E90 a b (refE a) (refE b)) (envOK trivial ⟨callG_ok fun _ => go132 _, callG_ok fun _ => go132 _, trivial⟩ trivial) rfl ?_
  rw [vc90]
  exact ⟨trivial, rfl, trivial, rfl, h⟩
theorem go87S : SpecOK cfg Pr Ow 87 withinS := by
  intro xs ex k h
  unfold withinS at h
  split at h
  · refine fn_of0 E0_ok rfl ?_
    rw [vc87]; exact h
  · exact h.elim
theorem go128 (t : Tr) (Φ : DV -> List Blk -> Prop) (h : Φ (ownT t).dv []) : GoC cfg Pr Ow 128 [t.dv] [] Φ := by
  refine go_wk (WkL.refl _) (fn_of0 E0_ok rfl ?_)
  rw [vc128]
  unfold ownT at h
  have nil : ∀ (k : Int) (v : Vl) (a b : Rf) (s o : Int), Φ (Tr.mk k v a b s o []).dv [] -> ∃ r', (DV.agg (Tr.cellsK (.mk k v a b s o []) .nilsl) = r' \/ WkV (.agg (Tr.cellsK (.mk k v a b s o []) .nilsl)) r') /\ Φ r' [] :=
    fun k v a b s o hh => ⟨_, .inr (wk_cells (.mk k v a b s o []) 18), hh⟩
  refine brB_of (fun h1 => ?_) (fun h1 => ?_)
  · simp only [h1, cond_true] at h
    exact nil t.kind t.v r0 r0 0 0 h
  simp only [h1, cond_false] at h
  refine brB_of (fun h1 => ?_) (fun h1 => ?_)
  · simp only [h1, cond_true] at h
    exact nil t.kind v0 t.a r0 0 0 h
  simp only [h1, cond_false] at h
  refine brB_of (fun h1 => ?_) (fun h1 => ?_)
  · simp only [h1, cond_true] at h
    exact nil t.kind v0 t.a t.b 0 0 h
  simp only [h1, cond_false] at h
  refine brB_of (fun h1 => ?_) (fun h1 => ?_)
  · simp only [h1, cond_true] at h
    exact nil t.kind v0 t.a r0 t.sheet 0 h
  simp only [h1, cond_false] at h
  refine brB_of (fun h1 => ?_) (fun h1 => ?_)
  · simp only [h1, cond_true] at h
    exact nil t.kind v0 t.a t.b t.sheet 0 h
  simp only [h1, cond_false] at h
  refine brB_of (fun h1 => ?_) (fun h1 => ?_)
  · simp only [h1, cond_true] at h
    exact nil t.kind v0 r0 r0 0 t.op h
  simp only [h1, cond_false] at h
  refine brB_of (fun h1 => ?_) (fun h1 => ?_)
  · simp only [h1, cond_true] at h
    rw [h1]
    exact ⟨_, .inl rfl, h⟩
  simp only [h1, cond_false] at h
  refine brB_of (fun h1 => ?_) (fun h1 => ?_)
  · simp only [h1, cond_true] at h
    rw [h1]
    exact ⟨_, .inl rfl, h⟩
  simp only [h1, cond_false] at h
  refine brB_of (fun h1 => ?_) (fun h1 => ?_)
  · simp only [h1, cond_true] at h
    exact ⟨_, .inl rfl, h⟩
  simp only [h1, cond_false] at h
  exact ⟨_, .inl rfl, h⟩
theorem go88 (t : Tr) (Φ : DV -> List Blk -> Prop) (h : Φ (.bool (aloneB (ownT t) t)) []) : GoC cfg Pr Ow 88 [t.dv] [] Φ := by
  refine fn_of0 (E := E88 t (ownT t)) (envOK ⟨callG_ok fun _ => go128 t, trivial⟩ trivial trivial) rfl ?_
  rw [vc88, Tr.encs_len, Tr.encs_len]
  exact ⟨trivial, rfl, h⟩
theorem go130 (m s : Int) (Φ : DV -> List Blk -> Prop) (h : Φ (.int .i64 (decE m s)) []) : GoC cfg Pr Ow 130 [.agg [.int .i64 m, .int .i64 s]] [] Φ := by
  refine fn_of0 E0_ok rfl ?_
  rw [vc130]
  unfold decE at h
  refine brB_of (fun h1 => ?_) (fun h1 => ?_) <;> rw [h1] at h <;> exact h
theorem go131 (e : Int) (Φ : DV -> List Blk -> Prop) (h : Φ (.str (nameF e)) []) : GoC cfg Pr Ow 131 [.int .i64 e] [] Φ := by
  refine fn_of0 E0_ok rfl ?_
  rw [vc131]
  unfold nameF at h
  iterate 7
    refine brB_of (fun h1 => ?_) (fun h1 => ?_)
    · simp only [h1, cond_true] at h; exact h
    simp only [h1, cond_false] at h
  exact h
theorem go129 (v : Vl) (Φ : DV -> List Blk -> Prop) (h : Φ (ownV v).dv []) : GoC cfg Pr Ow 129 [v.dv] [] Φ := by
  refine fn_of0 (E := E129) (envOK ⟨?_, trivial⟩ trivial trivial) rfl ?_
  · intro xs ex k h
    simp only at h
    split at h
    · refine fn_of0 E0_ok rfl ?_
      rw [vc164]; exact h
    · exact h.elim
  rw [vc129]
  unfold ownV at h
  iterate 4
    refine brB_of (fun h1 => ?_) (fun h1 => ?_)
    · simp only [h1, cond_true] at h; exact h
    simp only [h1, cond_false] at h
  exact h
theorem go91 (t : Tr) (Φ : DV -> List Blk -> Prop) (h : Φ (.bool (countsB t)) []) : GoC cfg Pr Ow 91 [t.dv] [] Φ := by
  refine fn_of0 (E := E91) (envOK ⟨go87S, trivial⟩ trivial trivial) rfl ?_
  rw [vc91, Tr.encs_len]
  unfold countsB at h
  iterate 5
    refine brB_of (fun h1 => ?_) (fun h1 => ?_)
    · simp only [h1, cond_true] at h; exact h
    simp only [h1, cond_false] at h
  exact h
def UnitsOK (Pr Ow : Nat -> List DV -> DV -> Prop) (uN uE : List UInt8 -> Int) (s : List UInt8) : Prop := ∀ Φ : DV -> List Blk -> Prop, Φ (.tup [.int .i64 (uN s), .int .i64 (uE s)]) [] -> GoC cfg Pr Ow 113 [.str s] [] Φ
variable {uN uE : List UInt8 -> Int}
theorem go89 (v : Vl) (hU : v.kind = 2 -> UnitsOK Pr Ow uN uE v.txt) (Φ : DV -> List Blk -> Prop) (h : Φ (.int .i64 (valE uE v)) []) : GoC cfg Pr Ow 89 [v.dv] [] Φ := by
  refine fn_of0 (E := E89 v (ownV v) (decE v.m v.s) (uN v.txt) (uE v.txt) (nameF v.e) (v.kind = 2)) (envOK ⟨callG_ok fun _ => go129 v, callG_ok fun _ => go130 _ _, callG_ok fun h => hU h, callG_ok fun _ => go131 _, trivial⟩ trivial trivial) rfl ?_
  rw [vc89]
  unfold valE vlEq at h
  refine brB_of (fun h1 => ?_) (fun h1 => ?_)
  · simp only [h1, cond_true] at h; exact h
  simp only [h1, cond_false] at h
  refine brB_of (fun h1 => ?_) (fun h1 => ?_)
  · simp only [h1, cond_true] at h; exact h
  simp only [h1, cond_false] at h
  refine ⟨trivial, rfl, brB_of (fun h1 => ?_) (fun h1 => ?_)⟩
  · simp only [h1, cond_true] at h; exact h
  simp only [h1, cond_false] at h
  refine brB_of (fun h1 => ⟨trivial, rfl, ?_⟩) (fun h1 => ?_)
  · simp only [h1, cond_true] at h; exact h
  simp only [h1, cond_false] at h
  refine brB_of (fun h1 => ⟨of_decide_eq_true h1, rfl, ?_⟩) (fun h1 => ?_)
  · simp only [h1, cond_true] at h; exact h
  simp only [h1, cond_false] at h
  refine brB_of (fun h1 => ⟨trivial, rfl, brB_of (fun h2 => ?_) (fun h2 => ?_)⟩) (fun h1 => ?_)
  · have h2 : (nameF v.e == []) = true := h2
    simp only [h1, h2, cond_true] at h; exact h
  · have h2 : (nameF v.e == []) = false := h2
    simp only [h1, h2, cond_true, cond_false] at h; exact h
  · simp only [h1, cond_false] at h; exact h
theorem go53 (t : Tr) (hU : t.kind = 1 -> t.v.kind = 2 -> UnitsOK Pr Ow uN uE t.v.txt) (Φ : DV -> List Blk -> Prop) (h : Φ (.int .i64 (partE uE t)) []) : GoC cfg Pr Ow 53 [t.dv] [] Φ := by
  refine fn_of0 (E := E53 t (aloneB (ownT t) t) (countsB t) (valE uE t.v) (areaE t.a t.b)) (envOK ⟨go87S, callG_ok fun _ => go88 t, callG_ok fun h => go89 t.v (hU h), callG_ok fun _ => go90 t.a t.b, callG_ok fun _ => go91 t, trivial⟩ trivial trivial) rfl ?_
  rw [vc53]
  unfold partE at h
  have rest : Φ (.int .i64 (restE t)) [] -> (True /\ [DV.agg (t.a.cells ++ t.b.cells)] = [DV.agg (t.a.cells ++ t.b.cells)] /\ brB (areaE t.a t.b != 0) (Φ (DV.int .i64 (areaE t.a t.b)) []) (brB (!withinB t.sheet 0 7) (Φ (DV.int .i64 1) []) (True /\ [Tr.dv t] = [Tr.dv t] /\ brB (!countsB t) (Φ (DV.int .i64 1) []) (Φ (DV.int .i64 0) [])))) := by
    intro h
    unfold restE at h
    refine ⟨trivial, rfl, brB_of (fun h1 => ?_) (fun h1 => ?_)⟩
    · simp only [h1, cond_true] at h; exact h
    simp only [h1, cond_false] at h
    refine brB_of (fun h1 => ?_) (fun h1 => ?_)
    · simp only [h1, cond_true] at h; exact h
    simp only [h1, cond_false] at h
    refine ⟨trivial, rfl, brB_of (fun h1 => ?_) (fun h1 => ?_)⟩
    · simp only [h1, cond_true] at h; exact h
    · simp only [h1, cond_false] at h; exact h
  unfold withinB at h
  refine brB_of (fun h1 => ?_) (fun h1 => ⟨trivial, rfl, ?_⟩)
  · simp only [h1, cond_true] at h; exact h
  simp only [h1, cond_false] at h
  refine brB_of (fun h1 => ?_) (fun h1 => ?_)
  · simp only [h1, cond_true] at h; exact h
  simp only [h1, cond_false] at h
  refine brB_of (fun h1 => ⟨of_decide_eq_true h1, rfl, ?_⟩) (fun h1 => ?_)
  · simp only [h1, cond_true] at h
    refine brB_of (fun h1 => ?_) (fun h1 => ?_)
    · simp only [h1, cond_true] at h; exact h
    simp only [h1, cond_false] at h
    refine brB_of (fun h1 => ?_) (fun h1 => ?_)
    · simp only [h1, cond_true] at h; exact h
    simp only [h1, cond_false] at h
    exact rest h
  · simp only [h1, cond_false] at h
    exact rest h
theorem nt86 : ntOf cfg 86 = 19 := by kernel_rfl
theorem nd86 : nodupK (loops 0 (codeOf cfg 86)) = true := by kernel_rfl
theorem go52 (t : Tr) (d : Int) (Φ : DV -> List Blk -> Prop) (h : Φ (.bool (decide (d > 16))) []) : GoC cfg Pr Ow 52 [ndv t d] [] Φ := by
  refine fn_of0 E0_ok rfl ?_
  rw [vc52]; exact h
def deepAt : List (Tr × Int) -> Nat -> Option Nat
  | [], _ => none
  | p :: l, i => bif decide (p.2 > 16) then some i else deepAt l (i + 1)
theorem drop_getD {α : Type} [Inhabited α] {l : List α} {i : Nat} (h : i < l.length) : l.drop i = l.getD i default :: l.drop (i + 1) := by
  rw [List.drop_eq_getElem_cons h, List.getD_eq_getElem?_getD, List.getElem?_eq_getElem h]; rfl
theorem deepAt_isSome : ∀ (l : List (Tr × Int)) (i : Nat), (deepAt l i).isSome = l.any fun p => decide (p.2 > 16)
  | [], _ => rfl
  | p :: l, i => by
    simp only [deepAt, List.any_cons]
    cases decide (p.2 > 16)
    · simpa using deepAt_isSome l (i + 1)
    · rfl
def idxE (l : List (Tr × Int)) : Int := bif (deepAt l 0).isSome then (((deepAt l 0).getD 0 : Nat) : Int) else -1
theorem idxE_ge (l : List (Tr × Int)) : decide (idxE l ≥ 0) = l.any fun p => decide (p.2 > 16) := by
  rw [← deepAt_isSome l 0]
  unfold idxE
  cases (deepAt l 0).isSome
  · rfl
  · simp
theorem go86 (l : List (Tr × Int)) (hl : l.length <= 4000000000) (Φ : DV -> List Blk -> Prop) (h : Φ (.int .i64 (idxE l)) []) : GoC cfg Pr Ow 86 [.psl 19 (nds l), .fn (.func 52) [] []] [] Φ := by
  refine fn_of (E := E86 (fun st => st = hd86 (nds l) l.length 0) (deepAt l 0).isSome ((deepAt l 0).getD 0)) (envOK trivial trivial trivial) nt86 nd86 ?_ ?_
  · intro b sp hl' st k hk
    obtain ⟨rfl, rfl⟩ := look_one rfl hl'
    refine loopS_ok (fun st hst K hK => ?_) hk
    subst hst
    have key : ∀ (d i : Nat), i + d = l.length -> F86 K (deepAt (l.drop i) i).isSome ((deepAt (l.drop i) i).getD 0) -> GoL cfg Pr Ow 86 19 (bodyOf cfg 86 0) (hd86 (nds l) l.length i) K := by
      intro d
      induction d with
      | zero =>
        intro i hi hF
        refine round_of (E := E86b False default 0 false) (envOK trivial ⟨callG_ok fun h => h.elim, trivial⟩ trivial) nt86 rfl (L := fun _ => False) (ks := [0, 1, 7, 8]) (bs := []) (ks2 := [4]) (bs2 := []) ?_ (fun _ h => h.elim)
        rw [vc86_1]
        rw [List.drop_eq_nil_of_le (by omega)] at hF
        refine brB_of (fun h => ?_) (fun _ => hF)
        simp at h; omega
      | succ d ih =>
        intro i hi hF
        have hlt : i < l.length := by omega
        rw [drop_getD hlt] at hF
        simp only [deepAt] at hF
        refine round_of (E := E86b True (l.getD i default).1 (l.getD i default).2 (decide ((l.getD i default).2 > 16))) (envOK trivial ⟨callG_ok fun _ => go52 _ _, trivial⟩ trivial) nt86 rfl (L := fun st => decide ((l.getD i default).2 > 16) = false /\ st = hd86 (nds l) l.length (i + 1)) (ks := [0, 1, 7, 8]) (bs := []) (ks2 := [4]) (bs2 := []) ?_ ?_
        · rw [vc86_1]
          refine brB_of (fun _ => obB_of (decide_eq_true (by rw [nds_len]; exact hlt)) ⟨nds_get hlt, trivial, rfl, brB_of (fun h1 => ?_) (fun h1 => obB_of (inR64 (by omega)) ⟨h1, ?_⟩)⟩) (fun h => ?_)
          · simp only [h1, cond_true] at hF; exact hF
          · rw [← cast_succ]; rfl
          · simp at h; omega
        · rintro _ ⟨h1, rfl⟩
          simp only [h1, cond_false] at hF
          exact ih (i + 1) (by omega) hF
    exact key l.length 0 (by omega) hK
  · rw [vc86, nds_len]
    unfold idxE at h
    refine ⟨rfl, brB_of (fun h1 => ?_) (fun h1 => ?_)⟩
    · simp only [h1, cond_true] at h; exact h
    · simp only [h1, cond_false] at h; exact h
theorem go51 (l : List (Tr × Int)) (hl : l.length <= 4000000000) (Φ : DV -> List Blk -> Prop) (h : Φ (.bool (l.any fun p => decide (p.2 > 16))) []) : GoC cfg Pr Ow 51 [.psl 19 (nds l), .fn (.func 52) [] []] [] Φ := by
  refine fn_of0 (E := E51 (nds l) (idxE l)) (envOK ⟨callG_ok fun _ => go86 l hl, trivial⟩ trivial trivial) rfl ?_
  rw [vc51, idxE_ge]
  exact ⟨trivial, rfl, h⟩
theorem nt29 : ntOf cfg 29 = 27 := by kernel_rfl
theorem nd29 : nodupK (loops 0 (codeOf cfg 29)) = true := by kernel_rfl
theorem go29 (t : Tr) (hl : (t.pre 1).length <= 4000000000) (hU : ∀ p ∈ t.pre 1, p.1.kind = 1 -> p.1.v.kind = 2 -> UnitsOK Pr Ow uN uE p.1.v.txt)
    (hw : ∀ Φ : DV -> List Blk -> Prop, Φ (.psl 19 (nds (t.pre 1))) [] -> GoC cfg Pr Ow 48 [t.dv] [] Φ) (Φ : DV -> List Blk -> Prop) (h : Φ (.int .i64 (checkE uE t)) []) : GoC cfg Pr Ow 29 [t.dv] [] Φ := by
  generalize hL : t.pre 1 = l at *
  unfold checkE at h
  rw [hL] at h
  refine fn_of (E := E29 (fun st => st = hd29 (nds l) l.length 0) t (nds l) (l.any fun p => decide (p.2 > 16)) (firstE uE l != 0) (firstE uE l)) (envOK ⟨callG_ok fun _ => hw, callG_ok fun _ => go51 l hl, trivial⟩ trivial trivial) nt29 nd29 ?_ ?_
  · intro b sp hl' st k hk
    obtain ⟨rfl, rfl⟩ := look_one rfl hl'
    refine loopS_ok (fun st hst K hK => ?_) hk
    subst hst
    have key : ∀ (d i : Nat), i + d = l.length -> F29 K (firstE uE (l.drop i) != 0) (firstE uE (l.drop i)) -> GoL cfg Pr Ow 29 27 (bodyOf cfg 29 0) (hd29 (nds l) l.length i) K := by
      intro d
      induction d with
      | zero =>
        intro i hi hF
        refine round_of (E := E29b False default 0 0) (envOK trivial ⟨callG_ok fun h => h.elim, trivial⟩ trivial) nt29 rfl (L := fun _ => False) (ks := [14, 15, 16]) (bs := []) (ks2 := [2]) (bs2 := []) ?_ (fun _ h => h.elim)
        rw [vc29_1]
        rw [List.drop_eq_nil_of_le (by omega)] at hF
        refine brB_of (fun h => ?_) (fun _ => hF)
        simp at h; omega
      | succ d ih =>
        intro i hi hF
        have hlt : i < l.length := by omega
        rw [drop_getD hlt] at hF
        simp only [firstE] at hF
        have hm : l.getD i default ∈ l := by rw [List.getD_eq_getElem?_getD, List.getElem?_eq_getElem hlt]; exact List.getElem_mem hlt
        refine round_of (E := E29b True (l.getD i default).1 (l.getD i default).2 (partE uE (l.getD i default).1)) (envOK trivial ⟨callG_ok fun _ => go53 _ (hU _ hm), trivial⟩ trivial) nt29 rfl (L := fun st => (partE uE (l.getD i default).1 != 0) = false /\ st = hd29 (nds l) l.length (i + 1)) (ks := [14, 15, 16]) (bs := []) (ks2 := [2]) (bs2 := []) ?_ ?_
        · rw [vc29_1]
          refine brB_of (fun _ => obB_of (decide_eq_true (by rw [nds_len]; exact hlt)) ⟨nds_get hlt, trivial, rfl, brB_of (fun h1 => ?_) (fun h1 => obB_of (inR64 (by omega)) ⟨h1, ?_⟩)⟩) (fun h => ?_)
          · simp only [h1, cond_true] at hF; exact hF
          · rw [← cast_succ]; rfl
          · simp at h; omega
        · rintro _ ⟨h1, rfl⟩
          simp only [h1, cond_false] at hF
          exact ih (i + 1) (by omega) hF
    exact key l.length 0 (by omega) hK
  · rw [vc29, nds_len]
    refine ⟨trivial, rfl, trivial, rfl, brB_of (fun h1 => ?_) (fun h1 => brB_of (fun h2 => ?_) (fun h2 => ⟨rfl, ?_⟩))⟩
    · simp only [h1, cond_true] at h; exact h
    · simp only [h1, h2, cond_true, cond_false] at h; exact h
    · simp only [h1, h2, cond_false] at h
      refine brB_of (fun h3 => h) (fun h3 => ?_)
      have : firstE uE l = 0 := by simpa [bne] using h3
      rw [this] at h; exact h
end
end Go.Det.Sea
end
