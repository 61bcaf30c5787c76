/- TextSigns: whatever three signs come in, the law answers true and its input reads as it did (the tied card): part 6 of the texts behind it: Gr3, Gr5, Gr4, Ck1, Ck2, Sg1, Sg2, Sg3, Sg4, Sg5, Sg6, Top6. No premise of its own. -/
import Derived.Test.YtpfjeinhmmmhkaaGreatDoorD5
set_option linter.all false
section
set_option linter.unusedVariables false
set_option linter.unusedSimpArgs false
namespace Go.Det.Sea
open Go Go.Det

def unT (o : Int) (t : Tr) : Tr := .mk 7 v0 r0 r0 0 o [t]
def biT (o : Int) (a b : Tr) : Tr := .mk 8 v0 r0 r0 0 o [a, b]
def paT (t : Tr) : Tr := .mk 10 v0 r0 r0 0 0 [t]
def caT (o : Int) (l : List Tr) : Tr := .mk 9 v0 r0 r0 0 o l
-- level
def hd35 (s : List UInt8) (row col : Int) (p : Nat) (bind : Int) (acc : Tr) : St := mkS 34 [(0, .ptr 34 6 0 0), (1, .int .i64 bind), (4, .ptr 4 18 0 0), (5, .ptr 5 18 0 0)] [(4, .box zeroE), (5, .box acc.cells)] [rdr s row col p 0 0]
def F35 (s : List UInt8) (row col : Int) (p : Nat) (out : Tr) (k : Ex → St → Prop) : Prop := k (.exit 0) (mkS 34 [(4, .ptr 4 18 0 0), (5, .ptr 5 18 0 0)] [(4, .box zeroE), (5, .box out.cells)] [rdr s row col p 0 0])
def E35 (L : St → Prop) (s : List UInt8) (row col : Int) (p p1 p2 : Nat) (bind : Int) (a out : Tr) (g : Prop) : Env := { ss := [(10, 72, callE g [.ptr 38 6 0 0] [rdr s row col p 0 0] out.dv [rdr s row col p2 0 0]), (14, 35, callE (¬ g) [.ptr 34 6 0 0, .int .i64 (bind + 1)] [rdr s row col p 0 0] a.dv [rdr s row col p1 0 0])], ls := [(0, loopS [0, 1, 4, 5] [4, 5] 34 L (F35 s row col p2 out))] }
def E35b (s : List UInt8) (row col : Int) (p p1 p2 : Nat) (bind : Int) (op : Nat) (c : Tr) (g : Prop) : Env := { ss := [(22, 73, callE True [.ptr 70 6 0 0, .int .i64 bind] [rdr s row col p 0 0] (.int .i64 op) [rdr s row col p1 0 0]), (30, 35, callE g [.ptr 34 6 0 0, .int .i64 (bind + 1)] [rdr s row col p1 0 0] c.dv [rdr s row col p2 0 0])] }
theorem vc35 (s : List UInt8) (row col : Int) (p p1 p2 : Nat) (bind : Int) (a out : Tr) (g : Prop) (L : St → Prop) (Φ : DV → List Blk → Prop) : (vcF cfg (E35 L s row col p p1 p2 bind a out g) 35 [.ptr 34 6 0 0, .int .i64 bind] [rdr s row col p 0 0] Φ) =
    (brB (bind == (6 : Int)) ((g ∧ [DV.ptr 38 6 0 0] = [DV.ptr 38 6 0 0] ∧ [Blk.box [DV.str s, DV.int IntKind.i64 row, DV.int IntKind.i64 col, DV.int IntKind.i64 (↑p : Int), DV.int IntKind.i64 (0 : Int), DV.int IntKind.i64 (0 : Int)]] = [Blk.box [DV.str s, DV.int IntKind.i64 row, DV.int IntKind.i64 col, DV.int IntKind.i64 (↑p : Int), DV.int IntKind.i64 (0 : Int), DV.int IntKind.i64 (0 : Int)]]) ∧ Φ (Tr.dv out) [Blk.box [DV.str s, DV.int IntKind.i64 row, DV.int IntKind.i64 col, DV.int IntKind.i64 (↑p2 : Int), DV.int IntKind.i64 (0 : Int), DV.int IntKind.i64 (0 : Int)]]) (obB (inR IntKind.i64 (bind + (1 : Int))) (((g → False) ∧ [DV.ptr 34 6 0 0, DV.int IntKind.i64 (bind + (1 : Int))] = [DV.ptr 34 6 0 0, DV.int IntKind.i64 (bind + (1 : Int))] ∧ [Blk.box [DV.str s, DV.int IntKind.i64 row, DV.int IntKind.i64 col, DV.int IntKind.i64 (↑p : Int), DV.int IntKind.i64 (0 : Int), DV.int IntKind.i64 (0 : Int)]] = [Blk.box [DV.str s, DV.int IntKind.i64 row, DV.int IntKind.i64 col, DV.int IntKind.i64 (↑p : Int), DV.int IntKind.i64 (0 : Int), DV.int IntKind.i64 (0 : Int)]]) ∧ L (mkS 34 [(0, DV.ptr 34 6 0 0), (1, DV.int IntKind.i64 bind), (4, DV.ptr 4 18 0 0), (5, DV.ptr 5 18 0 0)] [(4, Blk.box zeroE), (5, Blk.box (Tr.cells a))] [Blk.box [DV.str s, DV.int IntKind.i64 row, DV.int IntKind.i64 col, DV.int IntKind.i64 (↑p1 : Int), DV.int IntKind.i64 (0 : Int), DV.int IntKind.i64 (0 : Int)]]) ∧ Φ (Tr.dv out) [Blk.box [DV.str s, DV.int IntKind.i64 row, DV.int IntKind.i64 col, DV.int IntKind.i64 (↑p2 : Int), DV.int IntKind.i64 (0 : Int), DV.int IntKind.i64 (0 : Int)]]))) := by kernel_rfl
theorem vc35_1 (s : List UInt8) (row col : Int) (p p1 p2 : Nat) (bind : Int) (op : Nat) (acc c : Tr) (g : Prop) (L : St → Prop) (K : Ex → St → Prop) : (vcB cfg (E35b s row col p p1 p2 bind op c g) 35 0 (hd35 s row col p bind acc) (bodyK L [0, 1, 4, 5] [4, 5] [4, 5] [4, 5] 34 K)) =
    ((True ∧ [DV.ptr 70 6 0 0, DV.int IntKind.i64 bind] = [DV.ptr 70 6 0 0, DV.int IntKind.i64 bind] ∧ [Blk.box [DV.str s, DV.int IntKind.i64 row, DV.int IntKind.i64 col, DV.int IntKind.i64 (↑p : Int), DV.int IntKind.i64 (0 : Int), DV.int IntKind.i64 (0 : Int)]] = [Blk.box [DV.str s, DV.int IntKind.i64 row, DV.int IntKind.i64 col, DV.int IntKind.i64 (↑p : Int), DV.int IntKind.i64 (0 : Int), DV.int IntKind.i64 (0 : Int)]]) ∧ brB ((↑op : Int) == (0 : Int)) (K (Ex.exit 0) (mkS 34 [(4, DV.ptr 4 18 0 0), (5, DV.ptr 5 18 0 0)] [(4, Blk.box zeroE), (5, Blk.box (Tr.cells acc))] [Blk.box [DV.str s, DV.int IntKind.i64 row, DV.int IntKind.i64 col, DV.int IntKind.i64 (↑p1 : Int), DV.int IntKind.i64 (0 : Int), DV.int IntKind.i64 (0 : Int)]])) (obB (inR IntKind.i64 (bind + (1 : Int))) ((g ∧ [DV.ptr 34 6 0 0, DV.int IntKind.i64 (bind + (1 : Int))] = [DV.ptr 34 6 0 0, DV.int IntKind.i64 (bind + (1 : Int))] ∧ [Blk.box [DV.str s, DV.int IntKind.i64 row, DV.int IntKind.i64 col, DV.int IntKind.i64 (↑p1 : Int), DV.int IntKind.i64 (0 : Int), DV.int IntKind.i64 (0 : Int)]] = [Blk.box [DV.str s, DV.int IntKind.i64 row, DV.int IntKind.i64 col, DV.int IntKind.i64 (↑p1 : Int), DV.int IntKind.i64 (0 : Int), DV.int IntKind.i64 (0 : Int)]]) ∧ L (mkS 34 [(0, DV.ptr 34 6 0 0), (1, DV.int IntKind.i64 bind), (4, DV.ptr 4 18 0 0), (5, DV.ptr 5 18 0 0)] [(4, Blk.box zeroE), (5, Blk.box [DV.int IntKind.i64 (8 : Int), DV.int IntKind.i64 (0 : Int), DV.int IntKind.i64 (0 : Int), DV.int IntKind.i64 (0 : Int), DV.str [], DV.bool false, DV.int IntKind.i64 (0 : Int), DV.int IntKind.i64 (0 : Int), DV.int IntKind.i64 (0 : Int), DV.bool false, DV.bool false, DV.int IntKind.i64 (0 : Int), DV.int IntKind.i64 (0 : Int), DV.bool false, DV.bool false, DV.int IntKind.i64 (0 : Int), DV.int IntKind.i64 (↑op : Int), DV.psl 18 [Tr.dv acc, Tr.dv c]])] [Blk.box [DV.str s, DV.int IntKind.i64 row, DV.int IntKind.i64 col, DV.int IntKind.i64 (↑p2 : Int), DV.int IntKind.i64 (0 : Int), DV.int IntKind.i64 (0 : Int)]])))) := by kernel_rfl
-- signed
def hd72 (s : List UInt8) (row col : Int) (p : Nat) (i : Int) : St := mkS 38 [(0, .ptr 38 6 0 0), (2, .ptr 2 18 0 0), (6, .psl 1 [.str [45], .str [43]]), (7, .int .i64 2), (8, .int .i64 i)] [(2, .box zeroE)] [rdr s row col p 0 0]
def F72 (s : List UInt8) (row col : Int) (p : Nat) (out : Tr) (r : Bool) (k : Ex → St → Prop) : Prop := brB r (k .ret (mkS 38 [(0, .ptr 38 6 0 0), (2, .ptr 2 18 0 0)] [(2, .box out.cells)] [rdr s row col p 0 0])) (k (.exit 0) (mkS 38 [(0, .ptr 38 6 0 0), (2, .ptr 2 18 0 0)] [(2, .box zeroE)] [rdr s row col p 0 0]))
def hp72 (s : List UInt8) (row col : Int) (p : Nat) (acc : Tr) : St := mkS 38 [(0, .ptr 38 6 0 0), (2, .ptr 2 18 0 0), (5, .ptr 5 18 0 0)] [(2, .box zeroE), (5, .box acc.cells)] [rdr s row col p 0 0]
def Fp72 (s : List UInt8) (row col : Int) (p : Nat) (out : Tr) (k : Ex → St → Prop) : Prop := k (.exit 2) (mkS 38 [(2, .ptr 2 18 0 0), (5, .ptr 5 18 0 0)] [(2, .box zeroE), (5, .box out.cells)] [rdr s row col p 0 0])
def E72 (L Lp : St → Prop) (s : List UInt8) (row col : Int) (p p1 p2 : Nat) (a out : Tr) (r : Bool) : Env := { ls := [(0, loopS [0, 2, 6, 7, 8] [2] 38 L (F72 s row col p out r)), (2, loopS [0, 2, 5] [2, 5] 38 Lp (Fp72 s row col p2 out))], ss := [(24, 108, callE (r = false) [.ptr 95 6 0 0] [rdr s row col p 0 0] a.dv [rdr s row col p1 0 0])] }
def E72b (s : List UInt8) (row col : Int) (p p1 p2 : Nat) (r : Bool) (x : List UInt8) (t : Tr) : Env := { ss := [(15, 107, callE True [.ptr 28 6 0 0, .str x] [rdr s row col p 0 0] (.bool r) [rdr s row col p1 0 0]), (19, 72, callE (r = true) [.ptr 38 6 0 0] [rdr s row col p1 0 0] t.dv [rdr s row col p2 0 0])] }
def E72p (s : List UInt8) (row col : Int) (p p1 : Nat) (r : Bool) : Env := { ss := [(32, 107, callE True [.ptr 28 6 0 0, .str [37]] [rdr s row col p 0 0] (.bool r) [rdr s row col p1 0 0])], sp := [8] }
theorem vc72 (s : List UInt8) (row col : Int) (p p1 p2 p3 : Nat) (a out : Tr) (r : Bool) (L Lp : St → Prop) (Φ : DV → List Blk → Prop) : (vcF cfg (E72 L Lp s row col p p1 p2 a out r) 72 [.ptr 38 6 0 0] [rdr s row col p3 0 0] Φ) =
    (L (mkS 38 [(0, DV.ptr 38 6 0 0), (2, DV.ptr 2 18 0 0), (6, DV.psl 1 [DV.str [(45 : UInt8)], DV.str [(43 : UInt8)]]), (7, DV.int IntKind.i64 (↑2 : Int)), (8, DV.int IntKind.i64 (0 : Int))] [(2, Blk.box zeroE)] [Blk.box [DV.str s, DV.int IntKind.i64 row, DV.int IntKind.i64 col, DV.int IntKind.i64 (↑p3 : Int), DV.int IntKind.i64 (0 : Int), DV.int IntKind.i64 (0 : Int)]]) ∧ brB r (Φ (Tr.dv out) [Blk.box [DV.str s, DV.int IntKind.i64 row, DV.int IntKind.i64 col, DV.int IntKind.i64 (↑p : Int), DV.int IntKind.i64 (0 : Int), DV.int IntKind.i64 (0 : Int)]]) ((r = false ∧ [DV.ptr 95 6 0 0] = [DV.ptr 95 6 0 0] ∧ [Blk.box [DV.str s, DV.int IntKind.i64 row, DV.int IntKind.i64 col, DV.int IntKind.i64 (↑p : Int), DV.int IntKind.i64 (0 : Int), DV.int IntKind.i64 (0 : Int)]] = [Blk.box [DV.str s, DV.int IntKind.i64 row, DV.int IntKind.i64 col, DV.int IntKind.i64 (↑p : Int), DV.int IntKind.i64 (0 : Int), DV.int IntKind.i64 (0 : Int)]]) ∧ Lp (mkS 38 [(0, DV.ptr 38 6 0 0), (2, DV.ptr 2 18 0 0), (5, DV.ptr 5 18 0 0)] [(2, Blk.box zeroE), (5, Blk.box (Tr.cells a))] [Blk.box [DV.str s, DV.int IntKind.i64 row, DV.int IntKind.i64 col, DV.int IntKind.i64 (↑p1 : Int), DV.int IntKind.i64 (0 : Int), DV.int IntKind.i64 (0 : Int)]]) ∧ Φ (Tr.dv out) [Blk.box [DV.str s, DV.int IntKind.i64 row, DV.int IntKind.i64 col, DV.int IntKind.i64 (↑p2 : Int), DV.int IntKind.i64 (0 : Int), DV.int IntKind.i64 (0 : Int)]])) := by kernel_rfl
theorem vc72_0 (s : List UInt8) (row col : Int) (p p1 p2 : Nat) (r : Bool) (x : List UInt8) (t : Tr) (L : St → Prop) (K : Ex → St → Prop) : (vcB cfg (E72b s row col p p1 p2 r x t) 72 0 (hd72 s row col p 0) (bodyK L [0, 2, 6, 7, 8] [2] [0, 2] [2] 38 K)) =
    ((True ∧ [DV.ptr 28 6 0 0, DV.str [(45 : UInt8)]] = [DV.ptr 28 6 0 0, DV.str x] ∧ [Blk.box [DV.str s, DV.int IntKind.i64 row, DV.int IntKind.i64 col, DV.int IntKind.i64 (↑p : Int), DV.int IntKind.i64 (0 : Int), DV.int IntKind.i64 (0 : Int)]] = [Blk.box [DV.str s, DV.int IntKind.i64 row, DV.int IntKind.i64 col, DV.int IntKind.i64 (↑p : Int), DV.int IntKind.i64 (0 : Int), DV.int IntKind.i64 (0 : Int)]]) ∧ brB r ((r = true ∧ [DV.ptr 38 6 0 0] = [DV.ptr 38 6 0 0] ∧ [Blk.box [DV.str s, DV.int IntKind.i64 row, DV.int IntKind.i64 col, DV.int IntKind.i64 (↑p1 : Int), DV.int IntKind.i64 (0 : Int), DV.int IntKind.i64 (0 : Int)]] = [Blk.box [DV.str s, DV.int IntKind.i64 row, DV.int IntKind.i64 col, DV.int IntKind.i64 (↑p1 : Int), DV.int IntKind.i64 (0 : Int), DV.int IntKind.i64 (0 : Int)]]) ∧ K Ex.ret (mkS 38 [(0, DV.ptr 38 6 0 0), (2, DV.ptr 2 18 0 0)] [(2, Blk.box [DV.int IntKind.i64 (7 : Int), DV.int IntKind.i64 (0 : Int), DV.int IntKind.i64 (0 : Int), DV.int IntKind.i64 (0 : Int), DV.str [], DV.bool false, DV.int IntKind.i64 (0 : Int), DV.int IntKind.i64 (0 : Int), DV.int IntKind.i64 (0 : Int), DV.bool false, DV.bool false, DV.int IntKind.i64 (0 : Int), DV.int IntKind.i64 (0 : Int), DV.bool false, DV.bool false, DV.int IntKind.i64 (0 : Int), DV.int IntKind.i64 (1 : Int), DV.psl 18 [Tr.dv t]])] [Blk.box [DV.str s, DV.int IntKind.i64 row, DV.int IntKind.i64 col, DV.int IntKind.i64 (↑p2 : Int), DV.int IntKind.i64 (0 : Int), DV.int IntKind.i64 (0 : Int)]])) (L (mkS 38 [(0, DV.ptr 38 6 0 0), (2, DV.ptr 2 18 0 0), (6, DV.psl 1 [DV.str [(45 : UInt8)], DV.str [(43 : UInt8)]]), (7, DV.int IntKind.i64 (2 : Int)), (8, DV.int IntKind.i64 (1 : Int))] [(2, Blk.box zeroE)] [Blk.box [DV.str s, DV.int IntKind.i64 row, DV.int IntKind.i64 col, DV.int IntKind.i64 (↑p1 : Int), DV.int IntKind.i64 (0 : Int), DV.int IntKind.i64 (0 : Int)]]))) := by kernel_rfl
theorem vc72_1 (s : List UInt8) (row col : Int) (p p1 p2 : Nat) (r : Bool) (x : List UInt8) (t : Tr) (L : St → Prop) (K : Ex → St → Prop) : (vcB cfg (E72b s row col p p1 p2 r x t) 72 0 (hd72 s row col p 1) (bodyK L [0, 2, 6, 7, 8] [2] [0, 2] [2] 38 K)) =
    ((True ∧ [DV.ptr 28 6 0 0, DV.str [(43 : UInt8)]] = [DV.ptr 28 6 0 0, DV.str x] ∧ [Blk.box [DV.str s, DV.int IntKind.i64 row, DV.int IntKind.i64 col, DV.int IntKind.i64 (↑p : Int), DV.int IntKind.i64 (0 : Int), DV.int IntKind.i64 (0 : Int)]] = [Blk.box [DV.str s, DV.int IntKind.i64 row, DV.int IntKind.i64 col, DV.int IntKind.i64 (↑p : Int), DV.int IntKind.i64 (0 : Int), DV.int IntKind.i64 (0 : Int)]]) ∧ brB r ((r = true ∧ [DV.ptr 38 6 0 0] = [DV.ptr 38 6 0 0] ∧ [Blk.box [DV.str s, DV.int IntKind.i64 row, DV.int IntKind.i64 col, DV.int IntKind.i64 (↑p1 : Int), DV.int IntKind.i64 (0 : Int), DV.int IntKind.i64 (0 : Int)]] = [Blk.box [DV.str s, DV.int IntKind.i64 row, DV.int IntKind.i64 col, DV.int IntKind.i64 (↑p1 : Int), DV.int IntKind.i64 (0 : Int), DV.int IntKind.i64 (0 : Int)]]) ∧ K Ex.ret (mkS 38 [(0, DV.ptr 38 6 0 0), (2, DV.ptr 2 18 0 0)] [(2, Blk.box [DV.int IntKind.i64 (7 : Int), DV.int IntKind.i64 (0 : Int), DV.int IntKind.i64 (0 : Int), DV.int IntKind.i64 (0 : Int), DV.str [], DV.bool false, DV.int IntKind.i64 (0 : Int), DV.int IntKind.i64 (0 : Int), DV.int IntKind.i64 (0 : Int), DV.bool false, DV.bool false, DV.int IntKind.i64 (0 : Int), DV.int IntKind.i64 (0 : Int), DV.bool false, DV.bool false, DV.int IntKind.i64 (0 : Int), DV.int IntKind.i64 (2 : Int), DV.psl 18 [Tr.dv t]])] [Blk.box [DV.str s, DV.int IntKind.i64 row, DV.int IntKind.i64 col, DV.int IntKind.i64 (↑p2 : Int), DV.int IntKind.i64 (0 : Int), DV.int IntKind.i64 (0 : Int)]])) (L (mkS 38 [(0, DV.ptr 38 6 0 0), (2, DV.ptr 2 18 0 0), (6, DV.psl 1 [DV.str [(45 : UInt8)], DV.str [(43 : UInt8)]]), (7, DV.int IntKind.i64 (2 : Int)), (8, DV.int IntKind.i64 (2 : Int))] [(2, Blk.box zeroE)] [Blk.box [DV.str s, DV.int IntKind.i64 row, DV.int IntKind.i64 col, DV.int IntKind.i64 (↑p1 : Int), DV.int IntKind.i64 (0 : Int), DV.int IntKind.i64 (0 : Int)]]))) := by kernel_rfl
theorem vc72_2 (s : List UInt8) (row col : Int) (p : Nat) (L : St → Prop) (K : Ex → St → Prop) : (vcB cfg {} 72 0 (hd72 s row col p 2) (bodyK L [0, 2, 6, 7, 8] [2] [0, 2] [2] 38 K)) =
    (K (Ex.exit 0) (mkS 38 [(0, DV.ptr 38 6 0 0), (2, DV.ptr 2 18 0 0)] [(2, Blk.box zeroE)] [Blk.box [DV.str s, DV.int IntKind.i64 row, DV.int IntKind.i64 col, DV.int IntKind.i64 (↑p : Int), DV.int IntKind.i64 (0 : Int), DV.int IntKind.i64 (0 : Int)]])) := by kernel_rfl
theorem vc72_p (s : List UInt8) (row col : Int) (p p1 : Nat) (r : Bool) (acc : Tr) (L : St → Prop) (K : Ex → St → Prop) : (vcB cfg (E72p s row col p p1 r) 72 2 (hp72 s row col p acc) (bodyK L [0, 2, 5] [2, 5] [2, 5] [2, 5] 38 K)) =
    ((True ∧ [DV.ptr 28 6 0 0, DV.str [(37 : UInt8)]] = [DV.ptr 28 6 0 0, DV.str [(37 : UInt8)]] ∧ [Blk.box [DV.str s, DV.int IntKind.i64 row, DV.int IntKind.i64 col, DV.int IntKind.i64 (↑p : Int), DV.int IntKind.i64 (0 : Int), DV.int IntKind.i64 (0 : Int)]] = [Blk.box [DV.str s, DV.int IntKind.i64 row, DV.int IntKind.i64 col, DV.int IntKind.i64 (↑p : Int), DV.int IntKind.i64 (0 : Int), DV.int IntKind.i64 (0 : Int)]]) ∧ brB r (L (mkS 38 [(0, DV.ptr 38 6 0 0), (2, DV.ptr 2 18 0 0), (5, DV.ptr 5 18 0 0)] [(2, Blk.box zeroE), (5, Blk.box [DV.int IntKind.i64 (7 : Int), DV.int IntKind.i64 (0 : Int), DV.int IntKind.i64 (0 : Int), DV.int IntKind.i64 (0 : Int), DV.str [], DV.bool false, DV.int IntKind.i64 (0 : Int), DV.int IntKind.i64 (0 : Int), DV.int IntKind.i64 (0 : Int), DV.bool false, DV.bool false, DV.int IntKind.i64 (0 : Int), DV.int IntKind.i64 (0 : Int), DV.bool false, DV.bool false, DV.int IntKind.i64 (0 : Int), DV.int IntKind.i64 (3 : Int), DV.psl 18 [Tr.dv acc]])] [Blk.box [DV.str s, DV.int IntKind.i64 row, DV.int IntKind.i64 col, DV.int IntKind.i64 (↑p1 : Int), DV.int IntKind.i64 (0 : Int), DV.int IntKind.i64 (0 : Int)]])) (K (Ex.exit 2) (mkS 38 [(2, DV.ptr 2 18 0 0), (5, DV.ptr 5 18 0 0)] [(2, Blk.box zeroE), (5, Blk.box (Tr.cells acc))] [Blk.box [DV.str s, DV.int IntKind.i64 row, DV.int IntKind.i64 col, DV.int IntKind.i64 (↑p1 : Int), DV.int IntKind.i64 (0 : Int), DV.int IntKind.i64 (0 : Int)]]))) := by kernel_rfl
-- close
def E148 (s : List UInt8) (row col : Int) (p p1 : Nat) : Env := { ss := [(9, 107, callE True [.ptr 28 6 0 0, .str [41]] [rdr s row col p 0 0] (.bool true) [rdr s row col p1 0 0])], cs := [(37, noCall)], sp := [0] }
theorem vc148 (s : List UInt8) (row col : Int) (p p1 : Nat) (Φ : DV → List Blk → Prop) : (vcF cfg (E148 s row col p p1) 148 [.ptr 14 6 0 0] [rdr s row col p 0 0] Φ) =
    ((True ∧ [DV.ptr 28 6 0 0, DV.str [(41 : UInt8)]] = [DV.ptr 28 6 0 0, DV.str [(41 : UInt8)]] ∧ [Blk.box [DV.str s, DV.int IntKind.i64 row, DV.int IntKind.i64 col, DV.int IntKind.i64 (↑p : Int), DV.int IntKind.i64 (0 : Int), DV.int IntKind.i64 (0 : Int)]] = [Blk.box [DV.str s, DV.int IntKind.i64 row, DV.int IntKind.i64 col, DV.int IntKind.i64 (↑p : Int), DV.int IntKind.i64 (0 : Int), DV.int IntKind.i64 (0 : Int)]]) ∧ Φ (DV.tup []) [Blk.box [DV.str s, DV.int IntKind.i64 row, DV.int IntKind.i64 col, DV.int IntKind.i64 (↑p1 : Int), DV.int IntKind.i64 (0 : Int), DV.int IntKind.i64 (0 : Int)]]) := by kernel_rfl
-- primary
def E108 (s : List UInt8) (row col : Int) (p0 p p1 p2 : Nat) (t u : Tr) (g74 g75 g146 g147 g35 : Prop) : Env := { cs := [(36, callE True [.ptr 31 6 0 0] [rdr s row col p0 0 0] (.tup []) [rdr s row col p 0 0]), (76, noCall), (74, callE g74 [.ptr 25 6 0 0] [rdr s row col p 0 0] t.dv [rdr s row col p2 0 0]), (75, callE g75 [.ptr (ntOf cfg 75) 6 0 0] [rdr s row col p 0 0] t.dv [rdr s row col p2 0 0]), (146, callE g146 [.ptr (ntOf cfg 146) 6 0 0] [rdr s row col p 0 0] t.dv [rdr s row col p2 0 0]), (147, callE g147 [.ptr (ntOf cfg 147) 6 0 0] [rdr s row col p 0 0] t.dv [rdr s row col p2 0 0]), (35, callE g35 [.ptr 34 6 0 0, .int .i64 1] [rdr s row col ((p : Int) + 1) 0 0] u.dv [rdr s row col p1 0 0]), (148, callE g35 [.ptr 14 6 0 0] [rdr s row col p1 0 0] (.tup []) [rdr s row col p2 0 0])] }
theorem vc108 (s : List UInt8) (row col : Int) (p0 p p1 p2 : Nat) (t u : Tr) (g74 g75 g146 g147 g35 : Prop) (Φ : DV → List Blk → Prop) : (vcF cfg (E108 s row col p0 p p1 p2 t u g74 g75 g146 g147 g35) 108 [.ptr 95 6 0 0] [rdr s row col p0 0 0] Φ) =
    ((True ∧ [DV.ptr 31 6 0 0] = [DV.ptr 31 6 0 0] ∧ [Blk.box [DV.str s, DV.int IntKind.i64 row, DV.int IntKind.i64 col, DV.int IntKind.i64 (↑p0 : Int), DV.int IntKind.i64 (0 : Int), DV.int IntKind.i64 (0 : Int)]] = [Blk.box [DV.str s, DV.int IntKind.i64 row, DV.int IntKind.i64 col, DV.int IntKind.i64 (↑p0 : Int), DV.int IntKind.i64 (0 : Int), DV.int IntKind.i64 (0 : Int)]]) ∧ brB ((↑p : Int) == (↑(List.length s) : Int)) False (obB (decide (p < List.length s)) (brB (decide ((↑(UInt8.toNat (List.getD s p (0 : UInt8))) : Int) ≥ (48 : Int)) && decide ((↑(UInt8.toNat (List.getD s p (0 : UInt8))) : Int) ≤ (57 : Int)) || (↑(UInt8.toNat (List.getD s p (0 : UInt8))) : Int) == (46 : Int)) ((g74 ∧ [DV.ptr 25 6 0 0] = [DV.ptr 25 6 0 0] ∧ [Blk.box [DV.str s, DV.int IntKind.i64 row, DV.int IntKind.i64 col, DV.int IntKind.i64 (↑p : Int), DV.int IntKind.i64 (0 : Int), DV.int IntKind.i64 (0 : Int)]] = [Blk.box [DV.str s, DV.int IntKind.i64 row, DV.int IntKind.i64 col, DV.int IntKind.i64 (↑p : Int), DV.int IntKind.i64 (0 : Int), DV.int IntKind.i64 (0 : Int)]]) ∧ Φ (Tr.dv t) [Blk.box [DV.str s, DV.int IntKind.i64 row, DV.int IntKind.i64 col, DV.int IntKind.i64 (↑p2 : Int), DV.int IntKind.i64 (0 : Int), DV.int IntKind.i64 (0 : Int)]]) (brB ((↑(UInt8.toNat (List.getD s p (0 : UInt8))) : Int) == (34 : Int)) ((g75 ∧ [DV.ptr 87 6 0 0] = [DV.ptr 87 6 0 0] ∧ [Blk.box [DV.str s, DV.int IntKind.i64 row, DV.int IntKind.i64 col, DV.int IntKind.i64 (↑p : Int), DV.int IntKind.i64 (0 : Int), DV.int IntKind.i64 (0 : Int)]] = [Blk.box [DV.str s, DV.int IntKind.i64 row, DV.int IntKind.i64 col, DV.int IntKind.i64 (↑p : Int), DV.int IntKind.i64 (0 : Int), DV.int IntKind.i64 (0 : Int)]]) ∧ Φ (Tr.dv t) [Blk.box [DV.str s, DV.int IntKind.i64 row, DV.int IntKind.i64 col, DV.int IntKind.i64 (↑p2 : Int), DV.int IntKind.i64 (0 : Int), DV.int IntKind.i64 (0 : Int)]]) (brB ((↑(UInt8.toNat (List.getD s p (0 : UInt8))) : Int) == (35 : Int)) ((g146 ∧ [DV.ptr 26 6 0 0] = [DV.ptr 26 6 0 0] ∧ [Blk.box [DV.str s, DV.int IntKind.i64 row, DV.int IntKind.i64 col, DV.int IntKind.i64 (↑p : Int), DV.int IntKind.i64 (0 : Int), DV.int IntKind.i64 (0 : Int)]] = [Blk.box [DV.str s, DV.int IntKind.i64 row, DV.int IntKind.i64 col, DV.int IntKind.i64 (↑p : Int), DV.int IntKind.i64 (0 : Int), DV.int IntKind.i64 (0 : Int)]]) ∧ Φ (Tr.dv t) [Blk.box [DV.str s, DV.int IntKind.i64 row, DV.int IntKind.i64 col, DV.int IntKind.i64 (↑p2 : Int), DV.int IntKind.i64 (0 : Int), DV.int IntKind.i64 (0 : Int)]]) (brB (decide ((↑(UInt8.toNat (List.getD s p (0 : UInt8))) : Int) ≥ (65 : Int)) && decide ((↑(UInt8.toNat (List.getD s p (0 : UInt8))) : Int) ≤ (90 : Int)) || (↑(UInt8.toNat (List.getD s p (0 : UInt8))) : Int) == (36 : Int) || (↑(UInt8.toNat (List.getD s p (0 : UInt8))) : Int) == (39 : Int)) ((g147 ∧ [DV.ptr 126 6 0 0] = [DV.ptr 126 6 0 0] ∧ [Blk.box [DV.str s, DV.int IntKind.i64 row, DV.int IntKind.i64 col, DV.int IntKind.i64 (↑p : Int), DV.int IntKind.i64 (0 : Int), DV.int IntKind.i64 (0 : Int)]] = [Blk.box [DV.str s, DV.int IntKind.i64 row, DV.int IntKind.i64 col, DV.int IntKind.i64 (↑p : Int), DV.int IntKind.i64 (0 : Int), DV.int IntKind.i64 (0 : Int)]]) ∧ Φ (Tr.dv t) [Blk.box [DV.str s, DV.int IntKind.i64 row, DV.int IntKind.i64 col, DV.int IntKind.i64 (↑p2 : Int), DV.int IntKind.i64 (0 : Int), DV.int IntKind.i64 (0 : Int)]]) (obB ((↑(UInt8.toNat (List.getD s p (0 : UInt8))) : Int) == (40 : Int)) (obB (inR IntKind.i64 ((↑p : Int) + (1 : Int))) ((g35 ∧ [DV.ptr 34 6 0 0, DV.int IntKind.i64 (1 : Int)] = [DV.ptr 34 6 0 0, DV.int IntKind.i64 (1 : Int)] ∧ [Blk.box [DV.str s, DV.int IntKind.i64 row, DV.int IntKind.i64 col, DV.int IntKind.i64 ((↑p : Int) + (1 : Int)), DV.int IntKind.i64 (0 : Int), DV.int IntKind.i64 (0 : Int)]] = [Blk.box [DV.str s, DV.int IntKind.i64 row, DV.int IntKind.i64 col, DV.int IntKind.i64 ((↑p : Int) + (1 : Int)), DV.int IntKind.i64 (0 : Int), DV.int IntKind.i64 (0 : Int)]]) ∧ (g35 ∧ [DV.ptr 14 6 0 0] = [DV.ptr 14 6 0 0] ∧ [Blk.box [DV.str s, DV.int IntKind.i64 row, DV.int IntKind.i64 col, DV.int IntKind.i64 (↑p1 : Int), DV.int IntKind.i64 (0 : Int), DV.int IntKind.i64 (0 : Int)]] = [Blk.box [DV.str s, DV.int IntKind.i64 row, DV.int IntKind.i64 col, DV.int IntKind.i64 (↑p1 : Int), DV.int IntKind.i64 (0 : Int), DV.int IntKind.i64 (0 : Int)]]) ∧ Φ (DV.agg [DV.int IntKind.i64 (10 : Int), DV.int IntKind.i64 (0 : Int), DV.int IntKind.i64 (0 : Int), DV.int IntKind.i64 (0 : Int), DV.str [], DV.bool false, DV.int IntKind.i64 (0 : Int), DV.int IntKind.i64 (0 : Int), DV.int IntKind.i64 (0 : Int), DV.bool false, DV.bool false, DV.int IntKind.i64 (0 : Int), DV.int IntKind.i64 (0 : Int), DV.bool false, DV.bool false, DV.int IntKind.i64 (0 : Int), DV.int IntKind.i64 (0 : Int), DV.psl 18 [Tr.dv u]]) [Blk.box [DV.str s, DV.int IntKind.i64 row, DV.int IntKind.i64 col, DV.int IntKind.i64 (↑p2 : Int), DV.int IntKind.i64 (0 : Int), DV.int IntKind.i64 (0 : Int)]]))))))))) := by kernel_rfl
-- Good
theorem vc24 (r c : Int) (Φ : DV → List Blk → Prop) : (vcF cfg E0 24 [.agg [.int .i64 r, .int .i64 c]] [] Φ) =
    (Φ (DV.bool (decide (r ≥ (0 : Int)) && decide (r < (65536 : Int)) && decide (c ≥ (0 : Int)) && decide (c < (256 : Int)))) []) := by kernel_rfl
-- Parse
def E15 (s : List UInt8) (row col : Int) (p p2 : Nat) (t : Tr) (f : Int) : Env := { cs := [(24, callG True [.agg [.int .i64 row, .int .i64 col]] (.bool true)), (35, callE True [.ptr 34 6 0 0, .int .i64 1] [rdr s row col 0 0 0] t.dv [rdr s row col p 0 0]), (36, callE True [.ptr 31 6 0 0] [rdr s row col p 0 0] (.tup []) [rdr s row col p2 0 0]), (37, noCall), (29, callG True [t.dv] (.int .i64 f))] }
theorem vc15 (s : List UInt8) (row col : Int) (p p2 : Nat) (t : Tr) (f : Int) (Φ : DV → List Blk → Prop) : (vcF cfg (E15 s row col p p2 t f) 15 [.str s, .agg [.int .i64 row, .int .i64 col]] [] Φ) =
    (True ∧ [DV.agg [DV.int IntKind.i64 row, DV.int IntKind.i64 col]] = [DV.agg [DV.int IntKind.i64 row, DV.int IntKind.i64 col]] ∧ (True ∧ [DV.ptr 34 6 0 0, DV.int IntKind.i64 (1 : Int)] = [DV.ptr 34 6 0 0, DV.int IntKind.i64 (1 : Int)] ∧ [Blk.box [DV.str s, DV.int IntKind.i64 row, DV.int IntKind.i64 col, DV.int IntKind.i64 (0 : Int), DV.int IntKind.i64 (0 : Int), DV.int IntKind.i64 (0 : Int)]] = [Blk.box [DV.str s, DV.int IntKind.i64 row, DV.int IntKind.i64 col, DV.int IntKind.i64 (0 : Int), DV.int IntKind.i64 (0 : Int), DV.int IntKind.i64 (0 : Int)]]) ∧ (True ∧ [DV.ptr 31 6 0 0] = [DV.ptr 31 6 0 0] ∧ [Blk.box [DV.str s, DV.int IntKind.i64 row, DV.int IntKind.i64 col, DV.int IntKind.i64 (↑p : Int), DV.int IntKind.i64 (0 : Int), DV.int IntKind.i64 (0 : Int)]] = [Blk.box [DV.str s, DV.int IntKind.i64 row, DV.int IntKind.i64 col, DV.int IntKind.i64 (↑p : Int), DV.int IntKind.i64 (0 : Int), DV.int IntKind.i64 (0 : Int)]]) ∧ brB (decide ((↑p2 : Int) < (↑(List.length s) : Int))) False (True ∧ [Tr.dv t] = [Tr.dv t] ∧ brB (f != (0 : Int)) (Φ (DV.tup [DV.agg zeroE, DV.int IntKind.i64 (0 : Int), DV.int IntKind.i64 f]) []) (Φ (DV.tup [Tr.dv t, DV.int IntKind.i64 (0 : Int), DV.int IntKind.i64 (0 : Int)]) []))) := by kernel_rfl
end Go.Det.Sea
end

section
set_option linter.unusedVariables false
set_option linter.unusedSimpArgs false
namespace Go.Det.Sea
open Go Go.Det

def hd183_0 (s : List UInt8) (row col : Int) (p : Nat) (op : Int) : St := mkS 38 [(0, .ptr 38 6 0 0), (4, .ptr 4 18 0 0), (5, .ptr 5 18 0 0)] [(4, .box zeroE), (5, .box ((caT op []).cellsK .nilsl))] [rdr s row col p 0 0]
def hd183_1 (s : List UInt8) (row col : Int) (p : Nat) (op : Int) (acc : List DV) (m : Nat) : St := mkS 38 [(0, .ptr 38 6 0 0), (4, .ptr 4 18 0 0), (5, .ptr 5 18 0 0)] [(4, .box zeroE), (5, .box ((caT op []).cellsK (.rsl 23 18 0 m))), (23, .row 18 acc)] [rdr s row col p 0 0]
def F183 (s : List UInt8) (row col : Int) (p : Nat) (op : Int) (out : List DV) (m : Nat) (k : Ex → St → Prop) : Prop := k (.exit 0) (mkS 38 [(4, .ptr 4 18 0 0), (5, .ptr 5 18 0 0)] [(4, .box zeroE), (5, .box ((caT op []).cellsK (.rsl 23 18 0 m))), (23, .row 18 out)] [rdr s row col p 0 0])
def E183 (L : St → Prop) (s : List UInt8) (row col : Int) (p p1 p2 p3 : Nat) (op : Int) (r : Bool) (out : List DV) (m : Nat) : Env := { ss := [(9, 107, callE True [.ptr 28 6 0 0, .str [40]] [rdr s row col p 0 0] (.bool true) [rdr s row col p1 0 0]), (11, 107, callE True [.ptr 28 6 0 0, .str [41]] [rdr s row col p1 0 0] (.bool r) [rdr s row col p2 0 0])], ls := [(0, loopS [0, 4, 5] [4, 5] 38 L (F183 s row col p3 op out m))] }
def E183b (s : List UInt8) (row col : Int) (p p1 p2 p3 : Nat) (c : Tr) (r : Bool) : Env := { ss := [(21, 35, callE True [.ptr 34 6 0 0, .int .i64 1] [rdr s row col p 0 0] c.dv [rdr s row col p1 0 0]), (32, 107, callE True [.ptr 28 6 0 0, .str [44]] [rdr s row col p1 0 0] (.bool r) [rdr s row col p2 0 0]), (36, 148, callE (r = false) [.ptr 14 6 0 0] [rdr s row col p2 0 0] (.tup []) [rdr s row col p3 0 0])], sp := [7] }
theorem vc183 (s : List UInt8) (row col : Int) (p p1 p2 p3 : Nat) (op : Int) (r : Bool) (out : List DV) (m : Nat) (L : St → Prop) (Φ : DV → List Blk → Prop) : (vcF cfg (E183 L s row col p p1 p2 p3 op r out m) 183 [.ptr 38 6 0 0, .int .i64 op] [rdr s row col p 0 0] Φ) =
    ((True ∧ [DV.ptr 28 6 0 0, DV.str [(40 : UInt8)]] = [DV.ptr 28 6 0 0, DV.str [(40 : UInt8)]] ∧ [Blk.box [DV.str s, DV.int IntKind.i64 row, DV.int IntKind.i64 col, DV.int IntKind.i64 (↑p : Int), DV.int IntKind.i64 (0 : Int), DV.int IntKind.i64 (0 : Int)]] = [Blk.box [DV.str s, DV.int IntKind.i64 row, DV.int IntKind.i64 col, DV.int IntKind.i64 (↑p : Int), DV.int IntKind.i64 (0 : Int), DV.int IntKind.i64 (0 : Int)]]) ∧ (True ∧ [DV.ptr 28 6 0 0, DV.str [(41 : UInt8)]] = [DV.ptr 28 6 0 0, DV.str [(41 : UInt8)]] ∧ [Blk.box [DV.str s, DV.int IntKind.i64 row, DV.int IntKind.i64 col, DV.int IntKind.i64 (↑p1 : Int), DV.int IntKind.i64 (0 : Int), DV.int IntKind.i64 (0 : Int)]] = [Blk.box [DV.str s, DV.int IntKind.i64 row, DV.int IntKind.i64 col, DV.int IntKind.i64 (↑p1 : Int), DV.int IntKind.i64 (0 : Int), DV.int IntKind.i64 (0 : Int)]]) ∧ brB r (Φ (DV.agg [DV.int IntKind.i64 (9 : Int), DV.int IntKind.i64 (0 : Int), DV.int IntKind.i64 (0 : Int), DV.int IntKind.i64 (0 : Int), DV.str [], DV.bool false, DV.int IntKind.i64 (0 : Int), DV.int IntKind.i64 (0 : Int), DV.int IntKind.i64 (0 : Int), DV.bool false, DV.bool false, DV.int IntKind.i64 (0 : Int), DV.int IntKind.i64 (0 : Int), DV.bool false, DV.bool false, DV.int IntKind.i64 (0 : Int), DV.int IntKind.i64 op, DV.nilsl]) [Blk.box [DV.str s, DV.int IntKind.i64 row, DV.int IntKind.i64 col, DV.int IntKind.i64 (↑p2 : Int), DV.int IntKind.i64 (0 : Int), DV.int IntKind.i64 (0 : Int)]]) (L (mkS 38 [(0, DV.ptr 38 6 0 0), (4, DV.ptr 4 18 0 0), (5, DV.ptr 5 18 0 0)] [(4, Blk.box zeroE), (5, Blk.box [DV.int IntKind.i64 (9 : Int), DV.int IntKind.i64 (0 : Int), DV.int IntKind.i64 (0 : Int), DV.int IntKind.i64 (0 : Int), DV.str [], DV.bool false, DV.int IntKind.i64 (0 : Int), DV.int IntKind.i64 (0 : Int), DV.int IntKind.i64 (0 : Int), DV.bool false, DV.bool false, DV.int IntKind.i64 (0 : Int), DV.int IntKind.i64 (0 : Int), DV.bool false, DV.bool false, DV.int IntKind.i64 (0 : Int), DV.int IntKind.i64 op, DV.nilsl])] [Blk.box [DV.str s, DV.int IntKind.i64 row, DV.int IntKind.i64 col, DV.int IntKind.i64 (↑p2 : Int), DV.int IntKind.i64 (0 : Int), DV.int IntKind.i64 (0 : Int)]]) ∧ obB (decide (0 + m ≤ List.length out)) (Φ (DV.agg (Tr.cellsK (caT op []) (DV.psl 18 (List.take m out)))) [Blk.box [DV.str s, DV.int IntKind.i64 row, DV.int IntKind.i64 col, DV.int IntKind.i64 (↑p3 : Int), DV.int IntKind.i64 (0 : Int), DV.int IntKind.i64 (0 : Int)]]))) := by kernel_rfl
theorem vc183_0 (s : List UInt8) (row col : Int) (p p1 p2 p3 : Nat) (op : Int) (c : Tr) (r : Bool) (L : St → Prop) (K : Ex → St → Prop) : (vcB cfg (E183b s row col p p1 p2 p3 c r) 183 0 (hd183_0 s row col p op) (bodyK L [0, 4, 5] [4, 5, 23] [4, 5] [4, 5, 23] 38 K)) =
    ((True ∧ [DV.ptr 34 6 0 0, DV.int IntKind.i64 (1 : Int)] = [DV.ptr 34 6 0 0, DV.int IntKind.i64 (1 : Int)] ∧ [Blk.box [DV.str s, DV.int IntKind.i64 row, DV.int IntKind.i64 col, DV.int IntKind.i64 (↑p : Int), DV.int IntKind.i64 (0 : Int), DV.int IntKind.i64 (0 : Int)]] = [Blk.box [DV.str s, DV.int IntKind.i64 row, DV.int IntKind.i64 col, DV.int IntKind.i64 (↑p : Int), DV.int IntKind.i64 (0 : Int), DV.int IntKind.i64 (0 : Int)]]) ∧ (True ∧ [DV.ptr 28 6 0 0, DV.str [(44 : UInt8)]] = [DV.ptr 28 6 0 0, DV.str [(44 : UInt8)]] ∧ [Blk.box [DV.str s, DV.int IntKind.i64 row, DV.int IntKind.i64 col, DV.int IntKind.i64 (↑p1 : Int), DV.int IntKind.i64 (0 : Int), DV.int IntKind.i64 (0 : Int)]] = [Blk.box [DV.str s, DV.int IntKind.i64 row, DV.int IntKind.i64 col, DV.int IntKind.i64 (↑p1 : Int), DV.int IntKind.i64 (0 : Int), DV.int IntKind.i64 (0 : Int)]]) ∧ brB (!r) ((r = false ∧ [DV.ptr 14 6 0 0] = [DV.ptr 14 6 0 0] ∧ [Blk.box [DV.str s, DV.int IntKind.i64 row, DV.int IntKind.i64 col, DV.int IntKind.i64 (↑p2 : Int), DV.int IntKind.i64 (0 : Int), DV.int IntKind.i64 (0 : Int)]] = [Blk.box [DV.str s, DV.int IntKind.i64 row, DV.int IntKind.i64 col, DV.int IntKind.i64 (↑p2 : Int), DV.int IntKind.i64 (0 : Int), DV.int IntKind.i64 (0 : Int)]]) ∧ K (Ex.exit 0) (mkS 38 [(4, DV.ptr 4 18 0 0), (5, DV.ptr 5 18 0 0)] [(4, Blk.box zeroE), (5, Blk.box (Tr.cellsK (caT op []) (DV.rsl 23 18 0 1))), (23, Blk.row 18 [Tr.dv c])] [Blk.box [DV.str s, DV.int IntKind.i64 row, DV.int IntKind.i64 col, DV.int IntKind.i64 (↑p3 : Int), DV.int IntKind.i64 (0 : Int), DV.int IntKind.i64 (0 : Int)]])) (L (mkS 38 [(0, DV.ptr 38 6 0 0), (4, DV.ptr 4 18 0 0), (5, DV.ptr 5 18 0 0)] [(4, Blk.box zeroE), (5, Blk.box (Tr.cellsK (caT op []) (DV.rsl 23 18 0 1))), (23, Blk.row 18 [Tr.dv c])] [Blk.box [DV.str s, DV.int IntKind.i64 row, DV.int IntKind.i64 col, DV.int IntKind.i64 (↑p2 : Int), DV.int IntKind.i64 (0 : Int), DV.int IntKind.i64 (0 : Int)]]))) := by kernel_rfl
theorem vc183_1 (s : List UInt8) (row col : Int) (p p1 p2 p3 : Nat) (op : Int) (acc : List DV) (m : Nat) (c : Tr) (r : Bool) (L : St → Prop) (K : Ex → St → Prop) : (vcB cfg (E183b s row col p p1 p2 p3 c r) 183 0 (hd183_1 s row col p op acc m) (bodyK L [0, 4, 5] [4, 5, 23] [4, 5] [4, 5, 23] 38 K)) =
    ((True ∧ [DV.ptr 34 6 0 0, DV.int IntKind.i64 (1 : Int)] = [DV.ptr 34 6 0 0, DV.int IntKind.i64 (1 : Int)] ∧ [Blk.box [DV.str s, DV.int IntKind.i64 row, DV.int IntKind.i64 col, DV.int IntKind.i64 (↑p : Int), DV.int IntKind.i64 (0 : Int), DV.int IntKind.i64 (0 : Int)]] = [Blk.box [DV.str s, DV.int IntKind.i64 row, DV.int IntKind.i64 col, DV.int IntKind.i64 (↑p : Int), DV.int IntKind.i64 (0 : Int), DV.int IntKind.i64 (0 : Int)]]) ∧ obB (decide (0 + m ≤ List.length acc)) (obB (roomy 152 (m + 1)) ((True ∧ [DV.ptr 28 6 0 0, DV.str [(44 : UInt8)]] = [DV.ptr 28 6 0 0, DV.str [(44 : UInt8)]] ∧ [Blk.box [DV.str s, DV.int IntKind.i64 row, DV.int IntKind.i64 col, DV.int IntKind.i64 (↑p1 : Int), DV.int IntKind.i64 (0 : Int), DV.int IntKind.i64 (0 : Int)]] = [Blk.box [DV.str s, DV.int IntKind.i64 row, DV.int IntKind.i64 col, DV.int IntKind.i64 (↑p1 : Int), DV.int IntKind.i64 (0 : Int), DV.int IntKind.i64 (0 : Int)]]) ∧ brB (!r) ((r = false ∧ [DV.ptr 14 6 0 0] = [DV.ptr 14 6 0 0] ∧ [Blk.box [DV.str s, DV.int IntKind.i64 row, DV.int IntKind.i64 col, DV.int IntKind.i64 (↑p2 : Int), DV.int IntKind.i64 (0 : Int), DV.int IntKind.i64 (0 : Int)]] = [Blk.box [DV.str s, DV.int IntKind.i64 row, DV.int IntKind.i64 col, DV.int IntKind.i64 (↑p2 : Int), DV.int IntKind.i64 (0 : Int), DV.int IntKind.i64 (0 : Int)]]) ∧ K (Ex.exit 0) (mkS 38 [(4, DV.ptr 4 18 0 0), (5, DV.ptr 5 18 0 0)] [(4, Blk.box zeroE), (5, Blk.box (Tr.cellsK (caT op []) (DV.rsl 23 18 0 (m + 1)))), (23, Blk.row 18 (List.take m acc ++ [Tr.dv c]))] [Blk.box [DV.str s, DV.int IntKind.i64 row, DV.int IntKind.i64 col, DV.int IntKind.i64 (↑p3 : Int), DV.int IntKind.i64 (0 : Int), DV.int IntKind.i64 (0 : Int)]])) (L (mkS 38 [(0, DV.ptr 38 6 0 0), (4, DV.ptr 4 18 0 0), (5, DV.ptr 5 18 0 0)] [(4, Blk.box zeroE), (5, Blk.box (Tr.cellsK (caT op []) (DV.rsl 23 18 0 (m + 1)))), (23, Blk.row 18 (List.take m acc ++ [Tr.dv c]))] [Blk.box [DV.str s, DV.int IntKind.i64 row, DV.int IntKind.i64 col, DV.int IntKind.i64 (↑p2 : Int), DV.int IntKind.i64 (0 : Int), DV.int IntKind.i64 (0 : Int)]]))))) := by kernel_rfl
end Go.Det.Sea
end

section
set_option linter.unusedVariables false
set_option linter.unusedSimpArgs false
namespace Go.Det.Sea
open Go Go.Det

/-! How a formula is read, where nothing is wrong: a relation over places in the text. -/
inductive GJ where
  | lvl (n : Nat)
  | tail (n : Nat) (acc : Tr)
  | sgn
  | pct (acc : Tr)
  | prim
  | call (op : Int)
  | args (op : Int) (acc : List Tr)

inductive Rds (s : List UInt8) (leaf : Nat → Tr → Nat → Prop) (head : Nat → Int → Nat → Prop) : GJ → Nat → Tr → Nat → Prop where
  | lvl {n p a p1 t p2} : n < 6 → Rds s leaf head (.lvl (n + 1)) p a p1 → Rds s leaf head (.tail n a) p1 t p2 → Rds s leaf head (.lvl n) p t p2
  | lvl6 {p t p2} : Rds s leaf head .sgn p t p2 → Rds s leaf head (.lvl 6) p t p2
  | tl0 {n : Nat} {acc p p1} : opF s p (n : Int) = (0, p1) → Rds s leaf head (.tail n acc) p acc p1
  | tl1 {n : Nat} {acc p p1} {o : Nat} {c p2 t p3} : n < 6 → opF s p (n : Int) = (o + 1, p1) → Rds s leaf head (.lvl (n + 1)) p1 c p2 → Rds s leaf head (.tail n (biT ((o + 1 : Nat) : Int) acc c)) p2 t p3 → Rds s leaf head (.tail n acc) p t p3
  | neg {p p1 t p2} : signF s p [45] = (true, p1) → Rds s leaf head .sgn p1 t p2 → Rds s leaf head .sgn p (unT 1 t) p2
  | pos {p p0 p1 t p2} : signF s p [45] = (false, p0) → signF s p0 [43] = (true, p1) → Rds s leaf head .sgn p1 t p2 → Rds s leaf head .sgn p (unT 2 t) p2
  | plain {p p0 p1 a p2 t p3} : signF s p [45] = (false, p0) → signF s p0 [43] = (false, p1) → Rds s leaf head .prim p1 a p2 → Rds s leaf head (.pct a) p2 t p3 → Rds s leaf head .sgn p t p3
  | pc0 {acc p p1} : signF s p [37] = (false, p1) → Rds s leaf head (.pct acc) p acc p1
  | pc1 {acc p p1 t p2} : signF s p [37] = (true, p1) → Rds s leaf head (.pct (unT 3 acc)) p1 t p2 → Rds s leaf head (.pct acc) p t p2
  | leaf {p q t p2} : blN s p = q → leaf q t p2 → Rds s leaf head .prim p t p2
  | paren {p q u p1 p2} : blN s p = q → q < s.length → byt s q = 40 → Rds s leaf head (.lvl 1) (q + 1) u p1 → signF s p1 [41] = (true, p2) → Rds s leaf head .prim p (paT u) p2
  | call {p q op p1 t p2} : blN s p = q → head q op p1 → Rds s leaf head (.call op) p1 t p2 → Rds s leaf head .prim p t p2
  | call0 {op p p1 p2} : signF s p [40] = (true, p1) → signF s p1 [41] = (true, p2) → Rds s leaf head (.call op) p (caT op []) p2
  | call1 {op p p1 p2 t p3} : signF s p [40] = (true, p1) → signF s p1 [41] = (false, p2) → Rds s leaf head (.args op []) p2 t p3 → Rds s leaf head (.call op) p t p3
  | arg1 {op acc p c p1 p2 t p3} : acc.length ≤ 1000000 → Rds s leaf head (.lvl 1) p c p1 → signF s p1 [44] = (true, p2) → Rds s leaf head (.args op (acc ++ [c])) p2 t p3 → Rds s leaf head (.args op acc) p t p3
  | arg0 {op acc p c p1 p2 p3} : acc.length ≤ 1000000 → Rds s leaf head (.lvl 1) p c p1 → signF s p1 [44] = (false, p2) → signF s p2 [41] = (true, p3) → Rds s leaf head (.args op acc) p (caT op (acc ++ [c])) p3

theorem hp_len : ∀ {a b : List UInt8}, hp a b = true → b.length ≤ a.length
  | _, [], _ => Nat.zero_le _
  | [], _ :: _, h => by simp [hp] at h
  | x :: a, y :: b, h => by
    simp only [hp, Bool.and_eq_true] at h
    have := hp_len h.2
    simp only [List.length_cons]; omega
theorem signF_le {s : List UInt8} {p : Nat} {g : List UInt8} {r : Bool} {p1 : Nat} (h : signF s p g = (r, p1)) (hp' : p ≤ s.length) : p1 ≤ s.length := by
  have hn := blN_le hp'
  unfold signF at h
  simp only at h
  cases hq : hp (s.drop (blN s p)) g with
  | false => rw [hq] at h; simp at h; omega
  | true =>
    rw [hq] at h
    have := hp_len hq
    rw [List.length_drop] at this
    simp at h; omega
theorem bestFrom_hp (rest : List UInt8) : ∀ d i b, (b = 0 ∨ hp rest (sgn (b - 1)) = true) → (bestFrom rest d i b = 0 ∨ hp rest (sgn (bestFrom rest d i b - 1)) = true)
  | 0, i, b, h => by simpa [bestFrom] using h
  | d + 1, i, b, h => by
    simp only [bestFrom]
    refine bestFrom_hp rest d (i + 1) _ ?_
    unfold bestStep
    cases hc : (hp rest (sgn i) && (Nat.beq b 0 || decide ((sgn i).length > (sgn (b - 1)).length))) with
    | false => exact h
    | true =>
      rw [Bool.and_eq_true] at hc
      exact .inr hc.1
theorem opF_le {s : List UInt8} {p : Nat} {n : Int} {r p1 : Nat} (h : opF s p n = (r, p1)) (hp' : p ≤ s.length) : p1 ≤ s.length := by
  have hn := blN_le hp'
  have hb := bestFrom_hp (s.drop (blN s p)) 12 0 0 (.inl rfl)
  unfold opF at h
  simp only at h
  generalize hB : bestFrom (s.drop (blN s p)) 12 0 0 = B at h hb
  cases hc : (Nat.beq B 0 || !(bindsI B == n)) with
  | true => rw [hc] at h; simp at h; omega
  | false =>
    rw [hc] at h
    rcases hb with h0 | h0
    · subst h0; simp at hc
    · have := hp_len h0
      rw [List.length_drop] at this
      simp at h; omega
section
variable {Pr Ow : Nat → List DV → DV → Prop} (s : List UInt8) (row col : Int)
def RdsOK (Pr Ow : Nat → List DV → DV → Prop) (s : List UInt8) (row col : Int) : GJ → Nat → Tr → Nat → Prop
  | .lvl n, p, t, p2 => ∀ Φ : DV → List Blk → Prop, Φ t.dv [rdr s row col p2 0 0] → GoC cfg Pr Ow 35 [.ptr 34 6 0 0, .int .i64 n] [rdr s row col p 0 0] Φ
  | .tail n acc, p, t, p2 => ∀ K, F35 s row col p2 t K → GoL cfg Pr Ow 35 34 (bodyOf cfg 35 0) (hd35 s row col p n acc) K
  | .sgn, p, t, p2 => ∀ Φ : DV → List Blk → Prop, Φ t.dv [rdr s row col p2 0 0] → GoC cfg Pr Ow 72 [.ptr 38 6 0 0] [rdr s row col p 0 0] Φ
  | .pct acc, p, t, p2 => ∀ K, Fp72 s row col p2 t K → GoL cfg Pr Ow 72 38 (bodyOf cfg 72 2) (hp72 s row col p acc) K
  | .prim, p, t, p2 => ∀ Φ : DV → List Blk → Prop, Φ t.dv [rdr s row col p2 0 0] → GoC cfg Pr Ow 108 [.ptr 95 6 0 0] [rdr s row col p 0 0] Φ
  | .call op, p, t, p2 => ∀ Φ : DV → List Blk → Prop, Φ t.dv [rdr s row col p2 0 0] → GoC cfg Pr Ow 183 [.ptr 38 6 0 0, .int .i64 op] [rdr s row col p 0 0] Φ
  | .args op acc, p, t, p2 => t = caT op t.kids ∧ t.kids ≠ [] ∧ ∀ K, F183 s row col p2 op (Tr.encs t.kids) t.kids.length K → GoL cfg Pr Ow 183 38 (bodyOf cfg 183 0) (match acc with | [] => hd183_0 s row col p op | x :: l => hd183_1 s row col p op (Tr.encs (x :: l)) (x :: l).length) K
theorem nt35 : ntOf cfg 35 = 34 := by kernel_rfl
theorem nd35 : nodupK (loops 0 (codeOf cfg 35)) = true := by kernel_rfl
theorem nt72 : ntOf cfg 72 = 38 := by kernel_rfl
theorem nd72 : nodupK (loops 0 (codeOf cfg 72)) = true := by kernel_rfl
theorem nt183 : ntOf cfg 183 = 38 := by kernel_rfl
theorem nd183 : nodupK (loops 0 (codeOf cfg 183)) = true := by kernel_rfl
theorem op_ok (hs : s.length ≤ 4000000000) {p : Nat} (hp' : p ≤ s.length) {n : Int} {o p1 : Nat} (h : opF s p n = (o, p1)) : SpecOK cfg Pr Ow 73 (callE True [.ptr 70 6 0 0, .int .i64 n] [rdr s row col p 0 0] (.int .i64 o) [rdr s row col p1 0 0]) :=
  callE_ok fun _ Φ hΦ => go73 s hs row col 0 0 p hp' n Φ (by rw [h]; exact hΦ)
theorem sign_ok (hs : s.length ≤ 4000000000) {p : Nat} (hp' : p ≤ s.length) {g : List UInt8} (hg : g.length ≤ 4000000000) {o : Bool} {p1 : Nat} (h : signF s p g = (o, p1)) : SpecOK cfg Pr Ow 107 (callE True [.ptr 28 6 0 0, .str g] [rdr s row col p 0 0] (.bool o) [rdr s row col p1 0 0]) :=
  callE_ok fun _ Φ hΦ => go107 s hs row col 0 0 p hp' g hg Φ (by rw [h]; exact hΦ)
theorem go148 (hs : s.length ≤ 4000000000) {p : Nat} (hp' : p ≤ s.length) {p1 : Nat} (h : signF s p [41] = (true, p1)) (Φ : DV → List Blk → Prop) (hΦ : Φ (.tup []) [rdr s row col p1 0 0]) : GoC cfg Pr Ow 148 [.ptr 14 6 0 0] [rdr s row col p 0 0] Φ := by
  refine fn_of0 (E := E148 s row col p p1) (envOK ⟨noCall_ok, trivial⟩ ⟨sign_ok s row col hs hp' (by simp) h, trivial⟩ trivial) rfl ?_
  rw [vc148]
  exact ⟨⟨trivial, rfl, rfl⟩, hΦ⟩
theorem look_two {E : Env} {sp0 sp2 : LSpec} (hE : E.ls = [(0, sp0), (2, sp2)]) {b : Nat} {sp : LSpec} (hl : look b E.ls = some sp) : (b = 0 ∧ sp = sp0) ∨ (b = 2 ∧ sp = sp2) := by
  rw [hE] at hl
  have := look_mem hl
  simp only [List.mem_cons, Prod.mk.injEq, List.not_mem_nil, or_false] at this
  exact this
/-- What the relation says is what the code does. -/
theorem rds_ok (hs : s.length ≤ 4000000000) {leaf : Nat → Tr → Nat → Prop} {head : Nat → Int → Nat → Prop}
    (hleaf : ∀ p q t p2, p ≤ s.length → blN s p = q → leaf q t p2 → p2 ≤ s.length ∧ RdsOK Pr Ow s row col .prim p t p2)
    (hhead : ∀ p q op p1, p ≤ s.length → blN s p = q → head q op p1 → p1 ≤ s.length ∧ ∀ t p2, RdsOK Pr Ow s row col (.call op) p1 t p2 → RdsOK Pr Ow s row col .prim p t p2)
    {j : GJ} {p : Nat} {t : Tr} {p2 : Nat} (h : Rds s leaf head j p t p2) : p ≤ s.length → p2 ≤ s.length ∧ RdsOK Pr Ow s row col j p t p2 := by
  induction h with
  | @lvl n p a p1 t p2 hn h1 h2 ih1 ih2 =>
    intro hp
    obtain ⟨l1, r1⟩ := ih1 hp
    obtain ⟨l2, r2⟩ := ih2 l1
    refine ⟨l2, fun Φ hΦ => ?_⟩
    refine fn_of (E := E35 (fun st => st = hd35 s row col p1 n a) s row col p p1 p2 (n : Int) a t False) (envOK trivial ⟨callE_ok fun h => h.elim, callE_ok fun _ => ?_, trivial⟩ trivial) nt35 nd35 ?_ ?_
    · rw [← cast_succ]; exact r1
    · intro b sp hl st k hk
      obtain ⟨rfl, rfl⟩ := look_one rfl hl
      exact loopS_ok (fun st hst K hK => by subst hst; exact r2 K hK) hk
    · rw [vc35]
      refine brB_of (fun h => ?_) (fun _ => obB_of (inR64 (by omega)) ⟨⟨fun h => h, rfl, rfl⟩, rfl, hΦ⟩)
      have : n = 6 := by have := of_decide_eq_true h; omega
      omega
  | @lvl6 p t p2 h1 ih1 =>
    intro hp
    obtain ⟨l1, r1⟩ := ih1 hp
    refine ⟨l1, fun Φ hΦ => ?_⟩
    refine fn_of (E := E35 (fun st => False) s row col p p p2 6 t t True) (envOK trivial ⟨callE_ok fun _ => r1, callE_ok fun h => (h trivial).elim, trivial⟩ trivial) nt35 nd35 ?_ ?_
    · intro b sp hl st k hk
      obtain ⟨rfl, rfl⟩ := look_one rfl hl
      exact loopS_ok (fun st hst K hK => hst.elim) hk
    · have := vc35 s row col p p p2 6 t t True (fun st => False) Φ
      rw [show (((6 : Nat) : Int)) = 6 from rfl, this]
      exact ⟨⟨trivial, rfl, rfl⟩, hΦ⟩
  | @tl0 n acc p p1 h1 =>
    intro hp
    refine ⟨opF_le h1 hp, fun K hK => ?_⟩
    refine round_of (E := E35b s row col p p1 p1 n 0 acc False) (envOK trivial ⟨op_ok s row col hs hp h1, callE_ok fun h => h.elim, trivial⟩ trivial) nt35 rfl (L := fun _ => False) (ks := [0, 1, 4, 5]) (bs := [4, 5]) (ks2 := [4, 5]) (bs2 := [4, 5]) ?_ (fun _ h => h.elim)
    rw [vc35_1]
    exact ⟨⟨trivial, rfl, rfl⟩, hK⟩
  | @tl1 n acc p p1 o c p2 t p3 hn h1 h2 h3 ih1 ih2 =>
    intro hp
    obtain ⟨l1, r1⟩ := ih1 (opF_le h1 hp)
    obtain ⟨l2, r2⟩ := ih2 l1
    refine ⟨l2, fun K hK => ?_⟩
    refine round_of (E := E35b s row col p p1 p2 n (o + 1) c True) (envOK trivial ⟨op_ok s row col hs hp h1, callE_ok fun _ => ?_, trivial⟩ trivial) nt35 rfl (L := fun st => st = hd35 s row col p2 n (biT ((o + 1 : Nat) : Int) acc c)) (ks := [0, 1, 4, 5]) (bs := [4, 5]) (ks2 := [4, 5]) (bs2 := [4, 5]) ?_ (fun st hst => by subst hst; exact r2 K hK)
    · rw [← cast_succ]; exact r1
    · rw [vc35_1]
      refine ⟨⟨trivial, rfl, rfl⟩, brB_of (fun h => ?_) (fun _ => obB_of (inR64 (by omega)) ⟨⟨trivial, rfl, rfl⟩, ?_⟩)⟩
      · have := of_decide_eq_true h; omega
      · simp only [hd35, biT, Tr.cells, Tr.cellsK, Tr.encs, Tr.kids, Tr.enc_eq]
        rfl
  | @neg p p1 t p2 h1 h2 ih =>
    intro hp
    have l0 := signF_le h1 hp
    obtain ⟨l1, r1⟩ := ih l0
    refine ⟨l1, fun Φ hΦ => ?_⟩
    refine fn_of (E := E72 (fun st => st = hd72 s row col p 0) (fun _ => False) s row col p2 p2 p2 t (unT 1 t) true) (envOK trivial ⟨callE_ok (fun h => by cases h), trivial⟩ trivial) nt72 nd72 ?_ ?_
    · intro b sp hl st k hk
      rcases look_two rfl hl with ⟨rfl, rfl⟩ | ⟨rfl, rfl⟩
      · refine loopS_ok (fun st hst K hK => ?_) hk
        subst hst
        refine round_of (E := E72b s row col p p1 p2 true [45] t) (envOK trivial ⟨sign_ok s row col hs hp (by simp) h1, callE_ok fun _ => r1, trivial⟩ trivial) nt72 rfl (L := fun _ => False) (ks := [0, 2, 6, 7, 8]) (bs := [2]) (ks2 := [0, 2]) (bs2 := [2]) ?_ (fun _ h => h.elim)
        rw [vc72_0]
        refine ⟨⟨trivial, rfl, rfl⟩, ⟨rfl, rfl, rfl⟩, ?_⟩
        simp only [F72, unT, Tr.cells, Tr.cellsK, Tr.encs, Tr.kids, Tr.enc_eq] at hK
        exact hK
      · exact loopS_ok (fun st hst K hK => hst.elim) hk
    · rw [vc72]
      exact ⟨rfl, hΦ⟩
  | @pos p p0 p1 t p2 h1 h2 h3 ih =>
    intro hp
    have l0 := signF_le h1 hp
    have l0' := signF_le h2 l0
    obtain ⟨l1, r1⟩ := ih l0'
    refine ⟨l1, fun Φ hΦ => ?_⟩
    refine fn_of (E := E72 (fun st => st = hd72 s row col p 0) (fun _ => False) s row col p2 p2 p2 t (unT 2 t) true) (envOK trivial ⟨callE_ok (fun h => by cases h), trivial⟩ trivial) nt72 nd72 ?_ ?_
    · intro b sp hl st k hk
      rcases look_two rfl hl with ⟨rfl, rfl⟩ | ⟨rfl, rfl⟩
      · refine loopS_ok (fun st hst K hK => ?_) hk
        subst hst
        refine round_of (E := E72b s row col p p0 p0 false [45] t) (envOK trivial ⟨sign_ok s row col hs hp (by simp) h1, callE_ok (fun h => by cases h), trivial⟩ trivial) nt72 rfl (L := fun st => st = hd72 s row col p0 1) (ks := [0, 2, 6, 7, 8]) (bs := [2]) (ks2 := [0, 2]) (bs2 := [2]) ?_ (fun st hst => ?_)
        · rw [vc72_0]
          exact ⟨⟨trivial, rfl, rfl⟩, rfl⟩
        · subst hst
          refine round_of (E := E72b s row col p0 p1 p2 true [43] t) (envOK trivial ⟨sign_ok s row col hs l0 (by simp) h2, callE_ok fun _ => r1, trivial⟩ trivial) nt72 rfl (L := fun _ => False) (ks := [0, 2, 6, 7, 8]) (bs := [2]) (ks2 := [0, 2]) (bs2 := [2]) ?_ (fun _ h => h.elim)
          rw [vc72_1]
          refine ⟨⟨trivial, rfl, rfl⟩, ⟨rfl, rfl, rfl⟩, ?_⟩
          simp only [F72, unT, Tr.cells, Tr.cellsK, Tr.encs, Tr.kids, Tr.enc_eq] at hK
          exact hK
      · exact loopS_ok (fun st hst K hK => hst.elim) hk
    · rw [vc72]
      exact ⟨rfl, hΦ⟩
  | @plain p p0 p1 a p2 t p3 h1 h2 h3 h4 ih1 ih2 =>
    intro hp
    have l0 := signF_le h1 hp
    have l0' := signF_le h2 l0
    obtain ⟨l1, r1⟩ := ih1 l0'
    obtain ⟨l2, r2⟩ := ih2 l1
    refine ⟨l2, fun Φ hΦ => ?_⟩
    refine fn_of (E := E72 (fun st => st = hd72 s row col p 0) (fun st => st = hp72 s row col p2 a) s row col p1 p2 p3 a t false) (envOK trivial ⟨callE_ok (fun _ => r1), trivial⟩ trivial) nt72 nd72 ?_ ?_
    · intro b sp hl st k hk
      rcases look_two rfl hl with ⟨rfl, rfl⟩ | ⟨rfl, rfl⟩
      · refine loopS_ok (fun st hst K hK => ?_) hk
        subst hst
        refine round_of (E := E72b s row col p p0 p0 false [45] a) (envOK trivial ⟨sign_ok s row col hs hp (by simp) h1, callE_ok (fun h => by cases h), trivial⟩ trivial) nt72 rfl (L := fun st => st = hd72 s row col p0 1) (ks := [0, 2, 6, 7, 8]) (bs := [2]) (ks2 := [0, 2]) (bs2 := [2]) ?_ (fun st hst => ?_)
        · rw [vc72_0]
          exact ⟨⟨trivial, rfl, rfl⟩, rfl⟩
        · subst hst
          refine round_of (E := E72b s row col p0 p1 p1 false [43] a) (envOK trivial ⟨sign_ok s row col hs l0 (by simp) h2, callE_ok (fun h => by cases h), trivial⟩ trivial) nt72 rfl (L := fun st => st = hd72 s row col p1 2) (ks := [0, 2, 6, 7, 8]) (bs := [2]) (ks2 := [0, 2]) (bs2 := [2]) ?_ (fun st hst => ?_)
          · rw [vc72_1]
            exact ⟨⟨trivial, rfl, rfl⟩, rfl⟩
          · subst hst
            refine round_of (E := {}) (envOK trivial trivial trivial) nt72 rfl (L := fun st => False) (ks := [0, 2, 6, 7, 8]) (bs := [2]) (ks2 := [0, 2]) (bs2 := [2]) ?_ (fun _ h => h.elim)
            rw [vc72_2]
            exact hK
      · exact loopS_ok (fun st hst K hK => by subst hst; exact r2 K hK) hk
    · rw [vc72]
      exact ⟨rfl, ⟨rfl, rfl, rfl⟩, rfl, hΦ⟩
  | @pc0 acc p p1 h1 =>
    intro hp
    refine ⟨signF_le h1 hp, fun K hK => ?_⟩
    refine round_of (E := E72p s row col p p1 false) (envOK trivial ⟨sign_ok s row col hs hp (by simp) h1, trivial⟩ trivial) nt72 rfl (L := fun _ => False) (ks := [0, 2, 5]) (bs := [2, 5]) (ks2 := [2, 5]) (bs2 := [2, 5]) ?_ (fun _ h => h.elim)
    rw [vc72_p]
    exact ⟨⟨trivial, rfl, rfl⟩, hK⟩
  | @pc1 acc p p1 t p2 h1 h2 ih =>
    intro hp
    obtain ⟨l1, r1⟩ := ih (signF_le h1 hp)
    refine ⟨l1, fun K hK => ?_⟩
    refine round_of (E := E72p s row col p p1 true) (envOK trivial ⟨sign_ok s row col hs hp (by simp) h1, trivial⟩ trivial) nt72 rfl (L := fun st => st = hp72 s row col p1 (unT 3 acc)) (ks := [0, 2, 5]) (bs := [2, 5]) (ks2 := [2, 5]) (bs2 := [2, 5]) ?_ (fun st hst => by subst hst; exact r1 K hK)
    rw [vc72_p]
    refine ⟨⟨trivial, rfl, rfl⟩, ?_⟩
    simp only [hp72, unT, Tr.cells, Tr.cellsK, Tr.encs, Tr.kids, Tr.enc_eq]
    rfl
  | @leaf p q t p2 h1 h2 => exact fun hp => hleaf p q t p2 hp h1 h2
  | @paren p q u p1 p2 h1 h2 h3 h4 h5 ih =>
    intro hp
    obtain ⟨l1, r1⟩ := ih h2
    refine ⟨signF_le h5 l1, fun Φ hΦ => ?_⟩
    refine fn_of0 (E := E108 s row col p q p1 p2 u u False False False False True) (envOK ⟨callE_ok fun _ Φ hΦ => go36 s hs row col 0 0 p Φ (by rw [h1]; exact hΦ), noCall_ok, callE_ok fun h => h.elim, callE_ok fun h => h.elim, callE_ok fun h => h.elim, callE_ok fun h => h.elim, callE_ok fun _ => ?_, callE_ok fun _ => go148 s row col hs l1 h5, trivial⟩ trivial trivial) rfl ?_
    · rw [← cast_succ]; exact r1
    · rw [vc108]
      unfold byt at h3
      rw [h3]
      refine ⟨⟨trivial, rfl, rfl⟩, brB_of (fun h => ?_) fun _ => obB_of (decide_eq_true h2) ?_⟩
      · have := of_decide_eq_true h; omega
      · refine obB_of (inR64 (by omega)) ⟨⟨trivial, rfl, rfl⟩, ⟨trivial, rfl, rfl⟩, ?_⟩
        simp only [paT, Tr.dv, Tr.cells, Tr.cellsK, Tr.encs, Tr.kids, Tr.enc_eq] at hΦ
        exact hΦ
  | @call p q op p1 t p2 h1 h2 h3 ih =>
    intro hp
    obtain ⟨l1, r1⟩ := hhead p q op p1 hp h1 h2
    obtain ⟨l2, r2⟩ := ih l1
    exact ⟨l2, r1 t p2 r2⟩
  | @call0 op p p1 p2 h1 h2 =>
    intro hp
    have l1 := signF_le h1 hp
    refine ⟨signF_le h2 l1, fun Φ hΦ => ?_⟩
    refine go_wk (WkL.refl _) (fn_of (E := E183 (fun st => False) s row col p p1 p2 p2 op true [] 0) (envOK trivial ⟨sign_ok s row col hs hp (by simp) h1, sign_ok s row col hs l1 (by simp) h2, trivial⟩ trivial) nt183 nd183 ?_ ?_)
    · intro b sp hl st k hk
      obtain ⟨rfl, rfl⟩ := look_one rfl hl
      exact loopS_ok (fun st hst K hK => hst.elim) hk
    · rw [vc183]
      exact ⟨⟨trivial, rfl, rfl⟩, ⟨trivial, rfl, rfl⟩, _, .inr (wk_cells (caT op []) 18), hΦ⟩
  | @call1 op p p1 p2 t p3 h1 h2 h3 ih =>
    intro hp
    have l1 := signF_le h1 hp
    obtain ⟨l2, e1, e2, r⟩ := ih (signF_le h2 l1)
    refine ⟨l2, fun Φ hΦ => ?_⟩
    refine fn_of (E := E183 (fun st => st = hd183_0 s row col p2 op) s row col p p1 p2 p3 op false (Tr.encs t.kids) t.kids.length) (envOK trivial ⟨sign_ok s row col hs hp (by simp) h1, sign_ok s row col hs l1 (by simp) h2, trivial⟩ trivial) nt183 nd183 ?_ ?_
    · intro b sp hl st k hk
      obtain ⟨rfl, rfl⟩ := look_one rfl hl
      exact loopS_ok (fun st hst K hK => by subst hst; exact r K hK) hk
    · rw [vc183]
      refine ⟨⟨trivial, rfl, rfl⟩, ⟨trivial, rfl, rfl⟩, rfl, obB_of (by simp [Tr.encs_len]) ?_⟩
      have : List.take t.kids.length (Tr.encs t.kids) = Tr.encs t.kids := by rw [← Tr.encs_len, List.take_length]
      rw [this]
      have e3 : (DV.agg ((caT op []).cellsK (.psl 18 (Tr.encs t.kids)))) = t.dv := by
        conv => rhs; rw [e1]
        rfl
      rw [e3]; exact hΦ
  | @arg1 op acc p c p1 p2 t p3 h0 h1 h2 h3 ih1 ih2 =>
    intro hp
    obtain ⟨l1, r1⟩ := ih1 hp
    obtain ⟨l2, e1, e2, r⟩ := ih2 (signF_le h2 l1)
    refine ⟨l2, e1, e2, fun K hK => ?_⟩
    cases acc with
    | nil =>
      refine round_of (E := E183b s row col p p1 p2 p2 c true) (envOK trivial ⟨callE_ok fun _ => r1, sign_ok s row col hs l1 (by simp) h2, callE_ok (fun h => by cases h), trivial⟩ trivial) nt183 rfl
        (L := fun st => st = hd183_1 s row col p2 op (Tr.encs [c]) 1) (ks := [0, 4, 5]) (bs := [4, 5, 23]) (ks2 := [4, 5]) (bs2 := [4, 5, 23]) ?_ (fun st hst => by subst hst; exact r K hK)
      rw [vc183_0]
      refine ⟨⟨trivial, rfl, rfl⟩, ⟨trivial, rfl, rfl⟩, ?_⟩
      simp only [hd183_1, Tr.encs, Tr.enc_eq]; rfl
    | cons x l =>
      refine round_of (E := E183b s row col p p1 p2 p2 c true) (envOK trivial ⟨callE_ok fun _ => r1, sign_ok s row col hs l1 (by simp) h2, callE_ok (fun h => by cases h), trivial⟩ trivial) nt183 rfl
        (L := fun st => st = hd183_1 s row col p2 op (Tr.encs (x :: l ++ [c])) (x :: l ++ [c]).length) (ks := [0, 4, 5]) (bs := [4, 5, 23]) (ks2 := [4, 5]) (bs2 := [4, 5, 23]) ?_ (fun st hst => by subst hst; exact r K hK)
      rw [vc183_1]
      refine ⟨⟨trivial, rfl, rfl⟩, obB_of (by simp [Tr.encs_len]) (obB_of (roomy_of (by omega) (by omega)) ⟨⟨trivial, rfl, rfl⟩, ?_⟩)⟩
      rw [show List.take (x :: l).length (Tr.encs (x :: l)) = Tr.encs (x :: l) by rw [← Tr.encs_len, List.take_length]]
      rw [show Tr.encs (x :: l) ++ [c.dv] = Tr.encs (x :: l ++ [c]) by simp [Tr.encs_eq, Tr.enc_eq]]
      rw [show (x :: l ++ [c]).length = (x :: l).length + 1 by simp]
      rfl
  | @arg0 op acc p c p1 p2 p3 h0 h1 h2 h3 ih =>
    intro hp
    obtain ⟨l1, r1⟩ := ih hp
    have l2 := signF_le h2 l1
    refine ⟨signF_le h3 l2, rfl, by simp [caT, Tr.kids], fun K hK => ?_⟩
    cases acc with
    | nil =>
      refine round_of (E := E183b s row col p p1 p2 p3 c false) (envOK trivial ⟨callE_ok fun _ => r1, sign_ok s row col hs l1 (by simp) h2, callE_ok (fun _ => go148 s row col hs l2 h3), trivial⟩ trivial) nt183 rfl
        (L := fun st => False) (ks := [0, 4, 5]) (bs := [4, 5, 23]) (ks2 := [4, 5]) (bs2 := [4, 5, 23]) ?_ (fun _ h => h.elim)
      rw [vc183_0]
      refine ⟨⟨trivial, rfl, rfl⟩, ⟨trivial, rfl, rfl⟩, ⟨rfl, rfl, rfl⟩, ?_⟩
      simp only [F183, caT, Tr.kids, List.nil_append, Tr.encs, Tr.enc_eq] at hK
      exact hK
    | cons x l =>
      refine round_of (E := E183b s row col p p1 p2 p3 c false) (envOK trivial ⟨callE_ok fun _ => r1, sign_ok s row col hs l1 (by simp) h2, callE_ok (fun _ => go148 s row col hs l2 h3), trivial⟩ trivial) nt183 rfl
        (L := fun st => False) (ks := [0, 4, 5]) (bs := [4, 5, 23]) (ks2 := [4, 5]) (bs2 := [4, 5, 23]) ?_ (fun _ h => h.elim)
      rw [vc183_1]
      refine ⟨⟨trivial, rfl, rfl⟩, obB_of (by simp [Tr.encs_len]) (obB_of (roomy_of (by omega) (by omega)) ⟨⟨trivial, rfl, rfl⟩, ⟨rfl, rfl, rfl⟩, ?_⟩)⟩
      rw [show List.take (x :: l).length (Tr.encs (x :: l)) = Tr.encs (x :: l) by rw [← Tr.encs_len, List.take_length]]
      rw [show Tr.encs (x :: l) ++ [c.dv] = Tr.encs (x :: l ++ [c]) by simp [Tr.encs_eq, Tr.enc_eq]]
      have e : (caT op (x :: l ++ [c])).kids.length = (x :: l).length + 1 := by simp [caT, Tr.kids]
      unfold F183 at hK
      rw [e] at hK
      exact hK
end
end Go.Det.Sea
end

section
set_option linter.unusedVariables false
set_option linter.unusedSimpArgs false
namespace Go.Det.Sea
open Go Go.Det

theorem vc52 (t : Tr) (d : Int) (Φ : DV → List Blk → Prop) : (vcF cfg E0 52 [ndv t d] [] Φ) =
    (Φ (DV.bool (decide (d > (16 : Int)))) []) := by kernel_rfl
theorem vc87 (a b c : Int) (Φ : DV → List Blk → Prop) : (vcF cfg E0 87 [.int .i64 a, .int .i64 b, .int .i64 c] [] Φ) =
    (Φ (DV.bool (decide (a ≥ b) && decide (a ≤ c))) []) := by kernel_rfl
def E132 (r : Rf) (g : Bool) : Env := { cs := [(24, callG True [.agg [.int .i64 r.row, .int .i64 r.col]] (.bool g))] }
theorem vc132 (r : Rf) (g : Bool) (Φ : DV → List Blk → Prop) : (vcF cfg (E132 r g) 132 [r.dv] [] Φ) =
    (True ∧ [DV.agg [DV.int IntKind.i64 r.row, DV.int IntKind.i64 r.col]] = [DV.agg [DV.int IntKind.i64 r.row, DV.int IntKind.i64 r.col]] ∧ brB (!g) (Φ (DV.int IntKind.i64 (12 : Int)) []) (Φ (DV.int IntKind.i64 (0 : Int)) [])) := by kernel_rfl
def E90 (a b : Rf) (x y : Int) : Env := { ss := [(5, 132, callG True [a.dv] (.int .i64 x)), (8, 132, callG True [b.dv] (.int .i64 y))] }
theorem vc90 (a b : Rf) (x y : Int) (Φ : DV → List Blk → Prop) : (vcF cfg (E90 a b x y) 90 [.agg (a.cells ++ b.cells)] [] Φ) =
    (True ∧ [Rf.dv a] = [Rf.dv a] ∧ True ∧ [Rf.dv b] = [Rf.dv b] ∧ Φ (DV.int IntKind.i64 (if true = true then if y > x then y else x else if y < x then y else x)) []) := by kernel_rfl
theorem vc128 (t : Tr) (Φ : DV → List Blk → Prop) : (vcF cfg E0 128 [t.dv] [] Φ) =
    (brB (Tr.kind t == (1 : Int)) (Φ (DV.agg [DV.int IntKind.i64 (Tr.kind t), DV.int IntKind.i64 (Tr.v t).kind, DV.int IntKind.i64 (Tr.v t).m, DV.int IntKind.i64 (Tr.v t).s, DV.str (Tr.v t).txt, DV.bool (Tr.v t).b, DV.int IntKind.i64 (Tr.v t).e, DV.int IntKind.i64 (0 : Int), DV.int IntKind.i64 (0 : Int), DV.bool false, DV.bool false, DV.int IntKind.i64 (0 : Int), DV.int IntKind.i64 (0 : Int), DV.bool false, DV.bool false, DV.int IntKind.i64 (0 : Int), DV.int IntKind.i64 (0 : Int), DV.nilsl]) []) (brB (Tr.kind t == (2 : Int)) (Φ (DV.agg [DV.int IntKind.i64 (Tr.kind t), DV.int IntKind.i64 (0 : Int), DV.int IntKind.i64 (0 : Int), DV.int IntKind.i64 (0 : Int), DV.str [], DV.bool false, DV.int IntKind.i64 (0 : Int), DV.int IntKind.i64 (Tr.a t).row, DV.int IntKind.i64 (Tr.a t).col, DV.bool (Tr.a t).rr, DV.bool (Tr.a t).rc, DV.int IntKind.i64 (0 : Int), DV.int IntKind.i64 (0 : Int), DV.bool false, DV.bool false, DV.int IntKind.i64 (0 : Int), DV.int IntKind.i64 (0 : Int), DV.nilsl]) []) (brB (Tr.kind t == (3 : Int)) (Φ (DV.agg [DV.int IntKind.i64 (Tr.kind t), DV.int IntKind.i64 (0 : Int), DV.int IntKind.i64 (0 : Int), DV.int IntKind.i64 (0 : Int), DV.str [], DV.bool false, DV.int IntKind.i64 (0 : Int), DV.int IntKind.i64 (Tr.a t).row, DV.int IntKind.i64 (Tr.a t).col, DV.bool (Tr.a t).rr, DV.bool (Tr.a t).rc, DV.int IntKind.i64 (Tr.b t).row, DV.int IntKind.i64 (Tr.b t).col, DV.bool (Tr.b t).rr, DV.bool (Tr.b t).rc, DV.int IntKind.i64 (0 : Int), DV.int IntKind.i64 (0 : Int), DV.nilsl]) []) (brB (Tr.kind t == (4 : Int)) (Φ (DV.agg [DV.int IntKind.i64 (Tr.kind t), DV.int IntKind.i64 (0 : Int), DV.int IntKind.i64 (0 : Int), DV.int IntKind.i64 (0 : Int), DV.str [], DV.bool false, DV.int IntKind.i64 (0 : Int), DV.int IntKind.i64 (Tr.a t).row, DV.int IntKind.i64 (Tr.a t).col, DV.bool (Tr.a t).rr, DV.bool (Tr.a t).rc, DV.int IntKind.i64 (0 : Int), DV.int IntKind.i64 (0 : Int), DV.bool false, DV.bool false, DV.int IntKind.i64 (Tr.sheet t), DV.int IntKind.i64 (0 : Int), DV.nilsl]) []) (brB (Tr.kind t == (5 : Int)) (Φ (DV.agg [DV.int IntKind.i64 (Tr.kind t), DV.int IntKind.i64 (0 : Int), DV.int IntKind.i64 (0 : Int), DV.int IntKind.i64 (0 : Int), DV.str [], DV.bool false, DV.int IntKind.i64 (0 : Int), DV.int IntKind.i64 (Tr.a t).row, DV.int IntKind.i64 (Tr.a t).col, DV.bool (Tr.a t).rr, DV.bool (Tr.a t).rc, DV.int IntKind.i64 (Tr.b t).row, DV.int IntKind.i64 (Tr.b t).col, DV.bool (Tr.b t).rr, DV.bool (Tr.b t).rc, DV.int IntKind.i64 (Tr.sheet t), DV.int IntKind.i64 (0 : Int), DV.nilsl]) []) (brB (Tr.kind t == (6 : Int)) (Φ (DV.agg [DV.int IntKind.i64 (Tr.kind t), DV.int IntKind.i64 (0 : Int), DV.int IntKind.i64 (0 : Int), DV.int IntKind.i64 (0 : Int), DV.str [], DV.bool false, DV.int IntKind.i64 (0 : Int), DV.int IntKind.i64 (0 : Int), DV.int IntKind.i64 (0 : Int), DV.bool false, DV.bool false, DV.int IntKind.i64 (0 : Int), DV.int IntKind.i64 (0 : Int), DV.bool false, DV.bool false, DV.int IntKind.i64 (0 : Int), DV.int IntKind.i64 (Tr.op t), DV.nilsl]) []) (brB (Tr.kind t == (7 : Int)) (brB (Tr.kind t == (7 : Int)) (Φ (DV.agg [DV.int IntKind.i64 (Tr.kind t), DV.int IntKind.i64 (0 : Int), DV.int IntKind.i64 (0 : Int), DV.int IntKind.i64 (0 : Int), DV.str [], DV.bool false, DV.int IntKind.i64 (0 : Int), DV.int IntKind.i64 (0 : Int), DV.int IntKind.i64 (0 : Int), DV.bool false, DV.bool false, DV.int IntKind.i64 (0 : Int), DV.int IntKind.i64 (0 : Int), DV.bool false, DV.bool false, DV.int IntKind.i64 (0 : Int), DV.int IntKind.i64 (Tr.op t), DV.psl 18 (Tr.encs (Tr.kids t))]) []) (Φ (DV.agg [DV.int IntKind.i64 (Tr.kind t), DV.int IntKind.i64 (0 : Int), DV.int IntKind.i64 (0 : Int), DV.int IntKind.i64 (0 : Int), DV.str [], DV.bool false, DV.int IntKind.i64 (0 : Int), DV.int IntKind.i64 (0 : Int), DV.int IntKind.i64 (0 : Int), DV.bool false, DV.bool false, DV.int IntKind.i64 (0 : Int), DV.int IntKind.i64 (0 : Int), DV.bool false, DV.bool false, DV.int IntKind.i64 (0 : Int), DV.int IntKind.i64 (0 : Int), DV.psl 18 (Tr.encs (Tr.kids t))]) [])) (brB (Tr.kind t == (8 : Int)) (brB (Tr.kind t == (8 : Int)) (Φ (DV.agg [DV.int IntKind.i64 (Tr.kind t), DV.int IntKind.i64 (0 : Int), DV.int IntKind.i64 (0 : Int), DV.int IntKind.i64 (0 : Int), DV.str [], DV.bool false, DV.int IntKind.i64 (0 : Int), DV.int IntKind.i64 (0 : Int), DV.int IntKind.i64 (0 : Int), DV.bool false, DV.bool false, DV.int IntKind.i64 (0 : Int), DV.int IntKind.i64 (0 : Int), DV.bool false, DV.bool false, DV.int IntKind.i64 (0 : Int), DV.int IntKind.i64 (Tr.op t), DV.psl 18 (Tr.encs (Tr.kids t))]) []) (Φ (DV.agg [DV.int IntKind.i64 (Tr.kind t), DV.int IntKind.i64 (0 : Int), DV.int IntKind.i64 (0 : Int), DV.int IntKind.i64 (0 : Int), DV.str [], DV.bool false, DV.int IntKind.i64 (0 : Int), DV.int IntKind.i64 (0 : Int), DV.int IntKind.i64 (0 : Int), DV.bool false, DV.bool false, DV.int IntKind.i64 (0 : Int), DV.int IntKind.i64 (0 : Int), DV.bool false, DV.bool false, DV.int IntKind.i64 (0 : Int), DV.int IntKind.i64 (0 : Int), DV.psl 18 (Tr.encs (Tr.kids t))]) [])) (brB (Tr.kind t == (9 : Int)) (Φ (DV.agg [DV.int IntKind.i64 (Tr.kind t), DV.int IntKind.i64 (0 : Int), DV.int IntKind.i64 (0 : Int), DV.int IntKind.i64 (0 : Int), DV.str [], DV.bool false, DV.int IntKind.i64 (0 : Int), DV.int IntKind.i64 (0 : Int), DV.int IntKind.i64 (0 : Int), DV.bool false, DV.bool false, DV.int IntKind.i64 (0 : Int), DV.int IntKind.i64 (0 : Int), DV.bool false, DV.bool false, DV.int IntKind.i64 (0 : Int), DV.int IntKind.i64 (Tr.op t), DV.psl 18 (Tr.encs (Tr.kids t))]) []) (Φ (DV.agg [DV.int IntKind.i64 (Tr.kind t), DV.int IntKind.i64 (0 : Int), DV.int IntKind.i64 (0 : Int), DV.int IntKind.i64 (0 : Int), DV.str [], DV.bool false, DV.int IntKind.i64 (0 : Int), DV.int IntKind.i64 (0 : Int), DV.int IntKind.i64 (0 : Int), DV.bool false, DV.bool false, DV.int IntKind.i64 (0 : Int), DV.int IntKind.i64 (0 : Int), DV.bool false, DV.bool false, DV.int IntKind.i64 (0 : Int), DV.int IntKind.i64 (0 : Int), DV.psl 18 (Tr.encs (Tr.kids t))]) [])))))))))) := by kernel_rfl
def E88 (t o : Tr) : Env := { cs := [(128, callG True [t.dv] o.dv)] }
theorem vc88 (t o : Tr) (Φ : DV → List Blk → Prop) : (vcF cfg (E88 t o) 88 [t.dv] [] Φ) =
    (True ∧ [Tr.dv t] = [Tr.dv t] ∧ Φ (DV.bool ((Tr.v o).kind == (Tr.v t).kind && ((Tr.v o).m == (Tr.v t).m && ((Tr.v o).s == (Tr.v t).s && true) && ((Tr.v o).txt == (Tr.v t).txt && ((Tr.v o).b == (Tr.v t).b && ((Tr.v o).e == (Tr.v t).e && true)))) && ((Tr.a o).row == (Tr.a t).row && ((Tr.a o).col == (Tr.a t).col && ((Tr.a o).rr == (Tr.a t).rr && ((Tr.a o).rc == (Tr.a t).rc && true))) && ((Tr.b o).row == (Tr.b t).row && ((Tr.b o).col == (Tr.b t).col && ((Tr.b o).rr == (Tr.b t).rr && ((Tr.b o).rc == (Tr.b t).rc && true))) && true)) && Tr.sheet o == Tr.sheet t && Tr.op o == Tr.op t && (↑(List.length (Tr.encs (Tr.kids o))) : Int) == (↑(List.length (Tr.encs (Tr.kids t))) : Int))) []) := by kernel_rfl
theorem vc130 (m s : Int) (Φ : DV → List Blk → Prop) : (vcF cfg E0 130 [.agg [.int .i64 m, .int .i64 s]] [] Φ) =
    (brB (decide (s < (0 : Int)) || decide (s > (9 : Int)) || decide (s > (0 : Int)) && Int.tmod m (10 : Int) == (0 : Int)) (Φ (DV.int IntKind.i64 (1 : Int)) []) (Φ (DV.int IntKind.i64 (0 : Int)) [])) := by kernel_rfl
theorem vc131 (e : Int) (Φ : DV → List Blk → Prop) : (vcF cfg E0 131 [.int .i64 e] [] Φ) =
    (brB (e == (0 : Int)) (Φ (DV.str [(35 : UInt8), (78 : UInt8), (85 : UInt8), (76 : UInt8), (76 : UInt8), (33 : UInt8)]) []) (brB (e == (7 : Int)) (Φ (DV.str [(35 : UInt8), (68 : UInt8), (73 : UInt8), (86 : UInt8), (47 : UInt8), (48 : UInt8), (33 : UInt8)]) []) (brB (e == (15 : Int)) (Φ (DV.str [(35 : UInt8), (86 : UInt8), (65 : UInt8), (76 : UInt8), (85 : UInt8), (69 : UInt8), (33 : UInt8)]) []) (brB (e == (23 : Int)) (Φ (DV.str [(35 : UInt8), (82 : UInt8), (69 : UInt8), (70 : UInt8), (33 : UInt8)]) []) (brB (e == (29 : Int)) (Φ (DV.str [(35 : UInt8), (78 : UInt8), (65 : UInt8), (77 : UInt8), (69 : UInt8), (63 : UInt8)]) []) (brB (e == (36 : Int)) (Φ (DV.str [(35 : UInt8), (78 : UInt8), (85 : UInt8), (77 : UInt8), (33 : UInt8)]) []) (brB (e == (42 : Int)) (Φ (DV.str [(35 : UInt8), (78 : UInt8), (47 : UInt8), (65 : UInt8)]) []) (Φ (DV.str []) [])))))))) := by kernel_rfl
def E129 : Env := { cs := [(164, fun xs ex k => match xs, ex with | [.int .i64 n], [] => k (.agg [.int .i64 4, .int .i64 0, .int .i64 0, .str [], .bool false, .int .i64 n]) [] | _, _ => False)] }
theorem vc164 (e : Int) (Φ : DV → List Blk → Prop) : (vcF cfg E0 164 [.int .i64 e] [] Φ) =
    (Φ (DV.agg [DV.int IntKind.i64 (4 : Int), DV.int IntKind.i64 (0 : Int), DV.int IntKind.i64 (0 : Int), DV.str [], DV.bool false, DV.int IntKind.i64 e]) []) := by kernel_rfl
theorem vc129 (v : Vl) (Φ : DV → List Blk → Prop) : (vcF cfg E129 129 [v.dv] [] Φ) =
    (brB (v.kind == (1 : Int)) (Φ (DV.agg [DV.int IntKind.i64 (1 : Int), DV.int IntKind.i64 v.m, DV.int IntKind.i64 v.s, DV.str [], DV.bool false, DV.int IntKind.i64 (0 : Int)]) []) (brB (v.kind == (2 : Int)) (Φ (DV.agg [DV.int IntKind.i64 (2 : Int), DV.int IntKind.i64 (0 : Int), DV.int IntKind.i64 (0 : Int), DV.str v.txt, DV.bool false, DV.int IntKind.i64 (0 : Int)]) []) (brB (v.kind == (3 : Int)) (Φ (DV.agg [DV.int IntKind.i64 (3 : Int), DV.int IntKind.i64 (0 : Int), DV.int IntKind.i64 (0 : Int), DV.str [], DV.bool v.b, DV.int IntKind.i64 (0 : Int)]) []) (brB (v.kind == (4 : Int)) (Φ (DV.agg [DV.int IntKind.i64 (4 : Int), DV.int IntKind.i64 (0 : Int), DV.int IntKind.i64 (0 : Int), DV.str [], DV.bool false, DV.int IntKind.i64 v.e]) []) (Φ (DV.agg [DV.int IntKind.i64 v.kind, DV.int IntKind.i64 (0 : Int), DV.int IntKind.i64 (0 : Int), DV.str [], DV.bool false, DV.int IntKind.i64 (0 : Int)]) []))))) := by kernel_rfl
def E89 (v o : Vl) (x un ue : Int) (nm : List UInt8) (g : Prop) : Env := { cs := [(129, callG True [v.dv] o.dv), (130, callG True [.agg [.int .i64 v.m, .int .i64 v.s]] (.int .i64 x)), (113, callG g [.str v.txt] (.tup [.int .i64 un, .int .i64 ue])), (131, callG True [.int .i64 v.e] (.str nm))], sp := [1] }
theorem vc89 (v o : Vl) (x un ue : Int) (nm : List UInt8) (g : Prop) (Φ : DV → List Blk → Prop) : (vcF cfg (E89 v o x un ue nm g) 89 [v.dv] [] Φ) =
    (brB (decide (v.kind < (0 : Int))) (Φ (DV.int IntKind.i64 (1 : Int)) []) (brB (decide (v.kind > (4 : Int))) (Φ (DV.int IntKind.i64 (1 : Int)) []) (True ∧ [Vl.dv v] = [Vl.dv v] ∧ brB (!(v.kind == o.kind && (v.m == o.m && (v.s == o.s && true) && (v.txt == o.txt && (v.b == o.b && (v.e == o.e && true)))))) (Φ (DV.int IntKind.i64 (1 : Int)) []) (brB (v.kind == (1 : Int)) (True ∧ [DV.agg [DV.int IntKind.i64 v.m, DV.int IntKind.i64 v.s]] = [DV.agg [DV.int IntKind.i64 v.m, DV.int IntKind.i64 v.s]] ∧ Φ (DV.int IntKind.i64 x) []) (brB (v.kind == (2 : Int)) (g ∧ [DV.str v.txt] = [DV.str v.txt] ∧ Φ (DV.int IntKind.i64 ue) []) (brB (v.kind == (4 : Int)) (True ∧ [DV.int IntKind.i64 v.e] = [DV.int IntKind.i64 v.e] ∧ brB (nm == #[].toList) (Φ (DV.int IntKind.i64 (1 : Int)) []) (Φ (DV.int IntKind.i64 (0 : Int)) [])) (Φ (DV.int IntKind.i64 (0 : Int)) []))))))) := by kernel_rfl
def withinS : Spec := fun xs ex k => match xs, ex with
  | [.int .i64 a, .int .i64 b, .int .i64 c], [] => k (.bool (decide (b ≤ a) && decide (a ≤ c))) []
  | _, _ => False
def E91 : Env := { cs := [(87, withinS)] }
theorem vc91 (t : Tr) (Φ : DV → List Blk → Prop) : (vcF cfg E91 91 [t.dv] [] Φ) =
    (brB (Tr.kind t == (6 : Int)) (Φ (DV.bool (decide ((0 : Int) ≤ Tr.op t) && decide (Tr.op t ≤ (1023 : Int)))) []) (brB (Tr.kind t == (7 : Int)) (Φ (DV.bool (decide ((1 : Int) ≤ Tr.op t) && decide (Tr.op t ≤ (3 : Int)) && (↑(List.length (Tr.encs (Tr.kids t))) : Int) == (1 : Int))) []) (brB (Tr.kind t == (8 : Int)) (Φ (DV.bool (decide ((1 : Int) ≤ Tr.op t) && decide (Tr.op t ≤ (12 : Int)) && (↑(List.length (Tr.encs (Tr.kids t))) : Int) == (2 : Int))) []) (brB (Tr.kind t == (9 : Int)) (Φ (DV.bool (decide ((0 : Int) ≤ Tr.op t) && decide (Tr.op t ≤ (29 : Int)) && decide ((↑(List.length (Tr.encs (Tr.kids t))) : Int) ≤ (30 : Int)))) []) (brB (Tr.kind t == (10 : Int)) (Φ (DV.bool ((↑(List.length (Tr.encs (Tr.kids t))) : Int) == (1 : Int))) []) (Φ (DV.bool true) [])))))) := by kernel_rfl
def E53 (t : Tr) (al co : Bool) (x y : Int) : Env := { cs := [(87, withinS), (88, callG True [t.dv] (.bool al)), (89, callG (t.kind = 1) [t.v.dv] (.int .i64 x)), (90, callG True [.agg (t.a.cells ++ t.b.cells)] (.int .i64 y)), (91, callG True [t.dv] (.bool co))], sp := [1, 12] }
theorem vc53 (t : Tr) (al co : Bool) (x y : Int) (Φ : DV → List Blk → Prop) : (vcF cfg (E53 t al co x y) 53 [t.dv] [] Φ) =
    (brB (!(decide ((1 : Int) ≤ Tr.kind t) && decide (Tr.kind t ≤ (10 : Int)))) (Φ (DV.int IntKind.i64 (1 : Int)) []) (True ∧ [Tr.dv t] = [Tr.dv t] ∧ brB (!al) (Φ (DV.int IntKind.i64 (1 : Int)) []) (brB (Tr.kind t == (1 : Int)) (Tr.kind t = (1 : Int) ∧ [Vl.dv (Tr.v t)] = [Vl.dv (Tr.v t)] ∧ brB (x != (0 : Int)) (Φ (DV.int IntKind.i64 x) []) (brB ((Tr.v t).kind == (0 : Int)) (Φ (DV.int IntKind.i64 (1 : Int)) []) (True ∧ [DV.agg [DV.int IntKind.i64 (Tr.a t).row, DV.int IntKind.i64 (Tr.a t).col, DV.bool (Tr.a t).rr, DV.bool (Tr.a t).rc, DV.int IntKind.i64 (Tr.b t).row, DV.int IntKind.i64 (Tr.b t).col, DV.bool (Tr.b t).rr, DV.bool (Tr.b t).rc]] = [DV.agg [DV.int IntKind.i64 (Tr.a t).row, DV.int IntKind.i64 (Tr.a t).col, DV.bool (Tr.a t).rr, DV.bool (Tr.a t).rc, DV.int IntKind.i64 (Tr.b t).row, DV.int IntKind.i64 (Tr.b t).col, DV.bool (Tr.b t).rr, DV.bool (Tr.b t).rc]] ∧ brB (y != (0 : Int)) (Φ (DV.int IntKind.i64 y) []) (brB (!(decide ((0 : Int) ≤ Tr.sheet t) && decide (Tr.sheet t ≤ (7 : Int)))) (Φ (DV.int IntKind.i64 (1 : Int)) []) (True ∧ [Tr.dv t] = [Tr.dv t] ∧ brB (!co) (Φ (DV.int IntKind.i64 (1 : Int)) []) (Φ (DV.int IntKind.i64 (0 : Int)) [])))))) (True ∧ [DV.agg [DV.int IntKind.i64 (Tr.a t).row, DV.int IntKind.i64 (Tr.a t).col, DV.bool (Tr.a t).rr, DV.bool (Tr.a t).rc, DV.int IntKind.i64 (Tr.b t).row, DV.int IntKind.i64 (Tr.b t).col, DV.bool (Tr.b t).rr, DV.bool (Tr.b t).rc]] = [DV.agg [DV.int IntKind.i64 (Tr.a t).row, DV.int IntKind.i64 (Tr.a t).col, DV.bool (Tr.a t).rr, DV.bool (Tr.a t).rc, DV.int IntKind.i64 (Tr.b t).row, DV.int IntKind.i64 (Tr.b t).col, DV.bool (Tr.b t).rr, DV.bool (Tr.b t).rc]] ∧ brB (y != (0 : Int)) (Φ (DV.int IntKind.i64 y) []) (brB (!(decide ((0 : Int) ≤ Tr.sheet t) && decide (Tr.sheet t ≤ (7 : Int)))) (Φ (DV.int IntKind.i64 (1 : Int)) []) (True ∧ [Tr.dv t] = [Tr.dv t] ∧ brB (!co) (Φ (DV.int IntKind.i64 (1 : Int)) []) (Φ (DV.int IntKind.i64 (0 : Int)) []))))))) := by kernel_rfl
-- IndexFunc, ContainsFunc
def hd86 (es : List DV) (n i : Nat) : St := mkS 19 [(0, .psl 19 es), (1, .fn (.func 52) [] []), (7, .int .i64 n), (8, .int .i64 i)] [] []
def F86 (k : Ex → St → Prop) (r : Bool) (i : Nat) : Prop := brB r (k .ret (mkS 19 [(4, .int .i64 i)] [] [])) (k (.exit 0) (mkS 19 [] [] []))
def E86 (L : St → Prop) (r : Bool) (i : Nat) : Env := { ls := [(0, loopS [0, 1, 7, 8] [] 19 L (fun k => F86 k r i))] }
def E86b (g : Prop) (t : Tr) (d : Int) (b : Bool) : Env := { ss := [(16, 52, callG g [ndv t d] (.bool b))], an := [(15, ndv t d)] }
theorem vc86 (es : List DV) (r : Bool) (i : Nat) (L : St → Prop) (Φ : DV → List Blk → Prop) : (vcF cfg (E86 L r i) 86 [.psl 19 es, .fn (.func 52) [] []] [] Φ) =
    (L (mkS 19 [(0, DV.psl 19 es), (1, DV.fn (Fn.func (52 : FuncId)) [] []), (7, DV.int IntKind.i64 (↑(List.length es) : Int)), (8, DV.int IntKind.i64 (0 : Int))] [] []) ∧ brB r (Φ (DV.int IntKind.i64 (↑i : Int)) []) (Φ (DV.int IntKind.i64 (-1 : Int)) [])) := by kernel_rfl
theorem vc86_1 (es : List DV) (g : Prop) (t : Tr) (d : Int) (b : Bool) (n i : Nat) (L : St → Prop) (K : Ex → St → Prop) : (vcB cfg (E86b g t d b) 86 0 (hd86 es n i) (bodyK L [0, 1, 7, 8] [] [4] [] 19 K)) =
    (brB (decide ((↑i : Int) < (↑n : Int))) (obB (decide (i < List.length es)) (es[Int.toNat (↑i : Int)]? = some (DV.agg [DV.int IntKind.i64 (Tr.kind t), DV.int IntKind.i64 (Tr.v t).kind, DV.int IntKind.i64 (Tr.v t).m, DV.int IntKind.i64 (Tr.v t).s, DV.str (Tr.v t).txt, DV.bool (Tr.v t).b, DV.int IntKind.i64 (Tr.v t).e, DV.int IntKind.i64 (Tr.a t).row, DV.int IntKind.i64 (Tr.a t).col, DV.bool (Tr.a t).rr, DV.bool (Tr.a t).rc, DV.int IntKind.i64 (Tr.b t).row, DV.int IntKind.i64 (Tr.b t).col, DV.bool (Tr.b t).rr, DV.bool (Tr.b t).rc, DV.int IntKind.i64 (Tr.sheet t), DV.int IntKind.i64 (Tr.op t), DV.psl 18 (Tr.encs (Tr.kids t)), DV.int IntKind.i64 d]) ∧ g ∧ [DV.agg [DV.int IntKind.i64 (Tr.kind t), DV.int IntKind.i64 (Tr.v t).kind, DV.int IntKind.i64 (Tr.v t).m, DV.int IntKind.i64 (Tr.v t).s, DV.str (Tr.v t).txt, DV.bool (Tr.v t).b, DV.int IntKind.i64 (Tr.v t).e, DV.int IntKind.i64 (Tr.a t).row, DV.int IntKind.i64 (Tr.a t).col, DV.bool (Tr.a t).rr, DV.bool (Tr.a t).rc, DV.int IntKind.i64 (Tr.b t).row, DV.int IntKind.i64 (Tr.b t).col, DV.bool (Tr.b t).rr, DV.bool (Tr.b t).rc, DV.int IntKind.i64 (Tr.sheet t), DV.int IntKind.i64 (Tr.op t), DV.psl 18 (Tr.encs (Tr.kids t)), DV.int IntKind.i64 d]] = [DV.agg [DV.int IntKind.i64 (Tr.kind t), DV.int IntKind.i64 (Tr.v t).kind, DV.int IntKind.i64 (Tr.v t).m, DV.int IntKind.i64 (Tr.v t).s, DV.str (Tr.v t).txt, DV.bool (Tr.v t).b, DV.int IntKind.i64 (Tr.v t).e, DV.int IntKind.i64 (Tr.a t).row, DV.int IntKind.i64 (Tr.a t).col, DV.bool (Tr.a t).rr, DV.bool (Tr.a t).rc, DV.int IntKind.i64 (Tr.b t).row, DV.int IntKind.i64 (Tr.b t).col, DV.bool (Tr.b t).rr, DV.bool (Tr.b t).rc, DV.int IntKind.i64 (Tr.sheet t), DV.int IntKind.i64 (Tr.op t), DV.psl 18 (Tr.encs (Tr.kids t)), DV.int IntKind.i64 d]] ∧ brB b (K Ex.ret (mkS 19 [(4, DV.int IntKind.i64 (↑i : Int))] [] [])) (obB (inR IntKind.i64 ((↑i : Int) + (1 : Int))) (L (mkS 19 [(0, DV.psl 19 es), (1, DV.fn (Fn.func (52 : FuncId)) [] []), (7, DV.int IntKind.i64 (↑n : Int)), (8, DV.int IntKind.i64 ((↑i : Int) + (1 : Int)))] [] []))))) (K (Ex.exit 0) (mkS 19 [] [] []))) := by kernel_rfl
def E51 (es : List DV) (i : Int) : Env := { cs := [(86, callG True [.psl 19 es, .fn (.func 52) [] []] (.int .i64 i))] }
theorem vc51 (es : List DV) (i : Int) (Φ : DV → List Blk → Prop) : (vcF cfg (E51 es i) 51 [.psl 19 es, .fn (.func 52) [] []] [] Φ) =
    (True ∧ [DV.psl 19 es, DV.fn (Fn.func (52 : FuncId)) [] []] = [DV.psl 19 es, DV.fn (Fn.func (52 : FuncId)) [] []] ∧ Φ (DV.bool (decide (i ≥ (0 : Int)))) []) := by kernel_rfl
-- Check
def hd29 (es : List DV) (n i : Nat) : St := mkS 27 [(14, .psl 19 es), (15, .int .i64 n), (16, .int .i64 i)] [] []
def F29 (k : Ex → St → Prop) (r : Bool) (f : Int) : Prop := brB r (k .ret (mkS 27 [(2, .int .i64 f)] [] [])) (k (.exit 0) (mkS 27 [] [] []))
def E29 (L : St → Prop) (t : Tr) (es : List DV) (deep r : Bool) (f : Int) : Env := { cs := [(48, callG True [t.dv] (.psl 19 es)), (51, callG True [.psl 19 es, .fn (.func 52) [] []] (.bool deep))], ls := [(0, loopS [14, 15, 16] [] 27 L (fun k => F29 k r f))] }
def E29b (g : Prop) (t : Tr) (d f : Int) : Env := { ss := [(22, 53, callG g [t.dv] (.int .i64 f))], an := [(19, ndv t d)] }
theorem vc29 (t : Tr) (es : List DV) (deep r : Bool) (f : Int) (L : St → Prop) (Φ : DV → List Blk → Prop) : (vcF cfg (E29 L t es deep r f) 29 [t.dv] [] Φ) =
    (True ∧ [Tr.dv t] = [Tr.dv t] ∧ True ∧ [DV.psl 19 es, DV.fn (Fn.func 52) [] []] = [DV.psl 19 es, DV.fn (Fn.func (52 : FuncId)) [] []] ∧ brB deep (Φ (DV.int IntKind.i64 (11 : Int)) []) (brB (decide ((↑(List.length es) : Int) > (1024 : Int))) (Φ (DV.int IntKind.i64 (4 : Int)) []) (L (mkS 27 [(14, DV.psl 19 es), (15, DV.int IntKind.i64 (↑(List.length es) : Int)), (16, DV.int IntKind.i64 (0 : Int))] [] []) ∧ brB r (Φ (DV.int IntKind.i64 f) []) (Φ (DV.int IntKind.i64 (0 : Int)) [])))) := by kernel_rfl
theorem vc29_1 (es : List DV) (g : Prop) (t : Tr) (d f : Int) (n i : Nat) (L : St → Prop) (K : Ex → St → Prop) : (vcB cfg (E29b g t d f) 29 0 (hd29 es n i) (bodyK L [14, 15, 16] [] [2] [] 27 K)) =
    (brB (decide ((↑i : Int) < (↑n : Int))) (obB (decide (i < List.length es)) (es[Int.toNat (↑i : Int)]? = some (DV.agg [DV.int IntKind.i64 (Tr.kind t), DV.int IntKind.i64 (Tr.v t).kind, DV.int IntKind.i64 (Tr.v t).m, DV.int IntKind.i64 (Tr.v t).s, DV.str (Tr.v t).txt, DV.bool (Tr.v t).b, DV.int IntKind.i64 (Tr.v t).e, DV.int IntKind.i64 (Tr.a t).row, DV.int IntKind.i64 (Tr.a t).col, DV.bool (Tr.a t).rr, DV.bool (Tr.a t).rc, DV.int IntKind.i64 (Tr.b t).row, DV.int IntKind.i64 (Tr.b t).col, DV.bool (Tr.b t).rr, DV.bool (Tr.b t).rc, DV.int IntKind.i64 (Tr.sheet t), DV.int IntKind.i64 (Tr.op t), DV.psl 18 (Tr.encs (Tr.kids t)), DV.int IntKind.i64 d]) ∧ g ∧ [Tr.dv t] = [Tr.dv t] ∧ brB (f != (0 : Int)) (K Ex.ret (mkS 27 [(2, DV.int IntKind.i64 f)] [] [])) (obB (inR IntKind.i64 ((↑i : Int) + (1 : Int))) (L (mkS 27 [(14, DV.psl 19 es), (15, DV.int IntKind.i64 (↑n : Int)), (16, DV.int IntKind.i64 ((↑i : Int) + (1 : Int)))] [] []))))) (K (Ex.exit 0) (mkS 27 [] [] []))) := by kernel_rfl
end Go.Det.Sea
end

section
set_option linter.unusedVariables false
set_option linter.unusedSimpArgs false
namespace Go.Det.Sea
open Go Go.Det

/-! What expr.Check says of a tree. -/
def withinB (n lo hi : Int) : Bool := decide (lo ≤ n) && decide (n ≤ hi)
def goodB (r c : Int) : Bool := decide (r ≥ 0) && decide (r < 65536) && decide (c ≥ 0) && decide (c < 256)
def refE (r : Rf) : Int := bif goodB r.row r.col then 0 else 12
def areaE (a b : Rf) : Int := if refE b > refE a then refE b else refE a
def ownT (t : Tr) : Tr :=
  bif t.kind == 1 then .mk t.kind t.v r0 r0 0 0 [] else
  bif t.kind == 2 then .mk t.kind v0 t.a r0 0 0 [] else
  bif t.kind == 3 then .mk t.kind v0 t.a t.b 0 0 [] else
  bif t.kind == 4 then .mk t.kind v0 t.a r0 t.sheet 0 [] else
  bif t.kind == 5 then .mk t.kind v0 t.a t.b t.sheet 0 [] else
  bif t.kind == 6 then .mk t.kind v0 r0 r0 0 t.op [] else
  bif t.kind == 7 then .mk t.kind v0 r0 r0 0 t.op t.kids else
  bif t.kind == 8 then .mk t.kind v0 r0 r0 0 t.op t.kids else
  bif t.kind == 9 then .mk t.kind v0 r0 r0 0 t.op t.kids else
  .mk t.kind v0 r0 r0 0 0 t.kids
def vlEq (a b : Vl) : Bool := a.kind == b.kind && (a.m == b.m && (a.s == b.s && true) && (a.txt == b.txt && (a.b == b.b && (a.e == b.e && true))))
def rfEq (a b : Rf) : Bool := a.row == b.row && (a.col == b.col && (a.rr == b.rr && (a.rc == b.rc && true)))
def aloneB (o t : Tr) : Bool := vlEq o.v t.v && (rfEq o.a t.a && (rfEq o.b t.b && true)) && o.sheet == t.sheet && o.op == t.op && ((o.kids.length : Int) == (t.kids.length : Int))
def decE (m s : Int) : Int := bif decide (s < 0) || decide (s > 9) || decide (s > 0) && Int.tmod m 10 == 0 then 1 else 0
def nameF (e : Int) : List UInt8 :=
  bif e == 0 then [35, 78, 85, 76, 76, 33] else bif e == 7 then [35, 68, 73, 86, 47, 48, 33] else bif e == 15 then [35, 86, 65, 76, 85, 69, 33] else
  bif e == 23 then [35, 82, 69, 70, 33] else bif e == 29 then [35, 78, 65, 77, 69, 63] else bif e == 36 then [35, 78, 85, 77, 33] else bif e == 42 then [35, 78, 47, 65] else []
def ownV (v : Vl) : Vl :=
  bif v.kind == 1 then ⟨1, v.m, v.s, [], false, 0⟩ else bif v.kind == 2 then ⟨2, 0, 0, v.txt, false, 0⟩ else bif v.kind == 3 then ⟨3, 0, 0, [], v.b, 0⟩ else
  bif v.kind == 4 then ⟨4, 0, 0, [], false, v.e⟩ else ⟨v.kind, 0, 0, [], false, 0⟩
def valE (uE : List UInt8 → Int) (v : Vl) : Int :=
  bif decide (v.kind < 0) then 1 else bif decide (v.kind > 4) then 1 else bif !vlEq v (ownV v) then 1 else
  bif v.kind == 1 then decE v.m v.s else bif v.kind == 2 then uE v.txt else bif v.kind == 4 then (bif nameF v.e == [] then 1 else 0) else 0
def countsB (t : Tr) : Bool :=
  bif t.kind == 6 then decide (0 ≤ t.op) && decide (t.op ≤ 1023) else
  bif t.kind == 7 then decide (1 ≤ t.op) && decide (t.op ≤ 3) && (t.kids.length : Int) == 1 else
  bif t.kind == 8 then decide (1 ≤ t.op) && decide (t.op ≤ 12) && (t.kids.length : Int) == 2 else
  bif t.kind == 9 then decide (0 ≤ t.op) && decide (t.op ≤ 29) && decide ((t.kids.length : Int) ≤ 30) else
  bif t.kind == 10 then (t.kids.length : Int) == 1 else true
def restE (t : Tr) : Int := bif areaE t.a t.b != 0 then areaE t.a t.b else bif !withinB t.sheet 0 7 then 1 else bif !countsB t then 1 else 0
def partE (uE : List UInt8 → Int) (t : Tr) : Int :=
  bif !withinB t.kind 1 10 then 1 else bif !aloneB (ownT t) t then 1 else
  bif t.kind == 1 then (bif valE uE t.v != 0 then valE uE t.v else bif t.v.kind == 0 then 1 else restE t) else restE t
def firstE (uE : List UInt8 → Int) : List (Tr × Int) → Int
  | [] => 0
  | p :: l => bif partE uE p.1 != 0 then partE uE p.1 else firstE uE l
def checkE (uE : List UInt8 → Int) (t : Tr) : Int :=
  bif (t.pre 1).any (fun p => decide (p.2 > 16)) then 11 else bif decide (((t.pre 1).length : Int) > 1024) then 4 else firstE uE (t.pre 1)

section
variable {Pr Ow : Nat → List DV → DV → Prop}
theorem go24 (r c : Int) (Φ : DV → List Blk → Prop) (h : Φ (.bool (goodB r c)) []) : GoC cfg Pr Ow 24 [.agg [.int .i64 r, .int .i64 c]] [] Φ := by
  refine fn_of0 E0_ok rfl ?_
  rw [vc24]; exact h
theorem go132 (r : Rf) (Φ : DV → List Blk → Prop) (h : Φ (.int .i64 (refE r)) []) : GoC cfg Pr Ow 132 [r.dv] [] Φ := by
  refine fn_of0 (E := E132 r (goodB r.row r.col)) (envOK ⟨callG_ok fun _ => go24 _ _, trivial⟩ trivial trivial) rfl ?_
  rw [vc132]
  refine ⟨trivial, rfl, ?_⟩
  unfold refE at h
  cases hg : goodB r.row r.col <;> rw [hg] at h <;> exact h
theorem go90 (a b : Rf) (Φ : DV → List Blk → Prop) (h : Φ (.int .i64 (areaE a b)) []) : GoC cfg Pr Ow 90 [.agg (a.cells ++ b.cells)] [] Φ := by
  refine fn_of0 (E := E90 a b (refE a) (refE b)) (envOK trivial ⟨callG_ok fun _ => go132 _, callG_ok fun _ => go132 _, trivial⟩ trivial) rfl ?_
  rw [vc90]
  exact ⟨trivial, rfl, trivial, rfl, h⟩
theorem go87S : SpecOK cfg Pr Ow 87 withinS := by
  intro xs ex k h
  unfold withinS at h
  split at h
  · refine fn_of0 E0_ok rfl ?_
    rw [vc87]; exact h
  · exact h.elim
theorem go128 (t : Tr) (Φ : DV → List Blk → Prop) (h : Φ (ownT t).dv []) : GoC cfg Pr Ow 128 [t.dv] [] Φ := by
  refine go_wk (WkL.refl _) (fn_of0 E0_ok rfl ?_)
  rw [vc128]
  unfold ownT at h
  have nil : ∀ (k : Int) (v : Vl) (a b : Rf) (s o : Int), Φ (Tr.mk k v a b s o []).dv [] → ∃ r', (DV.agg (Tr.cellsK (.mk k v a b s o []) .nilsl) = r' ∨ WkV (.agg (Tr.cellsK (.mk k v a b s o []) .nilsl)) r') ∧ Φ r' [] :=
    fun k v a b s o hh => ⟨_, .inr (wk_cells (.mk k v a b s o []) 18), hh⟩
  refine brB_of (fun h1 => ?_) (fun h1 => ?_)
  · simp only [h1, cond_true] at h
    exact nil t.kind t.v r0 r0 0 0 h
  simp only [h1, cond_false] at h
  refine brB_of (fun h1 => ?_) (fun h1 => ?_)
  · simp only [h1, cond_true] at h
    exact nil t.kind v0 t.a r0 0 0 h
  simp only [h1, cond_false] at h
  refine brB_of (fun h1 => ?_) (fun h1 => ?_)
  · simp only [h1, cond_true] at h
    exact nil t.kind v0 t.a t.b 0 0 h
  simp only [h1, cond_false] at h
  refine brB_of (fun h1 => ?_) (fun h1 => ?_)
  · simp only [h1, cond_true] at h
    exact nil t.kind v0 t.a r0 t.sheet 0 h
  simp only [h1, cond_false] at h
  refine brB_of (fun h1 => ?_) (fun h1 => ?_)
  · simp only [h1, cond_true] at h
    exact nil t.kind v0 t.a t.b t.sheet 0 h
  simp only [h1, cond_false] at h
  refine brB_of (fun h1 => ?_) (fun h1 => ?_)
  · simp only [h1, cond_true] at h
    exact nil t.kind v0 r0 r0 0 t.op h
  simp only [h1, cond_false] at h
  refine brB_of (fun h1 => ?_) (fun h1 => ?_)
  · simp only [h1, cond_true] at h
    rw [h1]
    exact ⟨_, .inl rfl, h⟩
  simp only [h1, cond_false] at h
  refine brB_of (fun h1 => ?_) (fun h1 => ?_)
  · simp only [h1, cond_true] at h
    rw [h1]
    exact ⟨_, .inl rfl, h⟩
  simp only [h1, cond_false] at h
  refine brB_of (fun h1 => ?_) (fun h1 => ?_)
  · simp only [h1, cond_true] at h
    exact ⟨_, .inl rfl, h⟩
  simp only [h1, cond_false] at h
  exact ⟨_, .inl rfl, h⟩
theorem go88 (t : Tr) (Φ : DV → List Blk → Prop) (h : Φ (.bool (aloneB (ownT t) t)) []) : GoC cfg Pr Ow 88 [t.dv] [] Φ := by
  refine fn_of0 (E := E88 t (ownT t)) (envOK ⟨callG_ok fun _ => go128 t, trivial⟩ trivial trivial) rfl ?_
  rw [vc88, Tr.encs_len, Tr.encs_len]
  exact ⟨trivial, rfl, h⟩
theorem go130 (m s : Int) (Φ : DV → List Blk → Prop) (h : Φ (.int .i64 (decE m s)) []) : GoC cfg Pr Ow 130 [.agg [.int .i64 m, .int .i64 s]] [] Φ := by
  refine fn_of0 E0_ok rfl ?_
  rw [vc130]
  unfold decE at h
  refine brB_of (fun h1 => ?_) (fun h1 => ?_) <;> rw [h1] at h <;> exact h
theorem go131 (e : Int) (Φ : DV → List Blk → Prop) (h : Φ (.str (nameF e)) []) : GoC cfg Pr Ow 131 [.int .i64 e] [] Φ := by
  refine fn_of0 E0_ok rfl ?_
  rw [vc131]
  unfold nameF at h
  iterate 7
    refine brB_of (fun h1 => ?_) (fun h1 => ?_)
    · simp only [h1, cond_true] at h; exact h
    simp only [h1, cond_false] at h
  exact h
theorem go129 (v : Vl) (Φ : DV → List Blk → Prop) (h : Φ (ownV v).dv []) : GoC cfg Pr Ow 129 [v.dv] [] Φ := by
  refine fn_of0 (E := E129) (envOK ⟨?_, trivial⟩ trivial trivial) rfl ?_
  · intro xs ex k h
    simp only at h
    split at h
    · refine fn_of0 E0_ok rfl ?_
      rw [vc164]; exact h
    · exact h.elim
  rw [vc129]
  unfold ownV at h
  iterate 4
    refine brB_of (fun h1 => ?_) (fun h1 => ?_)
    · simp only [h1, cond_true] at h; exact h
    simp only [h1, cond_false] at h
  exact h
theorem go91 (t : Tr) (Φ : DV → List Blk → Prop) (h : Φ (.bool (countsB t)) []) : GoC cfg Pr Ow 91 [t.dv] [] Φ := by
  refine fn_of0 (E := E91) (envOK ⟨go87S, trivial⟩ trivial trivial) rfl ?_
  rw [vc91, Tr.encs_len]
  unfold countsB at h
  iterate 5
    refine brB_of (fun h1 => ?_) (fun h1 => ?_)
    · simp only [h1, cond_true] at h; exact h
    simp only [h1, cond_false] at h
  exact h
/-- A contract of str.Units. -/
def UnitsOK (Pr Ow : Nat → List DV → DV → Prop) (uN uE : List UInt8 → Int) (s : List UInt8) : Prop := ∀ Φ : DV → List Blk → Prop, Φ (.tup [.int .i64 (uN s), .int .i64 (uE s)]) [] → GoC cfg Pr Ow 113 [.str s] [] Φ
variable {uN uE : List UInt8 → Int}
theorem go89 (v : Vl) (hU : v.kind = 2 → UnitsOK Pr Ow uN uE v.txt) (Φ : DV → List Blk → Prop) (h : Φ (.int .i64 (valE uE v)) []) : GoC cfg Pr Ow 89 [v.dv] [] Φ := by
  refine fn_of0 (E := E89 v (ownV v) (decE v.m v.s) (uN v.txt) (uE v.txt) (nameF v.e) (v.kind = 2)) (envOK ⟨callG_ok fun _ => go129 v, callG_ok fun _ => go130 _ _, callG_ok fun h => hU h, callG_ok fun _ => go131 _, trivial⟩ trivial trivial) rfl ?_
  rw [vc89]
  unfold valE vlEq at h
  refine brB_of (fun h1 => ?_) (fun h1 => ?_)
  · simp only [h1, cond_true] at h; exact h
  simp only [h1, cond_false] at h
  refine brB_of (fun h1 => ?_) (fun h1 => ?_)
  · simp only [h1, cond_true] at h; exact h
  simp only [h1, cond_false] at h
  refine ⟨trivial, rfl, brB_of (fun h1 => ?_) (fun h1 => ?_)⟩
  · simp only [h1, cond_true] at h; exact h
  simp only [h1, cond_false] at h
  refine brB_of (fun h1 => ⟨trivial, rfl, ?_⟩) (fun h1 => ?_)
  · simp only [h1, cond_true] at h; exact h
  simp only [h1, cond_false] at h
  refine brB_of (fun h1 => ⟨of_decide_eq_true h1, rfl, ?_⟩) (fun h1 => ?_)
  · simp only [h1, cond_true] at h; exact h
  simp only [h1, cond_false] at h
  refine brB_of (fun h1 => ⟨trivial, rfl, brB_of (fun h2 => ?_) (fun h2 => ?_)⟩) (fun h1 => ?_)
  · have h2 : (nameF v.e == []) = true := h2
    simp only [h1, h2, cond_true] at h; exact h
  · have h2 : (nameF v.e == []) = false := h2
    simp only [h1, h2, cond_true, cond_false] at h; exact h
  · simp only [h1, cond_false] at h; exact h
theorem go53 (t : Tr) (hU : t.kind = 1 → t.v.kind = 2 → UnitsOK Pr Ow uN uE t.v.txt) (Φ : DV → List Blk → Prop) (h : Φ (.int .i64 (partE uE t)) []) : GoC cfg Pr Ow 53 [t.dv] [] Φ := by
  refine fn_of0 (E := E53 t (aloneB (ownT t) t) (countsB t) (valE uE t.v) (areaE t.a t.b)) (envOK ⟨go87S, callG_ok fun _ => go88 t, callG_ok fun h => go89 t.v (hU h), callG_ok fun _ => go90 t.a t.b, callG_ok fun _ => go91 t, trivial⟩ trivial trivial) rfl ?_
  rw [vc53]
  unfold partE at h
  have rest : Φ (.int .i64 (restE t)) [] → (True ∧ [DV.agg (t.a.cells ++ t.b.cells)] = [DV.agg (t.a.cells ++ t.b.cells)] ∧ brB (areaE t.a t.b != 0) (Φ (DV.int IntKind.i64 (areaE t.a t.b)) []) (brB (!withinB t.sheet 0 7) (Φ (DV.int IntKind.i64 1) []) (True ∧ [Tr.dv t] = [Tr.dv t] ∧ brB (!countsB t) (Φ (DV.int IntKind.i64 1) []) (Φ (DV.int IntKind.i64 0) [])))) := by
    intro h
    unfold restE at h
    refine ⟨trivial, rfl, brB_of (fun h1 => ?_) (fun h1 => ?_)⟩
    · simp only [h1, cond_true] at h; exact h
    simp only [h1, cond_false] at h
    refine brB_of (fun h1 => ?_) (fun h1 => ?_)
    · simp only [h1, cond_true] at h; exact h
    simp only [h1, cond_false] at h
    refine ⟨trivial, rfl, brB_of (fun h1 => ?_) (fun h1 => ?_)⟩
    · simp only [h1, cond_true] at h; exact h
    · simp only [h1, cond_false] at h; exact h
  unfold withinB at h
  refine brB_of (fun h1 => ?_) (fun h1 => ⟨trivial, rfl, ?_⟩)
  · simp only [h1, cond_true] at h; exact h
  simp only [h1, cond_false] at h
  refine brB_of (fun h1 => ?_) (fun h1 => ?_)
  · simp only [h1, cond_true] at h; exact h
  simp only [h1, cond_false] at h
  refine brB_of (fun h1 => ⟨of_decide_eq_true h1, rfl, ?_⟩) (fun h1 => ?_)
  · simp only [h1, cond_true] at h
    refine brB_of (fun h1 => ?_) (fun h1 => ?_)
    · simp only [h1, cond_true] at h; exact h
    simp only [h1, cond_false] at h
    refine brB_of (fun h1 => ?_) (fun h1 => ?_)
    · simp only [h1, cond_true] at h; exact h
    simp only [h1, cond_false] at h
    exact rest h
  · simp only [h1, cond_false] at h
    exact rest h
/-- How far the first deep node lies. -/
theorem nt86 : ntOf cfg 86 = 19 := by kernel_rfl
theorem nd86 : nodupK (loops 0 (codeOf cfg 86)) = true := by kernel_rfl
theorem go52 (t : Tr) (d : Int) (Φ : DV → List Blk → Prop) (h : Φ (.bool (decide (d > 16))) []) : GoC cfg Pr Ow 52 [ndv t d] [] Φ := by
  refine fn_of0 E0_ok rfl ?_
  rw [vc52]; exact h
def deepAt : List (Tr × Int) → Nat → Option Nat
  | [], _ => none
  | p :: l, i => bif decide (p.2 > 16) then some i else deepAt l (i + 1)
theorem drop_getD {α : Type} [Inhabited α] {l : List α} {i : Nat} (h : i < l.length) : l.drop i = l.getD i default :: l.drop (i + 1) := by
  rw [List.drop_eq_getElem_cons h, List.getD_eq_getElem?_getD, List.getElem?_eq_getElem h]; rfl
theorem deepAt_isSome : ∀ (l : List (Tr × Int)) (i : Nat), (deepAt l i).isSome = l.any fun p => decide (p.2 > 16)
  | [], _ => rfl
  | p :: l, i => by
    simp only [deepAt, List.any_cons]
    cases decide (p.2 > 16)
    · simpa using deepAt_isSome l (i + 1)
    · rfl
def idxE (l : List (Tr × Int)) : Int := bif (deepAt l 0).isSome then (((deepAt l 0).getD 0 : Nat) : Int) else -1
theorem idxE_ge (l : List (Tr × Int)) : decide (idxE l ≥ 0) = l.any fun p => decide (p.2 > 16) := by
  rw [← deepAt_isSome l 0]
  unfold idxE
  cases (deepAt l 0).isSome
  · rfl
  · simp
theorem go86 (l : List (Tr × Int)) (hl : l.length ≤ 4000000000) (Φ : DV → List Blk → Prop) (h : Φ (.int .i64 (idxE l)) []) : GoC cfg Pr Ow 86 [.psl 19 (nds l), .fn (.func 52) [] []] [] Φ := by
  refine fn_of (E := E86 (fun st => st = hd86 (nds l) l.length 0) (deepAt l 0).isSome ((deepAt l 0).getD 0)) (envOK trivial trivial trivial) nt86 nd86 ?_ ?_
  · intro b sp hl' st k hk
    obtain ⟨rfl, rfl⟩ := look_one rfl hl'
    refine loopS_ok (fun st hst K hK => ?_) hk
    subst hst
    have key : ∀ (d i : Nat), i + d = l.length → F86 K (deepAt (l.drop i) i).isSome ((deepAt (l.drop i) i).getD 0) → GoL cfg Pr Ow 86 19 (bodyOf cfg 86 0) (hd86 (nds l) l.length i) K := by
      intro d
      induction d with
      | zero =>
        intro i hi hF
        refine round_of (E := E86b False default 0 false) (envOK trivial ⟨callG_ok fun h => h.elim, trivial⟩ trivial) nt86 rfl (L := fun _ => False) (ks := [0, 1, 7, 8]) (bs := []) (ks2 := [4]) (bs2 := []) ?_ (fun _ h => h.elim)
        rw [vc86_1]
        rw [List.drop_eq_nil_of_le (by omega)] at hF
        refine brB_of (fun h => ?_) (fun _ => hF)
        simp at h; omega
      | succ d ih =>
        intro i hi hF
        have hlt : i < l.length := by omega
        rw [drop_getD hlt] at hF
        simp only [deepAt] at hF
        refine round_of (E := E86b True (l.getD i default).1 (l.getD i default).2 (decide ((l.getD i default).2 > 16))) (envOK trivial ⟨callG_ok fun _ => go52 _ _, trivial⟩ trivial) nt86 rfl (L := fun st => decide ((l.getD i default).2 > 16) = false ∧ st = hd86 (nds l) l.length (i + 1)) (ks := [0, 1, 7, 8]) (bs := []) (ks2 := [4]) (bs2 := []) ?_ ?_
        · rw [vc86_1]
          refine brB_of (fun _ => obB_of (decide_eq_true (by rw [nds_len]; exact hlt)) ⟨nds_get hlt, trivial, rfl, brB_of (fun h1 => ?_) (fun h1 => obB_of (inR64 (by omega)) ⟨h1, ?_⟩)⟩) (fun h => ?_)
          · simp only [h1, cond_true] at hF; exact hF
          · rw [← cast_succ]; rfl
          · simp at h; omega
        · rintro _ ⟨h1, rfl⟩
          simp only [h1, cond_false] at hF
          exact ih (i + 1) (by omega) hF
    exact key l.length 0 (by omega) hK
  · rw [vc86, nds_len]
    unfold idxE at h
    refine ⟨rfl, brB_of (fun h1 => ?_) (fun h1 => ?_)⟩
    · simp only [h1, cond_true] at h; exact h
    · simp only [h1, cond_false] at h; exact h
theorem go51 (l : List (Tr × Int)) (hl : l.length ≤ 4000000000) (Φ : DV → List Blk → Prop) (h : Φ (.bool (l.any fun p => decide (p.2 > 16))) []) : GoC cfg Pr Ow 51 [.psl 19 (nds l), .fn (.func 52) [] []] [] Φ := by
  refine fn_of0 (E := E51 (nds l) (idxE l)) (envOK ⟨callG_ok fun _ => go86 l hl, trivial⟩ trivial trivial) rfl ?_
  rw [vc51, idxE_ge]
  exact ⟨trivial, rfl, h⟩
theorem nt29 : ntOf cfg 29 = 27 := by kernel_rfl
theorem nd29 : nodupK (loops 0 (codeOf cfg 29)) = true := by kernel_rfl
/-- expr.Check. -/
theorem go29 (t : Tr) (hl : (t.pre 1).length ≤ 4000000000) (hU : ∀ p ∈ t.pre 1, p.1.kind = 1 → p.1.v.kind = 2 → UnitsOK Pr Ow uN uE p.1.v.txt)
    (hw : ∀ Φ : DV → List Blk → Prop, Φ (.psl 19 (nds (t.pre 1))) [] → GoC cfg Pr Ow 48 [t.dv] [] Φ) (Φ : DV → List Blk → Prop) (h : Φ (.int .i64 (checkE uE t)) []) : GoC cfg Pr Ow 29 [t.dv] [] Φ := by
  generalize hL : t.pre 1 = l at *
  unfold checkE at h
  rw [hL] at h
  refine fn_of (E := E29 (fun st => st = hd29 (nds l) l.length 0) t (nds l) (l.any fun p => decide (p.2 > 16)) (firstE uE l != 0) (firstE uE l)) (envOK ⟨callG_ok fun _ => hw, callG_ok fun _ => go51 l hl, trivial⟩ trivial trivial) nt29 nd29 ?_ ?_
  · intro b sp hl' st k hk
    obtain ⟨rfl, rfl⟩ := look_one rfl hl'
    refine loopS_ok (fun st hst K hK => ?_) hk
    subst hst
    have key : ∀ (d i : Nat), i + d = l.length → F29 K (firstE uE (l.drop i) != 0) (firstE uE (l.drop i)) → GoL cfg Pr Ow 29 27 (bodyOf cfg 29 0) (hd29 (nds l) l.length i) K := by
      intro d
      induction d with
      | zero =>
        intro i hi hF
        refine round_of (E := E29b False default 0 0) (envOK trivial ⟨callG_ok fun h => h.elim, trivial⟩ trivial) nt29 rfl (L := fun _ => False) (ks := [14, 15, 16]) (bs := []) (ks2 := [2]) (bs2 := []) ?_ (fun _ h => h.elim)
        rw [vc29_1]
        rw [List.drop_eq_nil_of_le (by omega)] at hF
        refine brB_of (fun h => ?_) (fun _ => hF)
        simp at h; omega
      | succ d ih =>
        intro i hi hF
        have hlt : i < l.length := by omega
        rw [drop_getD hlt] at hF
        simp only [firstE] at hF
        have hm : l.getD i default ∈ l := by rw [List.getD_eq_getElem?_getD, List.getElem?_eq_getElem hlt]; exact List.getElem_mem hlt
        refine round_of (E := E29b True (l.getD i default).1 (l.getD i default).2 (partE uE (l.getD i default).1)) (envOK trivial ⟨callG_ok fun _ => go53 _ (hU _ hm), trivial⟩ trivial) nt29 rfl (L := fun st => (partE uE (l.getD i default).1 != 0) = false ∧ st = hd29 (nds l) l.length (i + 1)) (ks := [14, 15, 16]) (bs := []) (ks2 := [2]) (bs2 := []) ?_ ?_
        · rw [vc29_1]
          refine brB_of (fun _ => obB_of (decide_eq_true (by rw [nds_len]; exact hlt)) ⟨nds_get hlt, trivial, rfl, brB_of (fun h1 => ?_) (fun h1 => obB_of (inR64 (by omega)) ⟨h1, ?_⟩)⟩) (fun h => ?_)
          · simp only [h1, cond_true] at hF; exact hF
          · rw [← cast_succ]; rfl
          · simp at h; omega
        · rintro _ ⟨h1, rfl⟩
          simp only [h1, cond_false] at hF
          exact ih (i + 1) (by omega) hF
    exact key l.length 0 (by omega) hK
  · rw [vc29, nds_len]
    refine ⟨trivial, rfl, trivial, rfl, brB_of (fun h1 => ?_) (fun h1 => brB_of (fun h2 => ?_) (fun h2 => ⟨rfl, ?_⟩))⟩
    · simp only [h1, cond_true] at h; exact h
    · simp only [h1, h2, cond_true, cond_false] at h; exact h
    · simp only [h1, h2, cond_false] at h
      refine brB_of (fun h3 => h) (fun h3 => ?_)
      have : firstE uE l = 0 := by simpa [bne] using h3
      rw [this] at h; exact h
end
end Go.Det.Sea
end

section
set_option linter.unusedVariables false
set_option linter.unusedSimpArgs false
namespace Go.Det.Sea
open Go Go.Det

theorem vc85 (n : Int) (Φ : DV → List Blk → Prop) : (vcF cfg E0 85 [.int .i64 n] [] Φ) =
    (Φ (DV.agg [DV.int IntKind.i64 n, DV.int IntKind.i64 (0 : Int)]) []) := by kernel_rfl
def decS : Spec := fun xs ex k => match xs, ex with
  | [.int .i64 n], [] => k (.agg [.int .i64 n, .int .i64 0]) []
  | _, _ => False
def E50 : Env := { cs := [(85, decS)] }
theorem vc50 (n : Int) (Φ : DV → List Blk → Prop) : (vcF cfg E50 50 [.int .i64 n] [] Φ) =
    (Φ (DV.agg [DV.int IntKind.i64 (1 : Int), DV.int IntKind.i64 n, DV.int IntKind.i64 (0 : Int), DV.str [], DV.bool false, DV.int IntKind.i64 (0 : Int)]) []) := by kernel_rfl
def vNumS : Spec := fun xs ex k => match xs, ex with
  | [.int .i64 n], [] => k (.agg [.int .i64 1, .int .i64 n, .int .i64 0, .str [], .bool false, .int .i64 0]) []
  | _, _ => False
def E25 : Env := { cs := [(50, vNumS)] }
theorem vc25 (n : Int) (Φ : DV → List Blk → Prop) : (vcF cfg E25 25 [.int .i64 n] [] Φ) =
    (Φ (DV.agg [DV.int IntKind.i64 (1 : Int), DV.int IntKind.i64 (1 : Int), DV.int IntKind.i64 n, DV.int IntKind.i64 (0 : Int), DV.str [], DV.bool false, DV.int IntKind.i64 (0 : Int), DV.int IntKind.i64 (0 : Int), DV.int IntKind.i64 (0 : Int), DV.bool false, DV.bool false, DV.int IntKind.i64 (0 : Int), DV.int IntKind.i64 (0 : Int), DV.bool false, DV.bool false, DV.int IntKind.i64 (0 : Int), DV.int IntKind.i64 (0 : Int), DV.nilsl]) []) := by kernel_rfl
theorem vc26 (n : Int) (a b : Tr) (Φ : DV → List Blk → Prop) : (vcF cfg E0 26 [.int .i64 n, a.dv, b.dv] [] Φ) =
    (Φ (DV.agg [DV.int IntKind.i64 (8 : Int), DV.int IntKind.i64 (0 : Int), DV.int IntKind.i64 (0 : Int), DV.int IntKind.i64 (0 : Int), DV.str [], DV.bool false, DV.int IntKind.i64 (0 : Int), DV.int IntKind.i64 (0 : Int), DV.int IntKind.i64 (0 : Int), DV.bool false, DV.bool false, DV.int IntKind.i64 (0 : Int), DV.int IntKind.i64 (0 : Int), DV.bool false, DV.bool false, DV.int IntKind.i64 (0 : Int), DV.int IntKind.i64 n, DV.psl 18 [Tr.dv a, Tr.dv b]]) []) := by kernel_rfl
def F6 (st : St) (k : Ex → St → Prop) : Prop := k .ret (mkS 194 [(6, .bool true)] [] [])
def E6a (L6 : St → Prop) : Env := { cs := [(8, callS0 (.bool true))], cu := [(6, cutS [7, 8, 9, 10, 11] [] 194 L6 F6)] }
theorem vc6a (a b c : Int) (L6 : St → Prop) (Φ : DV → List Blk → Prop) : (vcF cfg (E6a L6) 6 [.int .u8 a, .int .u8 b, .int .u8 c] [] Φ) =
    (L6 (mkS 194 [(7, DV.psl 1 [DV.str [(43 : UInt8)], DV.str [(45 : UInt8)], DV.str [(42 : UInt8)], DV.str [(47 : UInt8)], DV.str [(94 : UInt8)], DV.str [(38 : UInt8)], DV.str [(61 : UInt8)], DV.str [(60 : UInt8), (62 : UInt8)], DV.str [(60 : UInt8)], DV.str [(60 : UInt8), (61 : UInt8)], DV.str [(62 : UInt8)], DV.str [(62 : UInt8), (61 : UInt8)]]), (8, DV.psl 1 [DV.int IntKind.i64 (3 : Int), DV.int IntKind.i64 (3 : Int), DV.int IntKind.i64 (4 : Int), DV.int IntKind.i64 (4 : Int), DV.int IntKind.i64 (5 : Int), DV.int IntKind.i64 (2 : Int), DV.int IntKind.i64 (1 : Int), DV.int IntKind.i64 (1 : Int), DV.int IntKind.i64 (1 : Int), DV.int IntKind.i64 (1 : Int), DV.int IntKind.i64 (1 : Int), DV.int IntKind.i64 (1 : Int)]), (9, DV.int IntKind.i64 (IntKind.wrap IntKind.i64 (Int.tmod a (12 : Int)))), (10, DV.int IntKind.i64 (IntKind.wrap IntKind.i64 (Int.tmod b (12 : Int)))), (11, DV.int IntKind.i64 (IntKind.wrap IntKind.i64 (Int.tmod c (12 : Int))))] [] []) ∧ Φ (DV.bool true) []) := by kernel_rfl
def st6_6 (i k m : Int) : St := mkS 194 [(7, .psl 1 [.str [43], .str [45], .str [42], .str [47], .str [94], .str [38], .str [61], .str [60, 62], .str [60], .str [60, 61], .str [62], .str [62, 61]]), (8, .psl 1 [.int .i64 3, .int .i64 3, .int .i64 4, .int .i64 4, .int .i64 5, .int .i64 2, .int .i64 1, .int .i64 1, .int .i64 1, .int .i64 1, .int .i64 1, .int .i64 1]), (9, .int .i64 i), (10, .int .i64 k), (11, .int .i64 m)] [] []
def E6a2 (x y z txt : List UInt8) (T : Tr) (L9 : St → Prop) : Env := { cs := [(15, callG True [.str txt, .agg [.int .i64 0, .int .i64 0]] (.tup [T.dv, .int .i64 0, .int .i64 0]))], an := [(40, .str x), (46, .str y), (52, .str z)], cu := [(9, cutS [8, 9, 10, 11, 12] [12] 194 L9 F6)], fd := [6] }
theorem vc6b (i k m : Int) (x y z txt : List UInt8) (T : Tr) (L9 : St → Prop) (K : Ex → St → Prop) : (vcR cfg (E6a2 x y z txt T L9) 6 6 (st6_6 i k m) (restK [6] [] 194 K)) =
    (obB (decide ((0 : Int) ≤ i)) (obB (decide (Int.toNat i < 12)) ([DV.str [(43 : UInt8)], DV.str [(45 : UInt8)], DV.str [(42 : UInt8)], DV.str [(47 : UInt8)], DV.str [(94 : UInt8)], DV.str [(38 : UInt8)], DV.str [(61 : UInt8)], DV.str [(60 : UInt8), (62 : UInt8)], DV.str [(60 : UInt8)], DV.str [(60 : UInt8), (61 : UInt8)], DV.str [(62 : UInt8)], DV.str [(62 : UInt8), (61 : UInt8)]][Int.toNat i]? = some (DV.str x) ∧ obB (decide (1 + List.length x ≤ 4294967296)) (obB (decide (List.length (#[(49 : UInt8)].toList ++ x) + 1 ≤ 4294967296)) (obB (decide ((0 : Int) ≤ k)) (obB (decide (Int.toNat k < 12)) ([DV.str [(43 : UInt8)], DV.str [(45 : UInt8)], DV.str [(42 : UInt8)], DV.str [(47 : UInt8)], DV.str [(94 : UInt8)], DV.str [(38 : UInt8)], DV.str [(61 : UInt8)], DV.str [(60 : UInt8), (62 : UInt8)], DV.str [(60 : UInt8)], DV.str [(60 : UInt8), (61 : UInt8)], DV.str [(62 : UInt8)], DV.str [(62 : UInt8), (61 : UInt8)]][Int.toNat k]? = some (DV.str y) ∧ obB (decide (List.length (#[(49 : UInt8)].toList ++ x ++ #[(50 : UInt8)].toList) + List.length y ≤ 4294967296)) (obB (decide (List.length (#[(49 : UInt8)].toList ++ x ++ #[(50 : UInt8)].toList ++ y) + 1 ≤ 4294967296)) (obB (decide ((0 : Int) ≤ m)) (obB (decide (Int.toNat m < 12)) ([DV.str [(43 : UInt8)], DV.str [(45 : UInt8)], DV.str [(42 : UInt8)], DV.str [(47 : UInt8)], DV.str [(94 : UInt8)], DV.str [(38 : UInt8)], DV.str [(61 : UInt8)], DV.str [(60 : UInt8), (62 : UInt8)], DV.str [(60 : UInt8)], DV.str [(60 : UInt8), (61 : UInt8)], DV.str [(62 : UInt8)], DV.str [(62 : UInt8), (61 : UInt8)]][Int.toNat m]? = some (DV.str z) ∧ obB (decide (List.length (#[(49 : UInt8)].toList ++ x ++ #[(50 : UInt8)].toList ++ y ++ #[(51 : UInt8)].toList) + List.length z ≤ 4294967296)) (obB (decide (List.length (#[(49 : UInt8)].toList ++ x ++ #[(50 : UInt8)].toList ++ y ++ #[(51 : UInt8)].toList ++ z) + 1 ≤ 4294967296)) (True ∧ [DV.str (#[(49 : UInt8)].toList ++ x ++ #[(50 : UInt8)].toList ++ y ++ #[(51 : UInt8)].toList ++ z ++ #[(52 : UInt8)].toList), DV.agg [DV.int IntKind.i64 (0 : Int), DV.int IntKind.i64 (0 : Int)]] = [DV.str txt, DV.agg [DV.int IntKind.i64 (0 : Int), DV.int IntKind.i64 (0 : Int)]] ∧ L9 (mkS 194 [(8, DV.psl 1 [DV.int IntKind.i64 (3 : Int), DV.int IntKind.i64 (3 : Int), DV.int IntKind.i64 (4 : Int), DV.int IntKind.i64 (4 : Int), DV.int IntKind.i64 (5 : Int), DV.int IntKind.i64 (2 : Int), DV.int IntKind.i64 (1 : Int), DV.int IntKind.i64 (1 : Int), DV.int IntKind.i64 (1 : Int), DV.int IntKind.i64 (1 : Int), DV.int IntKind.i64 (1 : Int), DV.int IntKind.i64 (1 : Int)]), (9, DV.int IntKind.i64 i), (10, DV.int IntKind.i64 k), (11, DV.int IntKind.i64 m), (12, DV.ptr 12 18 0 0)] [(12, Blk.box (Tr.cells T))] []) ∧ K Ex.ret (mkS 194 [(6, DV.bool true)] [] [])))))))))))))) := by kernel_rfl
end Go.Det.Sea
end

section
set_option linter.unusedVariables false
set_option linter.unusedSimpArgs false
namespace Go.Det.Sea
open Go Go.Det

def st6_9 (i k m : Int) (T : Tr) : St := mkS 194 [(8, .psl 1 [.int .i64 3, .int .i64 3, .int .i64 4, .int .i64 4, .int .i64 5, .int .i64 2, .int .i64 1, .int .i64 1, .int .i64 1, .int .i64 1, .int .i64 1, .int .i64 1]), (9, .int .i64 i), (10, .int .i64 k), (11, .int .i64 m), (12, .ptr 12 18 0 0)] [(12, .box T.cells)] []
def st6_11 (i k m : Int) (T : Tr) (bt : Nat → Tr) : St := mkS 194 [(8, .psl 1 [.int .i64 3, .int .i64 3, .int .i64 4, .int .i64 4, .int .i64 5, .int .i64 2, .int .i64 1, .int .i64 1, .int .i64 1, .int .i64 1, .int .i64 1, .int .i64 1]), (9, .int .i64 i), (10, .int .i64 k), (11, .int .i64 m), (12, .ptr 12 18 0 0), (15, .ptr 15 18 0 0), (16, .ptr 16 18 0 0), (17, .ptr 17 18 0 0), (18, .ptr 18 18 0 0), (19, .ptr 19 18 0 0)] [(12, .box T.cells), (15, .box (bt 1).cells), (16, .box (bt 2).cells), (17, .box (bt 3).cells), (18, .box (bt 4).cells), (19, .box zeroE)] []
def st6_23 (T W : Tr) : St := mkS 194 [(12, .ptr 12 18 0 0), (19, .ptr 19 18 0 0)] [(12, .box T.cells), (19, .box W.cells)] []
def E6b (bt : Nat → Tr) (L11 : St → Prop) : Env := { ss := [(62, 25, callG True [.int .i64 1] (bt 1).dv), (63, 25, callG True [.int .i64 2] (bt 2).dv), (64, 25, callG True [.int .i64 3] (bt 3).dv), (65, 25, callG True [.int .i64 4] (bt 4).dv)], cu := [(11, cutS [8, 9, 10, 11, 12, 15, 16, 17, 18, 19] [12, 15, 16, 17, 18, 19] 194 L11 F6)] }
def E6c (oi ok om p q r : Int) (bt : Nat → Tr) (L23 : St → Prop) : Env := { ss := [(108, 26, callG True [.int .i64 oi, (bt 1).dv, (bt 2).dv] (bt 108).dv), (110, 26, callG True [.int .i64 ok, (bt 108).dv, (bt 3).dv] (bt 110).dv), (112, 26, callG True [.int .i64 om, (bt 110).dv, (bt 4).dv] (bt 112).dv), (128, 26, callG True [.int .i64 oi, (bt 1).dv, (bt 2).dv] (bt 128).dv), (133, 26, callG True [.int .i64 om, (bt 3).dv, (bt 4).dv] (bt 133).dv), (134, 26, callG True [.int .i64 ok, (bt 128).dv, (bt 133).dv] (bt 134).dv), (145, 26, callG True [.int .i64 oi, (bt 1).dv, (bt 2).dv] (bt 145).dv), (150, 26, callG True [.int .i64 om, (bt 3).dv, (bt 4).dv] (bt 150).dv), (151, 26, callG True [.int .i64 ok, (bt 145).dv, (bt 150).dv] (bt 151).dv), (170, 26, callG True [.int .i64 ok, (bt 2).dv, (bt 3).dv] (bt 170).dv), (171, 26, callG True [.int .i64 oi, (bt 1).dv, (bt 170).dv] (bt 171).dv), (173, 26, callG True [.int .i64 om, (bt 171).dv, (bt 4).dv] (bt 173).dv), (187, 26, callG True [.int .i64 ok, (bt 2).dv, (bt 3).dv] (bt 187).dv), (189, 26, callG True [.int .i64 om, (bt 187).dv, (bt 4).dv] (bt 189).dv), (190, 26, callG True [.int .i64 oi, (bt 1).dv, (bt 189).dv] (bt 190).dv), (88, 26, callG True [.int .i64 om, (bt 3).dv, (bt 4).dv] (bt 88).dv), (89, 26, callG True [.int .i64 ok, (bt 2).dv, (bt 88).dv] (bt 89).dv), (90, 26, callG True [.int .i64 oi, (bt 1).dv, (bt 89).dv] (bt 90).dv)], an := [(69, .int .i64 p), (73, .int .i64 q), (77, .int .i64 r)], cu := [(23, cutS [12, 19] [12, 19] 194 L23 F6)], fd := [11, 14, 16, 18, 20, 22, 12] }
def E6d (T : Tr) : Env := { cs := [(22, callG True [T.dv, T.dv] (.bool true))] }
theorem vc6c (i k m : Int) (T : Tr) (bt : Nat → Tr) (L11 : St → Prop) (K : Ex → St → Prop) : (vcR cfg (E6b bt L11) 6 9 (st6_9 i k m T) (restK [6] [] 194 K)) =
    (True ∧ [DV.int IntKind.i64 (1 : Int)] = [DV.int IntKind.i64 (1 : Int)] ∧ True ∧ [DV.int IntKind.i64 (2 : Int)] = [DV.int IntKind.i64 (2 : Int)] ∧ True ∧ [DV.int IntKind.i64 (3 : Int)] = [DV.int IntKind.i64 (3 : Int)] ∧ True ∧ [DV.int IntKind.i64 (4 : Int)] = [DV.int IntKind.i64 (4 : Int)] ∧ L11 (mkS 194 [(8, DV.psl 1 [DV.int IntKind.i64 (3 : Int), DV.int IntKind.i64 (3 : Int), DV.int IntKind.i64 (4 : Int), DV.int IntKind.i64 (4 : Int), DV.int IntKind.i64 (5 : Int), DV.int IntKind.i64 (2 : Int), DV.int IntKind.i64 (1 : Int), DV.int IntKind.i64 (1 : Int), DV.int IntKind.i64 (1 : Int), DV.int IntKind.i64 (1 : Int), DV.int IntKind.i64 (1 : Int), DV.int IntKind.i64 (1 : Int)]), (9, DV.int IntKind.i64 i), (10, DV.int IntKind.i64 k), (11, DV.int IntKind.i64 m), (12, DV.ptr 12 18 0 0), (15, DV.ptr 15 18 0 0), (16, DV.ptr 16 18 0 0), (17, DV.ptr 17 18 0 0), (18, DV.ptr 18 18 0 0), (19, DV.ptr 19 18 0 0)] [(12, Blk.box (Tr.cells T)), (15, Blk.box (Tr.cells (bt 1))), (16, Blk.box (Tr.cells (bt 2))), (17, Blk.box (Tr.cells (bt 3))), (18, Blk.box (Tr.cells (bt 4))), (19, Blk.box zeroE)] []) ∧ K Ex.ret (mkS 194 [(6, DV.bool true)] [] [])) := by kernel_rfl
theorem vc6d (T : Tr) (K : Ex → St → Prop) : (vcR cfg (E6d T) 6 23 (st6_23 T T) (restK [6] [] 194 K)) =
    (True ∧ [Tr.dv T, Tr.dv T] = [Tr.dv T, Tr.dv T] ∧ K Ex.ret (mkS 194 [(6, DV.bool true)] [] [])) := by kernel_rfl
theorem vc6e (oi ok om p q r i k m : Int) (T : Tr) (bt : Nat → Tr) (L23 : St → Prop) (K : Ex → St → Prop) : (vcR cfg (E6c oi ok om p q r bt L23) 6 11 (st6_11 i k m T bt) (restK [6] [] 194 K)) =
    (obB (decide ((0 : Int) ≤ i)) (obB (decide (Int.toNat i < 12)) ([DV.int IntKind.i64 (3 : Int), DV.int IntKind.i64 (3 : Int), DV.int IntKind.i64 (4 : Int), DV.int IntKind.i64 (4 : Int), DV.int IntKind.i64 (5 : Int), DV.int IntKind.i64 (2 : Int), DV.int IntKind.i64 (1 : Int), DV.int IntKind.i64 (1 : Int), DV.int IntKind.i64 (1 : Int), DV.int IntKind.i64 (1 : Int), DV.int IntKind.i64 (1 : Int), DV.int IntKind.i64 (1 : Int)][Int.toNat i]? = some (DV.int IntKind.i64 p) ∧ obB (decide ((0 : Int) ≤ k)) (obB (decide (Int.toNat k < 12)) ([DV.int IntKind.i64 (3 : Int), DV.int IntKind.i64 (3 : Int), DV.int IntKind.i64 (4 : Int), DV.int IntKind.i64 (4 : Int), DV.int IntKind.i64 (5 : Int), DV.int IntKind.i64 (2 : Int), DV.int IntKind.i64 (1 : Int), DV.int IntKind.i64 (1 : Int), DV.int IntKind.i64 (1 : Int), DV.int IntKind.i64 (1 : Int), DV.int IntKind.i64 (1 : Int), DV.int IntKind.i64 (1 : Int)][Int.toNat k]? = some (DV.int IntKind.i64 q) ∧ obB (decide ((0 : Int) ≤ m)) (obB (decide (Int.toNat m < 12)) ([DV.int IntKind.i64 (3 : Int), DV.int IntKind.i64 (3 : Int), DV.int IntKind.i64 (4 : Int), DV.int IntKind.i64 (4 : Int), DV.int IntKind.i64 (5 : Int), DV.int IntKind.i64 (2 : Int), DV.int IntKind.i64 (1 : Int), DV.int IntKind.i64 (1 : Int), DV.int IntKind.i64 (1 : Int), DV.int IntKind.i64 (1 : Int), DV.int IntKind.i64 (1 : Int), DV.int IntKind.i64 (1 : Int)][Int.toNat m]? = some (DV.int IntKind.i64 r) ∧ brB (decide (p ≥ q) && decide (q ≥ r)) (obB (inR IntKind.i64 (m + (1 : Int))) (obB (inR IntKind.i64 (k + (1 : Int))) (obB (inR IntKind.i64 (i + (1 : Int))) (True ∧ [DV.int IntKind.i64 (i + (1 : Int)), Tr.dv (bt 1), Tr.dv (bt 2)] = [DV.int IntKind.i64 oi, Tr.dv (bt 1), Tr.dv (bt 2)] ∧ True ∧ [DV.int IntKind.i64 (k + (1 : Int)), Tr.dv (bt 108), Tr.dv (bt 3)] = [DV.int IntKind.i64 ok, Tr.dv (bt 108), Tr.dv (bt 3)] ∧ True ∧ [DV.int IntKind.i64 (m + (1 : Int)), Tr.dv (bt 110), Tr.dv (bt 4)] = [DV.int IntKind.i64 om, Tr.dv (bt 110), Tr.dv (bt 4)] ∧ L23 (mkS 194 [(12, DV.ptr 12 18 0 0), (19, DV.ptr 19 18 0 0)] [(12, Blk.box (Tr.cells T)), (19, Blk.box (Tr.cells (bt 112)))] []) ∧ K Ex.ret (mkS 194 [(6, DV.bool true)] [] []))))) (brB (decide (p ≥ q) && decide (p ≥ r)) (obB (inR IntKind.i64 (k + (1 : Int))) (obB (inR IntKind.i64 (i + (1 : Int))) (True ∧ [DV.int IntKind.i64 (i + (1 : Int)), Tr.dv (bt 1), Tr.dv (bt 2)] = [DV.int IntKind.i64 oi, Tr.dv (bt 1), Tr.dv (bt 2)] ∧ obB (inR IntKind.i64 (m + (1 : Int))) (True ∧ [DV.int IntKind.i64 (m + (1 : Int)), Tr.dv (bt 3), Tr.dv (bt 4)] = [DV.int IntKind.i64 om, Tr.dv (bt 3), Tr.dv (bt 4)] ∧ True ∧ [DV.int IntKind.i64 (k + (1 : Int)), Tr.dv (bt 128), Tr.dv (bt 133)] = [DV.int IntKind.i64 ok, Tr.dv (bt 128), Tr.dv (bt 133)] ∧ L23 (mkS 194 [(12, DV.ptr 12 18 0 0), (19, DV.ptr 19 18 0 0)] [(12, Blk.box (Tr.cells T)), (19, Blk.box (Tr.cells (bt 134)))] []) ∧ K Ex.ret (mkS 194 [(6, DV.bool true)] [] []))))) (brB (decide (p ≥ q)) (obB (inR IntKind.i64 (k + (1 : Int))) (obB (inR IntKind.i64 (i + (1 : Int))) (True ∧ [DV.int IntKind.i64 (i + (1 : Int)), Tr.dv (bt 1), Tr.dv (bt 2)] = [DV.int IntKind.i64 oi, Tr.dv (bt 1), Tr.dv (bt 2)] ∧ obB (inR IntKind.i64 (m + (1 : Int))) (True ∧ [DV.int IntKind.i64 (m + (1 : Int)), Tr.dv (bt 3), Tr.dv (bt 4)] = [DV.int IntKind.i64 om, Tr.dv (bt 3), Tr.dv (bt 4)] ∧ True ∧ [DV.int IntKind.i64 (k + (1 : Int)), Tr.dv (bt 145), Tr.dv (bt 150)] = [DV.int IntKind.i64 ok, Tr.dv (bt 145), Tr.dv (bt 150)] ∧ L23 (mkS 194 [(12, DV.ptr 12 18 0 0), (19, DV.ptr 19 18 0 0)] [(12, Blk.box (Tr.cells T)), (19, Blk.box (Tr.cells (bt 151)))] []) ∧ K Ex.ret (mkS 194 [(6, DV.bool true)] [] []))))) (brB (decide (q ≥ r) && decide (p ≥ r)) (obB (inR IntKind.i64 (m + (1 : Int))) (obB (inR IntKind.i64 (i + (1 : Int))) (obB (inR IntKind.i64 (k + (1 : Int))) (True ∧ [DV.int IntKind.i64 (k + (1 : Int)), Tr.dv (bt 2), Tr.dv (bt 3)] = [DV.int IntKind.i64 ok, Tr.dv (bt 2), Tr.dv (bt 3)] ∧ True ∧ [DV.int IntKind.i64 (i + (1 : Int)), Tr.dv (bt 1), Tr.dv (bt 170)] = [DV.int IntKind.i64 oi, Tr.dv (bt 1), Tr.dv (bt 170)] ∧ True ∧ [DV.int IntKind.i64 (m + (1 : Int)), Tr.dv (bt 171), Tr.dv (bt 4)] = [DV.int IntKind.i64 om, Tr.dv (bt 171), Tr.dv (bt 4)] ∧ L23 (mkS 194 [(12, DV.ptr 12 18 0 0), (19, DV.ptr 19 18 0 0)] [(12, Blk.box (Tr.cells T)), (19, Blk.box (Tr.cells (bt 173)))] []) ∧ K Ex.ret (mkS 194 [(6, DV.bool true)] [] []))))) (brB (decide (q ≥ r)) (obB (inR IntKind.i64 (i + (1 : Int))) (obB (inR IntKind.i64 (m + (1 : Int))) (obB (inR IntKind.i64 (k + (1 : Int))) (True ∧ [DV.int IntKind.i64 (k + (1 : Int)), Tr.dv (bt 2), Tr.dv (bt 3)] = [DV.int IntKind.i64 ok, Tr.dv (bt 2), Tr.dv (bt 3)] ∧ True ∧ [DV.int IntKind.i64 (m + (1 : Int)), Tr.dv (bt 187), Tr.dv (bt 4)] = [DV.int IntKind.i64 om, Tr.dv (bt 187), Tr.dv (bt 4)] ∧ True ∧ [DV.int IntKind.i64 (i + (1 : Int)), Tr.dv (bt 1), Tr.dv (bt 189)] = [DV.int IntKind.i64 oi, Tr.dv (bt 1), Tr.dv (bt 189)] ∧ L23 (mkS 194 [(12, DV.ptr 12 18 0 0), (19, DV.ptr 19 18 0 0)] [(12, Blk.box (Tr.cells T)), (19, Blk.box (Tr.cells (bt 190)))] []) ∧ K Ex.ret (mkS 194 [(6, DV.bool true)] [] []))))) (obB (inR IntKind.i64 (i + (1 : Int))) (obB (inR IntKind.i64 (k + (1 : Int))) (obB (inR IntKind.i64 (m + (1 : Int))) (True ∧ [DV.int IntKind.i64 (m + (1 : Int)), Tr.dv (bt 3), Tr.dv (bt 4)] = [DV.int IntKind.i64 om, Tr.dv (bt 3), Tr.dv (bt 4)] ∧ True ∧ [DV.int IntKind.i64 (k + (1 : Int)), Tr.dv (bt 2), Tr.dv (bt 88)] = [DV.int IntKind.i64 ok, Tr.dv (bt 2), Tr.dv (bt 88)] ∧ True ∧ [DV.int IntKind.i64 (i + (1 : Int)), Tr.dv (bt 1), Tr.dv (bt 89)] = [DV.int IntKind.i64 oi, Tr.dv (bt 1), Tr.dv (bt 89)] ∧ L23 (mkS 194 [(12, DV.ptr 12 18 0 0), (19, DV.ptr 19 18 0 0)] [(12, Blk.box (Tr.cells T)), (19, Blk.box (Tr.cells (bt 90)))] []) ∧ K Ex.ret (mkS 194 [(6, DV.bool true)] [] [])))))))))))))))) := by kernel_rfl
end Go.Det.Sea
end

section
set_option linter.unusedVariables false
set_option linter.unusedSimpArgs false
namespace Go.Det.Sea
open Go Go.Det

/-! Numbers with signs between: how they are read, worked out. -/
inductive Sx where
  | num (d : Nat)
  | bin (o : Nat) (a b : Sx)
def Sx.eqb : Sx → Sx → Bool
  | .num a, .num b => Nat.beq a b
  | .bin o a b, .bin p c d => Nat.beq o p && (Sx.eqb a c && Sx.eqb b d)
  | _, _ => false
theorem Sx.eqb_ok : ∀ {a b : Sx}, a.eqb b = true → a = b
  | .num a, .num b, h => by rw [Nat.eq_of_beq_eq_true h]
  | .bin o a b, .bin p c d, h => by
    simp only [Sx.eqb, Bool.and_eq_true] at h
    rw [Nat.eq_of_beq_eq_true h.1, Sx.eqb_ok h.2.1, Sx.eqb_ok h.2.2]
  | .num _, .bin _ _ _, h => by cases h
  | .bin _ _ _, .num _, h => by cases h
def Sx.tr : Sx → Tr
  | .num d => cNum d 0
  | .bin o a b => biT o a.tr b.tr
inductive SJ where
  | lvl (n : Nat)
  | tail (n : Nat) (acc : Sx)
  | sgn
  | prim
def SJ.gj : SJ → GJ
  | .lvl n => .lvl n
  | .tail n a => .tail n a.tr
  | .sgn => .sgn
  | .prim => .prim
def leafD (s : List UInt8) (q : Nat) (t : Tr) (p2 : Nat) : Prop := ∃ d : Nat, 1 ≤ d ∧ d ≤ 4 ∧ q < s.length ∧ byt s q = 48 + d ∧ runN digP (s.drop q) = 1 ∧ runA digP (s.drop q) = true ∧ t = cNum d 0 ∧ p2 = q + 1
def evS (s : List UInt8) : Nat → SJ → Nat → Option (Sx × Nat)
  | 0, _, _ => none
  | f + 1, .lvl n, p => bif Nat.beq n 6 then evS s f .sgn p else bif Nat.ble n 5 then (match evS s f (.lvl (n + 1)) p with
    | some (a, p1) => evS s f (.tail n a) p1
    | none => none) else none
  | f + 1, .tail n acc, p => bif Nat.ble n 5 then (match opF s p (n : Int) with
    | (0, p1) => some (acc, p1)
    | (o + 1, p1) => (match evS s f (.lvl (n + 1)) p1 with
      | some (c, p2) => evS s f (.tail n (.bin (o + 1) acc c)) p2
      | none => none)) else none
  | f + 1, .sgn, p => (match signF s p [45] with
    | (true, _) => none
    | (false, p0) => match signF s p0 [43] with
      | (true, _) => none
      | (false, p1) => match evS s f .prim p1 with
        | some (a, p2) => (match signF s p2 [37] with
          | (true, _) => none
          | (false, p3) => some (a, p3))
        | none => none)
  | _ + 1, .prim, p => let q := blN s p; let b := byt s q
    bif Nat.ble 49 b && (Nat.ble b 52 && (Nat.ble (q + 1) s.length && (Nat.beq (runN digP (s.drop q)) 1 && runA digP (s.drop q)))) then some (.num (b - 48), q + 1) else none
theorem evS_ok (s : List UInt8) {head : Nat → Int → Nat → Prop} : ∀ (f : Nat) (j : SJ) (p : Nat) (x : Sx) (p2 : Nat), evS s f j p = some (x, p2) → Rds s (leafD s) head j.gj p x.tr p2
  | 0, _, _, _, _, h => by cases h
  | f + 1, .lvl n, p, x, p2, h => by
    simp only [evS] at h
    cases h6 : Nat.beq n 6 with
    | true =>
      rw [h6] at h
      obtain rfl := Nat.eq_of_beq_eq_true h6
      exact .lvl6 (evS_ok s f .sgn p x p2 h)
    | false =>
      rw [h6] at h
      cases h5 : Nat.ble n 5 with
      | false => rw [h5] at h; cases h
      | true =>
        rw [h5] at h
        simp only [cond_true, cond_false] at h
        have := Nat.le_of_ble_eq_true h5
        split at h
        · rename_i a p1 h1
          exact .lvl (by omega) (evS_ok s f _ p a p1 h1) (evS_ok s f _ p1 x p2 h)
        · cases h
  | f + 1, .tail n acc, p, x, p2, h => by
    simp only [evS] at h
    cases h5 : Nat.ble n 5 with
    | false => rw [h5] at h; cases h
    | true =>
      rw [h5] at h
      simp only [cond_true] at h
      have := Nat.le_of_ble_eq_true h5
      split at h
      · rename_i p1 h1
        simp only [Option.some.injEq, Prod.mk.injEq] at h
        obtain ⟨rfl, rfl⟩ := h
        exact .tl0 h1
      · rename_i o p1 h1
        split at h
        · rename_i c p3 h2
          exact .tl1 (by omega) h1 (evS_ok s f _ p1 c p3 h2) (evS_ok s f (.tail n (.bin (o + 1) acc c)) p3 x p2 h)
        · cases h
  | f + 1, .sgn, p, x, p2, h => by
    simp only [evS] at h
    split at h
    · cases h
    · rename_i p0 h0
      split at h
      · cases h
      · rename_i p1 h1
        split at h
        · rename_i a p3 h2
          split at h
          · cases h
          · rename_i p4 h4
            simp only [Option.some.injEq, Prod.mk.injEq] at h
            obtain ⟨rfl, rfl⟩ := h
            exact .plain h0 h1 (evS_ok s f .prim p1 a p3 h2) (.pc0 h4)
        · cases h
  | f + 1, .prim, p, x, p2, h => by
    simp only [evS] at h
    · cases hc : (Nat.ble 49 (byt s (blN s p)) && (Nat.ble (byt s (blN s p)) 52 && (Nat.ble (blN s p + 1) s.length && (Nat.beq (runN digP (s.drop (blN s p))) 1 && runA digP (s.drop (blN s p)))))) with
      | false => rw [hc] at h; cases h
      | true =>
        rw [hc] at h
        simp only [cond_true, Option.some.injEq, Prod.mk.injEq] at h
        obtain ⟨rfl, rfl⟩ := h
        simp only [Bool.and_eq_true] at hc
        obtain ⟨c1, c2, c3, c4, c5⟩ := hc
        have c1 := Nat.le_of_ble_eq_true c1
        have c2 := Nat.le_of_ble_eq_true c2
        have c3 := Nat.le_of_ble_eq_true c3
        exact .leaf rfl ⟨byt s (blN s p) - 48, by omega, by omega, by omega, by omega, Nat.eq_of_beq_eq_true c4, c5, rfl, rfl⟩
/-- How much a sign binds, by its place. -/
def bd (i : Nat) : Nat := [3, 3, 4, 4, 5, 2, 1, 1, 1, 1, 1, 1].getD i 0
def wantX (i k m : Nat) : Sx :=
  let p := bd i; let q := bd k; let r := bd m
  bif Nat.ble q p && Nat.ble r q then .bin (m + 1) (.bin (k + 1) (.bin (i + 1) (.num 1) (.num 2)) (.num 3)) (.num 4)
  else bif Nat.ble q p then .bin (k + 1) (.bin (i + 1) (.num 1) (.num 2)) (.bin (m + 1) (.num 3) (.num 4))
  else bif Nat.ble r q && Nat.ble r p then .bin (m + 1) (.bin (i + 1) (.num 1) (.bin (k + 1) (.num 2) (.num 3))) (.num 4)
  else bif Nat.ble r q then .bin (i + 1) (.num 1) (.bin (m + 1) (.bin (k + 1) (.num 2) (.num 3)) (.num 4))
  else .bin (i + 1) (.num 1) (.bin (k + 1) (.num 2) (.bin (m + 1) (.num 3) (.num 4)))
def txtS (i k m : Nat) : List UInt8 := 49 :: (sgn i ++ 50 :: (sgn k ++ 51 :: (sgn m ++ [52])))
def okS (i k m : Nat) : Bool := match evS (txtS i k m) 40 (.lvl 1) 0 with
  | some (x, p) => Sx.eqb x (wantX i k m) && Nat.beq p (txtS i k m).length
  | none => false
theorem okS_table : ((List.range 12).all fun i => (List.range 12).all fun k => (List.range 12).all fun m => okS i k m) = true := by kernel_rfl
theorem okS_all {i k m : Nat} (hi : i < 12) (hk : k < 12) (hm : m < 12) : okS i k m = true := by
  have h := okS_table
  rw [List.all_eq_true] at h
  have h := h i (List.mem_range.2 hi)
  rw [List.all_eq_true] at h
  have h := h k (List.mem_range.2 hk)
  rw [List.all_eq_true] at h
  exact h m (List.mem_range.2 hm)
/-- The text of four numbers with three signs is read as it should be. -/
theorem signs_read {i k m : Nat} (hi : i < 12) (hk : k < 12) (hm : m < 12) {head : Nat → Int → Nat → Prop} : Rds (txtS i k m) (leafD (txtS i k m)) head (.lvl 1) 0 (wantX i k m).tr (txtS i k m).length := by
  have h := okS_all hi hk hm
  unfold okS at h
  split at h
  · rename_i x p he
    simp only [Bool.and_eq_true] at h
    have := evS_ok (head := head) _ _ _ _ _ _ he
    rw [Sx.eqb_ok h.1, Nat.eq_of_beq_eq_true h.2] at this
    exact this
  · cases h
end Go.Det.Sea
end

section
set_option linter.unusedVariables false
set_option linter.unusedSimpArgs false
namespace Go.Det
theorem wrap64 {n : Int} (h0 : 0 ≤ n) (h1 : n < 4294967296) : IntKind.wrap .i64 n = n := by
  simp [IntKind.wrap, IntKind.bits, IntKind.signed]
  omega
end Go.Det
namespace Go.Det.Sea
open Go Go.Det

section
variable {Pr Ow : Nat → List DV → DV → Prop}
theorem go25 (n : Int) (Φ : DV → List Blk → Prop) (h : Φ (cNum n 0).dv []) : GoC cfg Pr Ow 25 [.int .i64 n] [] Φ := by
  have h85 : SpecOK cfg Pr Ow 85 decS := by
    intro xs ex k hk
    unfold decS at hk
    split at hk
    · refine fn_of0 E0_ok rfl ?_
      rw [vc85]; exact hk
    · exact hk.elim
  have h50 : SpecOK cfg Pr Ow 50 vNumS := by
    intro xs ex k hk
    unfold vNumS at hk
    split at hk
    · refine fn_of0 (E := E50) (envOK ⟨h85, trivial⟩ trivial trivial) rfl ?_
      rw [vc50]; exact hk
    · exact hk.elim
  refine go_wk (WkL.refl _) (fn_of0 (E := E25) (envOK ⟨h50, trivial⟩ trivial trivial) rfl ?_)
  rw [vc25]
  exact ⟨_, .inr (wk_cells (cNum n 0) 18), h⟩
theorem go26 (n : Int) (a b : Tr) (Φ : DV → List Blk → Prop) (h : Φ (biT n a b).dv []) : GoC cfg Pr Ow 26 [.int .i64 n, a.dv, b.dv] [] Φ := by
  refine fn_of0 E0_ok rfl ?_
  rw [vc26]
  simp only [biT, Tr.dv, Tr.cells, Tr.cellsK, Tr.encs, Tr.kids, Tr.enc_eq] at h
  exact h
theorem nt108 : ntOf cfg 108 = 95 := by kernel_rfl
/-- primary at a number of one digit. -/
theorem leafD_ok (s : List UInt8) (hs : s.length ≤ 4000000000) (row col : Int)
    (hD : ∀ d : Nat, 1 ≤ d → d ≤ 4 → ∀ Φ : DV → List Blk → Prop, Φ (.tup [.agg [.int .i64 d, .int .i64 0], .int .i64 0]) [] → GoC cfg Pr Ow 110 [.str [UInt8.ofNat (48 + d)]] [] Φ)
    (p q : Nat) (t : Tr) (p2 : Nat) (hp : p ≤ s.length) (hq : blN s p = q) (h : leafD s q t p2) : p2 ≤ s.length ∧ RdsOK Pr Ow s row col .prim p t p2 := by
  obtain ⟨d, h1, h2, h3, h4, h5, h6, rfl, rfl⟩ := h
  refine ⟨h3, fun Φ hΦ => ?_⟩
  refine fn_of0 (E := E108 s row col p q q (q + 1) (cNum d 0) (cNum d 0) True False False False False) (envOK ⟨callE_ok fun _ Φ hΦ => go36 s hs row col 0 0 p Φ (by rw [hq]; exact hΦ), noCall_ok,
    callE_ok fun _ Φ hΦ => ?_, callE_ok fun h => h.elim, callE_ok fun h => h.elim, callE_ok fun h => h.elim, callE_ok fun h => h.elim, callE_ok fun h => h.elim, trivial⟩ trivial trivial) rfl ?_
  · refine go74 s hs row col q (by omega) h6 d 0 ?_ Φ (by rw [h5]; exact hΦ)
    rw [h5]
    have : (s.drop q).take 1 = [UInt8.ofNat (48 + d)] := by
      rw [List.drop_eq_getElem_cons h3]
      simp only [List.take_succ_cons, List.take_zero]
      congr 1
      unfold byt at h4
      rw [List.getD_eq_getElem?_getD, List.getElem?_eq_getElem h3] at h4
      apply UInt8.toNat_inj.1
      rw [show s[q].toNat = 48 + d from h4]
      simp; omega
    rw [this]
    exact hD d h1 h2
  · rw [vc108]
    unfold byt at h4
    rw [h4]
    refine ⟨⟨trivial, rfl, rfl⟩, brB_of (fun h => ?_) fun _ => obB_of (decide_eq_true h3) (brB_of (fun _ => ⟨⟨trivial, rfl, rfl⟩, hΦ⟩) (fun h => ?_))⟩
    · have := of_decide_eq_true h; omega
    · exfalso
      have e1 : decide (((48 + d : Nat) : Int) ≥ 48) = true := decide_eq_true (by omega)
      have e2 : decide (((48 + d : Nat) : Int) ≤ 57) = true := decide_eq_true (by omega)
      rw [e1, e2] at h
      cases h
/-- ftext.Parse of a text that is read. -/
theorem go15 (s : List UInt8) (hs : s.length ≤ 4000000000) (row col : Int) (hg : goodB row col = true) (p p2 : Nat) (t : Tr) (f : Int)
    (hr : p ≤ s.length ∧ RdsOK Pr Ow s row col (.lvl 1) 0 t p) (hb : blN s p = s.length)
    (hc : ∀ Φ : DV → List Blk → Prop, Φ (.int .i64 f) [] → GoC cfg Pr Ow 29 [t.dv] [] Φ) (Φ : DV → List Blk → Prop)
    (h0 : f = 0 → Φ (.tup [t.dv, .int .i64 0, .int .i64 0]) []) (h1 : f ≠ 0 → Φ (.tup [.agg zeroE, .int .i64 0, .int .i64 f]) []) : GoC cfg Pr Ow 15 [.str s, .agg [.int .i64 row, .int .i64 col]] [] Φ := by
  refine fn_of0 (E := E15 s row col p s.length t f) (envOK ⟨callG_ok fun _ Φ h => go24 row col Φ (by rw [hg]; exact h), callE_ok fun _ => hr.2, callE_ok fun _ Φ hΦ => go36 s hs row col 0 0 p Φ (by rw [hb]; exact hΦ), noCall_ok, callG_ok fun _ => hc, trivial⟩ trivial trivial) rfl ?_
  rw [vc15]
  refine ⟨trivial, rfl, ⟨trivial, rfl, rfl⟩, ⟨trivial, rfl, rfl⟩, brB_of (fun h => ?_) fun _ => ⟨trivial, rfl, brB_of (fun h => h1 (by simpa [bne] using h)) (fun h => ?_)⟩⟩
  · have := of_decide_eq_true h; omega
  · exact h0 (by simpa [bne] using h)
end
end Go.Det.Sea
end

section
set_option linter.unusedVariables false
set_option linter.unusedSimpArgs false
namespace Go.Det
theorem rests_sub : ∀ {d : Code} {b : Nat} {c : Code}, (b, c) ∈ rests d → ∀ x ∈ rests c, x ∈ rests d
  | .seq x y, b, c, h, z, hz => by
    have hx := @rests_sub x b c
    have hy := @rests_sub y b c
    simp only [rests, List.mem_append] at h ⊢
    rcases h with h | h | h
    · cases x with
      | region id o dr =>
        simp only [List.mem_cons, Prod.mk.injEq, List.not_mem_nil, or_false] at h
        obtain ⟨rfl, rfl⟩ := h
        simp only [rests, List.mem_append, List.nil_append] at hz ⊢
        exact hz.imp id .inr
      | _ => simp at h
    · exact .inr (.inl (hx h z hz))
    · exact .inr (.inr (hy h z hz))
  | .cond _ x y, b, c, h, z, hz => by
    have hx := @rests_sub x b c
    have hy := @rests_sub y b c
    simp only [rests, List.mem_append] at h ⊢
    rcases h with h | h
    · exact .inl (hx h z hz)
    · exact .inr (hy h z hz)
  | .block _ x, b, c, h, z, hz => by
    have hx := @rests_sub x b c
    simp only [rests] at h ⊢
    exact hx h z hz
  | .scope x, b, c, h, z, hz => by
    have hx := @rests_sub x b c
    simp only [rests] at h ⊢
    exact hx h z hz
  | .skip, b, c, h, z, hz => by simp [rests] at h
  | .label _, b, c, h, z, hz => by simp [rests] at h
  | .region _ _ _, b, c, h, z, hz => by simp [rests] at h
  | .loop _, b, c, h, z, hz => by simp [rests] at h
  | .exit _, b, c, h, z, hz => by simp [rests] at h
  | .goto _, b, c, h, z, hz => by simp [rests] at h
  | .ret, b, c, h, z, hz => by simp [rests] at h
  | .rangeFunc .., b, c, h, z, hz => by simp [rests] at h
  | .refuse _, b, c, h, z, hz => by simp [rests] at h
section
variable {C : Cfg} {Pr Ow : Nat → List DV → DV → Prop} {E : Env}
/-- A cut's own code, cut again. -/
theorem rest_cut (H : EnvOK C Pr Ow E) {g b nt : Nat} (hnt : ntOf C g = nt) (hL : E.ls = []) (hn : nodupK (rests (codeOf C g)) = true)
    (hC : ∀ b sp, look b E.cu = some sp → ∀ st k, sp st k → GoX C Pr Ow g nt (restOf C g b) st k) {ks bs : List Nat} {K : Ex → St → Prop} {st : St}
    (h : vcR C E g b st (restK ks bs nt K)) : GoX C Pr Ow g nt (restOf C g b) st K := by
  refine rest_go H hnt (noLoops hL) ?_ h
  intro b' c sp hm hl st k hs
  have hm' : (b', c) ∈ rests (codeOf C g) := by
    unfold restOf at hm
    cases hk : look b (rests (codeOf C g)) with
    | none => rw [hk] at hm; simp [rests] at hm
    | some d => rw [hk] at hm; exact rests_sub (look_mem hk) _ hm
  have := hC b' sp hl st k hs
  unfold restOf at this
  rwa [look_of_nodup hn hm'] at this
end
end Go.Det
namespace Go.Det.Sea
open Go Go.Det

/-- Trees of small numbers and signs are in order. -/
def okX : Sx → Bool
  | .num _ => true
  | .bin o a b => Nat.ble 1 o && (Nat.ble o 12 && (okX a && okX b))
theorem part_num (uE : List UInt8 → Int) (d : Int) : partE uE (cNum d 0) = 0 := by
  simp [partE, cNum, withinB, ownT, aloneB, vlEq, rfEq, v0, r0, valE, decE, ownV, restE, areaE, refE, goodB, countsB, Tr.kind, Tr.v, Tr.a, Tr.b, Tr.sheet, Tr.op, Tr.kids]
theorem part_bin (uE : List UInt8 → Int) (o : Int) (h1 : 1 ≤ o) (h2 : o ≤ 12) (a b : Tr) : partE uE (biT o a b) = 0 := by
  simp [partE, biT, withinB, ownT, aloneB, vlEq, rfEq, v0, r0, restE, areaE, refE, goodB, countsB, Tr.kind, Tr.v, Tr.a, Tr.b, Tr.sheet, Tr.op, Tr.kids, h1, h2]
theorem bd_lt (i : Nat) : bd i ≤ 5 := by
  unfold bd
  rcases i with _ | _ | _ | _ | _ | _ | _ | _ | _ | _ | _ | _ | i <;> simp
theorem check_want (uE : List UInt8 → Int) {i k m : Nat} (hi : i < 12) (hk : k < 12) (hm : m < 12) : checkE uE (wantX i k m).tr = 0 ∧ (wantX i k m).tr.count = 7 ∧ ∀ p ∈ (wantX i k m).tr.pre 1, p.1.kind = 1 → p.1.v.kind ≠ 2 := by
  have b1 : ∀ a b, partE uE (biT ((i + 1 : Nat) : Int) a b) = 0 := fun a b => part_bin uE _ (by omega) (by omega) a b
  have b2 : ∀ a b, partE uE (biT ((k + 1 : Nat) : Int) a b) = 0 := fun a b => part_bin uE _ (by omega) (by omega) a b
  have b3 : ∀ a b, partE uE (biT ((m + 1 : Nat) : Int) a b) = 0 := fun a b => part_bin uE _ (by omega) (by omega) a b
  have n1 : ∀ d : Int, partE uE (cNum d 0) = 0 := part_num uE
  have pn : ∀ (d : Int) (x : Int), (cNum d 0).pre x = [(cNum d 0, x)] := fun d x => by simp [cNum, Tr.pre, Tr.pres]
  have pb : ∀ (o : Int) (a b : Tr) (x : Int), (biT o a b).pre x = (biT o a b, x) :: (a.pre (x + 1) ++ b.pre (x + 1)) := fun o a b x => by simp [biT, Tr.pre, Tr.pres]
  have cn : ∀ (d : Int), (cNum d 0).count = 1 := fun d => by simp [cNum, Tr.count, Tr.counts]
  have cb : ∀ (o : Int) (a b : Tr), (biT o a b).count = 1 + (a.count + b.count) := fun o a b => by simp [biT, Tr.count, Tr.counts]
  have kn : ∀ (d : Int), (cNum d 0).kind = 1 ∧ (cNum d 0).v.kind = 1 := fun d => ⟨rfl, rfl⟩
  have kb : ∀ (o : Int) (a b : Tr), (biT o a b).kind = 8 := fun o a b => rfl
  have key : ∀ x : Sx, (x = .bin (m + 1) (.bin (k + 1) (.bin (i + 1) (.num 1) (.num 2)) (.num 3)) (.num 4) ∨ x = .bin (k + 1) (.bin (i + 1) (.num 1) (.num 2)) (.bin (m + 1) (.num 3) (.num 4)) ∨
      x = .bin (m + 1) (.bin (i + 1) (.num 1) (.bin (k + 1) (.num 2) (.num 3))) (.num 4) ∨ x = .bin (i + 1) (.num 1) (.bin (m + 1) (.bin (k + 1) (.num 2) (.num 3)) (.num 4)) ∨ x = .bin (i + 1) (.num 1) (.bin (k + 1) (.num 2) (.bin (m + 1) (.num 3) (.num 4)))) →
      checkE uE x.tr = 0 ∧ x.tr.count = 7 ∧ ∀ p ∈ x.tr.pre 1, p.1.kind = 1 → p.1.v.kind ≠ 2 := by
    intro x hx
    rcases hx with rfl | rfl | rfl | rfl | rfl
    all_goals
      simp only [Sx.tr]
      refine ⟨?_, ?_, ?_⟩
      · simp only [checkE, pb, pn, List.cons_append, List.nil_append, firstE, b1, b2, b3, n1, List.any_cons, List.any_nil, List.length_cons, List.length_nil]
        rfl
      · simp only [cb, cn]
      · intro p hp
        simp only [pb, pn, List.cons_append, List.nil_append, List.mem_cons, List.not_mem_nil, or_false] at hp
        rcases hp with rfl | rfl | rfl | rfl | rfl | rfl | rfl <;> simp [kn, kb]
  apply key
  unfold wantX
  simp only
  cases (Nat.ble (bd k) (bd i) && Nat.ble (bd m) (bd k)) with
  | true => exact .inl rfl
  | false =>
    cases (Nat.ble (bd k) (bd i)) with
    | true => exact .inr (.inl rfl)
    | false =>
      cases (Nat.ble (bd m) (bd k) && Nat.ble (bd m) (bd i)) with
      | true => exact .inr (.inr (.inl rfl))
      | false =>
        cases (Nat.ble (bd m) (bd k)) with
        | true => exact .inr (.inr (.inr (.inl rfl)))
        | false => exact .inr (.inr (.inr (.inr rfl)))

theorem nt6 : ntOf cfg 6 = 194 := by kernel_rfl
theorem nr6 : nodupK (rests (codeOf cfg 6)) = true := by kernel_rfl
def btS (i k m : Nat) : Nat → Tr := fun n =>
  let n1 := cNum 1 0; let n2 := cNum 2 0; let n3 := cNum 3 0; let n4 := cNum 4 0
  let oi : Int := ((i + 1 : Nat) : Int); let ok : Int := ((k + 1 : Nat) : Int); let om : Int := ((m + 1 : Nat) : Int)
  match n with
  | 1 => n1 | 2 => n2 | 3 => n3 | 4 => n4
  | 108 => biT oi n1 n2 | 110 => biT ok (biT oi n1 n2) n3 | 112 => biT om (biT ok (biT oi n1 n2) n3) n4
  | 128 => biT oi n1 n2 | 133 => biT om n3 n4 | 134 => biT ok (biT oi n1 n2) (biT om n3 n4)
  | 145 => biT oi n1 n2 | 150 => biT om n3 n4 | 151 => biT ok (biT oi n1 n2) (biT om n3 n4)
  | 170 => biT ok n2 n3 | 171 => biT oi n1 (biT ok n2 n3) | 173 => biT om (biT oi n1 (biT ok n2 n3)) n4
  | 187 => biT ok n2 n3 | 189 => biT om (biT ok n2 n3) n4 | 190 => biT oi n1 (biT om (biT ok n2 n3) n4)
  | 88 => biT om n3 n4 | 89 => biT ok n2 (biT om n3 n4) | 90 => biT oi n1 (biT ok n2 (biT om n3 n4))
  | _ => n1
theorem bd_get : ∀ i, i < 12 → [DV.int .i64 (3 : Int), .int .i64 (3 : Int), .int .i64 (4 : Int), .int .i64 (4 : Int), .int .i64 (5 : Int), .int .i64 (2 : Int), .int .i64 (1 : Int), .int .i64 (1 : Int), .int .i64 (1 : Int), .int .i64 (1 : Int), .int .i64 (1 : Int), .int .i64 (1 : Int)][i]? = some (DV.int .i64 ((bd i : Nat) : Int))
  | 0, _ => rfl | 1, _ => rfl | 2, _ => rfl | 3, _ => rfl | 4, _ => rfl | 5, _ => rfl | 6, _ => rfl | 7, _ => rfl | 8, _ => rfl | 9, _ => rfl | 10, _ => rfl | 11, _ => rfl
  | n + 12, h => by omega
theorem ge_cast (a b : Nat) : decide ((a : Int) ≥ (b : Int)) = Nat.ble b a := by
  cases h : Nat.ble b a with
  | true => exact decide_eq_true (by have := Nat.le_of_ble_eq_true h; omega)
  | false =>
    refine decide_eq_false fun hh => ?_
    have := Nat.ble_eq_true_of_le (m := a) (n := b) (by omega)
    rw [h] at this; cases this
section
variable {Pr Ow : Nat → List DV → DV → Prop} {uN uE : List UInt8 → Int}
theorem nat_toNat (i : Nat) : Int.toNat (i : Int) = i := by simp
theorem rest6_23 (T : Tr) (hw : ∀ Φ : DV → List Blk → Prop, Φ (.psl 19 (nds (T.pre 1))) [] → GoC cfg Pr Ow 48 [T.dv] [] Φ) (hl : (T.pre 1).length ≤ 4000000000) (K : Ex → St → Prop) (hK : K .ret (mkS 194 [(6, .bool true)] [] [])) :
    GoX cfg Pr Ow 6 194 (restOf cfg 6 23) (st6_23 T T) K := by
  refine rest_go0 (E := E6d T) (envOK ⟨callG_ok fun _ => Same_go T _ hl hw, trivial⟩ trivial trivial) nt6 rfl rfl (ks := [6]) (bs := []) ?_
  rw [vc6d]
  exact ⟨trivial, rfl, hK⟩
theorem rest6_11 {i k m : Nat} (hi : i < 12) (hk : k < 12) (hm : m < 12) (hw : ∀ T : Tr, T.count ≤ 900000 → ∀ Φ : DV → List Blk → Prop, Φ (.psl 19 (nds (T.pre 1))) [] → GoC cfg Pr Ow 48 [T.dv] [] Φ) (hpl : ∀ (t : Tr) (d : Int), (t.pre d).length = t.count) (K : Ex → St → Prop) (hK : K .ret (mkS 194 [(6, .bool true)] [] [])) :
    GoX cfg Pr Ow 6 194 (restOf cfg 6 11) (st6_11 i k m (wantX i k m).tr (btS i k m)) K := by
  obtain ⟨c1, c2, c3⟩ := check_want (fun _ => 0) hi hk hm
  generalize hT : (wantX i k m).tr = T at *
  refine rest_cut (E := E6c ((i + 1 : Nat) : Int) ((k + 1 : Nat) : Int) ((m + 1 : Nat) : Int) (bd i) (bd k) (bd m) (btS i k m) (fun st => st = st6_23 T T)) (envOK trivial
    ⟨callG_ok fun _ => go26 _ _ _, callG_ok fun _ => go26 _ _ _, callG_ok fun _ => go26 _ _ _, callG_ok fun _ => go26 _ _ _, callG_ok fun _ => go26 _ _ _, callG_ok fun _ => go26 _ _ _, callG_ok fun _ => go26 _ _ _, callG_ok fun _ => go26 _ _ _, callG_ok fun _ => go26 _ _ _,
     callG_ok fun _ => go26 _ _ _, callG_ok fun _ => go26 _ _ _, callG_ok fun _ => go26 _ _ _, callG_ok fun _ => go26 _ _ _, callG_ok fun _ => go26 _ _ _, callG_ok fun _ => go26 _ _ _, callG_ok fun _ => go26 _ _ _, callG_ok fun _ => go26 _ _ _, callG_ok fun _ => go26 _ _ _, trivial⟩ trivial) nt6 rfl nr6 ?_ (ks := [6]) (bs := []) ?_
  · intro b sp hl st k' hs
    have hm' := look_mem hl
    simp only [E6c, List.mem_cons, Prod.mk.injEq, List.not_mem_nil, or_false] at hm'
    obtain ⟨rfl, rfl⟩ := hm'
    refine cutS_ok (fun st hst k' hk' => ?_) hs
    subst hst
    exact rest6_23 T (hw T (by omega)) (by rw [hpl]; omega) k' hk'
  · rw [vc6e]
    simp only [nat_toNat, ge_cast]
    rw [← cast_succ i, ← cast_succ k, ← cast_succ m]
    have p0 : ∀ n : Nat, decide ((0 : Int) ≤ (n : Int)) = true := fun n => decide_eq_true (by omega)
    have p12 : ∀ n : Nat, n < 12 → decide (n < 12) = true := fun n h => decide_eq_true h
    have ri : ∀ n : Nat, n < 12 → inR .i64 ((n + 1 : Nat) : Int) = true := fun n h => inR64 (by omega)
    refine obB_of (p0 i) (obB_of (p12 i hi) ⟨bd_get i hi, obB_of (p0 k) (obB_of (p12 k hk) ⟨bd_get k hk, obB_of (p0 m) (obB_of (p12 m hm) ⟨bd_get m hm, ?_⟩)⟩)⟩)
    have fin : ∀ W : Tr, T = W → mkS 194 [(12, DV.ptr 12 18 0 0), (19, DV.ptr 19 18 0 0)] [(12, Blk.box T.cells), (19, Blk.box W.cells)] [] = st6_23 T T := by
      rintro W rfl; rfl
    unfold wantX at hT
    simp only at hT
    refine brB_of (fun h => ?_) (fun h => ?_)
    · rw [h] at hT
      exact obB_of (ri m hm) (obB_of (ri k hk) (obB_of (ri i hi) ⟨trivial, rfl, trivial, rfl, trivial, rfl, fin _ hT.symm, hK⟩))
    rw [h] at hT
    have hqp : ∀ (b : Bool) (A : Prop), (b = true → A) → (b = false → A) → A := fun b A h1 h2 => by cases b; exact h2 rfl; exact h1 rfl
    refine brB_of (fun h2 => ?_) (fun h2 => brB_of (fun h3 => ?_) (fun h3 => ?_))
    · rw [Bool.and_eq_true] at h2
      rw [h2.1] at hT
      exact obB_of (ri k hk) (obB_of (ri i hi) ⟨trivial, rfl, obB_of (ri m hm) ⟨trivial, rfl, trivial, rfl, fin _ hT.symm, hK⟩⟩)
    · rw [h3] at hT
      exact obB_of (ri k hk) (obB_of (ri i hi) ⟨trivial, rfl, obB_of (ri m hm) ⟨trivial, rfl, trivial, rfl, fin _ hT.symm, hK⟩⟩)
    · rw [h3] at hT
      refine brB_of (fun h4 => ?_) (fun h4 => brB_of (fun h5 => ?_) (fun h5 => ?_))
      · rw [h4] at hT
        exact obB_of (ri m hm) (obB_of (ri i hi) (obB_of (ri k hk) ⟨trivial, rfl, trivial, rfl, trivial, rfl, fin _ hT.symm, hK⟩))
      · rw [h4, h5] at hT
        exact obB_of (ri i hi) (obB_of (ri m hm) (obB_of (ri k hk) ⟨trivial, rfl, trivial, rfl, trivial, rfl, fin _ hT.symm, hK⟩))
      · rw [h4, h5] at hT
        exact obB_of (ri i hi) (obB_of (ri k hk) (obB_of (ri m hm) ⟨trivial, rfl, trivial, rfl, trivial, rfl, fin _ hT.symm, hK⟩))
end
end Go.Det.Sea
end

section
set_option linter.unusedVariables false
set_option linter.unusedSimpArgs false
namespace Go.Det.Sea
open Go Go.Det
section
variable {Pr Ow : Nat → List DV → DV → Prop}
theorem rest6_9 {i k m : Nat} (hi : i < 12) (hk : k < 12) (hm : m < 12) (hw : ∀ T : Tr, T.count ≤ 900000 → ∀ Φ : DV → List Blk → Prop, Φ (.psl 19 (nds (T.pre 1))) [] → GoC cfg Pr Ow 48 [T.dv] [] Φ) (hpl : ∀ (t : Tr) (d : Int), (t.pre d).length = t.count) (K : Ex → St → Prop) (hK : K .ret (mkS 194 [(6, .bool true)] [] [])) :
    GoX cfg Pr Ow 6 194 (restOf cfg 6 9) (st6_9 i k m (wantX i k m).tr) K := by
  refine rest_cut (E := E6b (btS i k m) (fun st => st = st6_11 i k m (wantX i k m).tr (btS i k m))) (envOK trivial ⟨callG_ok fun _ => go25 _, callG_ok fun _ => go25 _, callG_ok fun _ => go25 _, callG_ok fun _ => go25 _, trivial⟩ trivial) nt6 rfl nr6 ?_ (ks := [6]) (bs := []) ?_
  · intro b sp hl st k' hs
    have hm' := look_mem hl
    simp only [E6b, List.mem_cons, Prod.mk.injEq, List.not_mem_nil, or_false] at hm'
    obtain ⟨rfl, rfl⟩ := hm'
    refine cutS_ok (fun st hst k' hk' => ?_) hs
    subst hst
    exact rest6_11 hi hk hm hw hpl k' hk'
  · rw [vc6c]
    exact ⟨trivial, rfl, trivial, rfl, trivial, rfl, trivial, rfl, rfl, hK⟩
theorem txt_len (i k m : Nat) : (txtS i k m).length ≤ 10 := by
  have a := sgn_len i; have b := sgn_len k; have c := sgn_len m
  simp only [txtS, List.length_cons, List.length_append, List.length_nil]; omega
theorem rest6_6 {i k m : Nat} (hi : i < 12) (hk : k < 12) (hm : m < 12) (hw : ∀ T : Tr, T.count ≤ 900000 → ∀ Φ : DV → List Blk → Prop, Φ (.psl 19 (nds (T.pre 1))) [] → GoC cfg Pr Ow 48 [T.dv] [] Φ) (hpl : ∀ (t : Tr) (d : Int), (t.pre d).length = t.count)
    (hD : ∀ d : Nat, 1 ≤ d → d ≤ 4 → ∀ Φ : DV → List Blk → Prop, Φ (.tup [.agg [.int .i64 d, .int .i64 0], .int .i64 0]) [] → GoC cfg Pr Ow 110 [.str [UInt8.ofNat (48 + d)]] [] Φ) (K : Ex → St → Prop) (hK : K .ret (mkS 194 [(6, .bool true)] [] [])) :
    GoX cfg Pr Ow 6 194 (restOf cfg 6 6) (st6_6 i k m) K := by
  obtain ⟨c1, c2, c3⟩ := check_want (fun _ => 0) hi hk hm
  have hlen := txt_len i k m
  have hs : (txtS i k m).length ≤ 4000000000 := by omega
  have hr := rds_ok (Pr := Pr) (Ow := Ow) (txtS i k m) 0 0 hs (leaf := leafD (txtS i k m)) (head := fun _ _ _ => False) (fun p q t p2 hp hq h => leafD_ok _ hs 0 0 hD p q t p2 hp hq h) (fun _ _ _ _ _ _ h => h.elim) (signs_read hi hk hm) (by omega)
  have hb : blN (txtS i k m) (txtS i k m).length = (txtS i k m).length := blN_stop (by omega)
  refine rest_cut (E := E6a2 (sgn i) (sgn k) (sgn m) (txtS i k m) (wantX i k m).tr (fun st => st = st6_9 i k m (wantX i k m).tr)) (envOK ⟨callG_ok fun _ Φ hΦ => ?parse, trivial⟩ trivial trivial) nt6 rfl nr6 ?_ (ks := [6]) (bs := []) ?_
  case parse =>
    refine go15 (txtS i k m) hs 0 0 rfl (txtS i k m).length 0 (wantX i k m).tr 0 hr hb ?_ Φ (fun _ => hΦ) (fun h => (h rfl).elim)
    intro Φ hΦ
    refine go29 (uN := fun _ => 0) (uE := fun _ => 0) _ (by rw [hpl]; omega) (fun p hp h1 h2 => (c3 p hp h1 h2).elim) (hw _ (by omega)) Φ (by rw [c1]; exact hΦ)
  · intro b sp hl st k' hs
    have hm' := look_mem hl
    simp only [E6a2, List.mem_cons, Prod.mk.injEq, List.not_mem_nil, or_false] at hm'
    obtain ⟨rfl, rfl⟩ := hm'
    refine cutS_ok (fun st hst k' hk' => ?_) hs
    subst hst
    exact rest6_9 hi hk hm hw hpl k' hk'
  · rw [vc6b]
    simp only [nat_toNat]
    have p0 : ∀ n : Nat, decide ((0 : Int) ≤ (n : Int)) = true := fun n => decide_eq_true (by omega)
    have p12 : ∀ n : Nat, n < 12 → decide (n < 12) = true := fun n h => decide_eq_true h
    have a := sgn_len i; have b := sgn_len k; have c := sgn_len m
    refine obB_of (p0 i) (obB_of (p12 i hi) ⟨sgn_get i hi, obB_of ?_ (obB_of ?_ (obB_of (p0 k) (obB_of (p12 k hk) ⟨sgn_get k hk, obB_of ?_ (obB_of ?_ (obB_of (p0 m) (obB_of (p12 m hm) ⟨sgn_get m hm, obB_of ?_ (obB_of ?_ ⟨trivial, ?_, rfl, hK⟩)⟩)))⟩)))⟩)
    iterate 6
      · apply decide_eq_true
        first
          | omega
          | (simp only [List.length_append, List.length_cons, List.length_nil]; omega)
    · simp [txtS]
/-- TextSigns: true of any three signs, given what 'known', 'walk' and dec.Parse of a digit do. -/
theorem TextSigns_go (hkn : ∀ Φ : DV → List Blk → Prop, Φ (.bool true) [] → GoC cfg Pr Ow 8 [] [] Φ) (hw : ∀ T : Tr, T.count ≤ 900000 → ∀ Φ : DV → List Blk → Prop, Φ (.psl 19 (nds (T.pre 1))) [] → GoC cfg Pr Ow 48 [T.dv] [] Φ) (hpl : ∀ (t : Tr) (d : Int), (t.pre d).length = t.count)
    (hD : ∀ d : Nat, 1 ≤ d → d ≤ 4 → ∀ Φ : DV → List Blk → Prop, Φ (.tup [.agg [.int .i64 d, .int .i64 0], .int .i64 0]) [] → GoC cfg Pr Ow 110 [.str [UInt8.ofNat (48 + d)]] [] Φ)
    (a b c : Nat) (Φ : DV → List Blk → Prop) (hΦ : Φ (.bool true) []) : GoC cfg Pr Ow 6 [.int .u8 a, .int .u8 b, .int .u8 c] [] Φ := by
  have w : ∀ n : Nat, IntKind.wrap .i64 (Int.tmod (n : Int) 12) = ((n % 12 : Nat) : Int) := by
    intro n
    have e : Int.tmod (n : Int) 12 = ((n % 12 : Nat) : Int) := by
      rw [Int.tmod_eq_emod_of_nonneg (by omega)]; omega
    rw [e, wrap64 (by omega) (by omega)]
  have l : ∀ n : Nat, n % 12 < 12 := fun n => Nat.mod_lt _ (by omega)
  refine fn_cut (E := E6a (fun st => st = st6_6 ((a % 12 : Nat) : Int) ((b % 12 : Nat) : Int) ((c % 12 : Nat) : Int))) (envOK ⟨callS0_ok hkn, trivial⟩ trivial trivial) nt6 rfl nr6 ?_ ?_
  · intro b' sp hl st k' hs
    have hm' := look_mem hl
    simp only [E6a, List.mem_cons, Prod.mk.injEq, List.not_mem_nil, or_false] at hm'
    obtain ⟨rfl, rfl⟩ := hm'
    refine cutS_ok (fun st hst k' hk' => ?_) hs
    subst hst
    exact rest6_6 (l a) (l b) (l c) hw hpl hD k' hk'
  · rw [vc6a, w, w, w]
    exact ⟨rfl, hΦ⟩
end
end Go.Det.Sea
end

section
set_option linter.unusedVariables false
set_option linter.unusedSimpArgs false
namespace Go.Det.Sea
open Go Go.Det Go.Proofs Go.ChangeShapes Go.WideShapes Go.ChangeAt Go.RowKit Go.Proofs.YtpfjeinhmmmhkaaGreatDoor

/-! dec.Parse of the digits 1 to 4. -/
def kd1 (d : Nat) : KE := ⟨154, [.str [UInt8.ofNat (48 + d)], .int .u8 46], [], .int .i64 (-1), []⟩
def kd2 : KE := ⟨152, [.str [], .str [48]], [], .bool false, []⟩
def kd3 (d : Nat) : KE := ⟨110, [.str [UInt8.ofNat (48 + d)]], [], .tup [.agg [.int .i64 d, .int .i64 0], .int .i64 0], []⟩
theorem kd2_ok (n : Int) : KG n kd2 := kg n [] trivial (by kernel_rfl) (by kernel_rfl)
theorem kd3_1 (n : Int) : KG n (kd3 1) := kg n [kd1 1, kd2] ⟨k154 n (by kernel_rfl), kd2_ok n, trivial⟩ (by kernel_rfl) (by kernel_rfl)
theorem kd3_2 (n : Int) : KG n (kd3 2) := kg n [kd1 2, kd2] ⟨k154 n (by kernel_rfl), kd2_ok n, trivial⟩ (by kernel_rfl) (by kernel_rfl)
theorem kd3_3 (n : Int) : KG n (kd3 3) := kg n [kd1 3, kd2] ⟨k154 n (by kernel_rfl), kd2_ok n, trivial⟩ (by kernel_rfl) (by kernel_rfl)
theorem kd3_4 (n : Int) : KG n (kd3 4) := kg n [kd1 4, kd2] ⟨k154 n (by kernel_rfl), kd2_ok n, trivial⟩ (by kernel_rfl) (by kernel_rfl)
theorem kd3_ok (n : Int) (d : Nat) (h1 : 1 ≤ d) (h2 : d ≤ 4) : KG n (kd3 d) := by
  match d, h1, h2 with
  | 1, _, _ => exact kd3_1 n
  | 2, _, _ => exact kd3_2 n
  | 3, _, _ => exact kd3_3 n
  | 4, _, _ => exact kd3_4 n
/-- What is known ahead, with the digits. -/
def prD (g : Nat) (xs : List DV) (r : DV) : Prop := prF g xs r ∨ ∃ d : Nat, 1 ≤ d ∧ d ≤ 4 ∧ g = 110 ∧ xs = [.str [UInt8.ofNat (48 + d)]] ∧ r = .tup [.agg [.int .i64 d, .int .i64 0], .int .i64 0]
theorem prD_ok (n : Int) : ∀ g xs r, prD g xs r → Callable Tryz.prog g ∧ CallOK Tryz.prog (cfgG n) g xs [] r [] := by
  rintro g xs r (h | ⟨d, h1, h2, rfl, rfl, rfl⟩)
  · exact prF_ok n g xs r h
  · exact Run.sound (cfgG_ok n (prG_ok n)) (kd3_ok n d h1 h2)
theorem callOK_D {g : Nat} {xs : List DV} {r : DV} (h : GoC cfg prD owG g xs [] fun r' ex' => r' = r ∧ ex' = []) (n : Int) : CallOK Tryz.prog (cfgG n) g xs [] r [] := by
  have := Run.up (fun _ => rfl) (cfgG n).glob (cfgG n).prim (GoC.run h)
  rw [← cfgG_up] at this
  exact (Run.sound (cfgG_ok n (prD_ok n)) this).2
namespace TextSigns
theorem callOK (n : Int) (a b c : Nat) : CallOK Tryz.prog (cfgG n) 6 [.int .u8 a, .int .u8 b, .int .u8 c] [] (.bool true) [] :=
  callOK_D (TextSigns_go (fun Φ h => go_prim (.inl (.inr ⟨rfl, rfl, rfl⟩)) h) (fun t ht Φ h => go_prim (.inl (.inl (.inl ⟨rfl, t, ht, rfl, rfl⟩))) h) Tr.pre_len (fun d h1 h2 Φ h => go_prim (.inr ⟨d, h1, h2, rfl, rfl, rfl⟩) h) a b c _ ⟨rfl, rfl⟩) n
section
variable {H : Type} (enc : TypeId × Value → H)
set_option maxRecDepth 100000 in
theorem contractG (hc : ∀ n, ∀ a b c : Nat, CallOK Tryz.prog (cfgG n) 6 [.int .u8 a, .int .u8 b, .int .u8 c] [] (.bool true) []) (W : World) (base : Nat) (args : Array Value) (ds gs : List (DataW H)) (before : List MemPlace)
    (hval : ∀ (j : Nat) t v, Tryz.f6.params[j]? = some t → args[j]? = some v → Value.okWide Tryz.prog W .any base t v)
    (hW : DataW.Whole enc Tryz.prog Tryz.f6.params.toList Rows.textSignsSpec.vars false W args.toList ds gs before) (hsh : W.ShapedOpen Tryz.prog) :
    Calls Tryz.prog 6 args W fun e W' => ∃ v, e = .returned v ∧ Rows.textSignsSpec.post enc Tryz.prog Tryz.f6 false true false false W args v W' := by
  have hW' := hW
  obtain ⟨p, q, hA0, hV, rfl, _, _⟩ := hW
  have hA : DataW.TrodAll enc Tryz.prog W 0 (fun _ => true) true Tryz.f6.params.toList args.toList ds p := hA0
  rw [Tryz.params6] at hA hval
  obtain ⟨v1, r1, d1, ds1, p1, q1, ha1, rfl, rfl, ⟨n1, h1⟩, hA⟩ := trodAll_cons hA
  obtain ⟨v2, r2, d2, ds2, p2, q2, rfl, rfl, rfl, ⟨n2, h2⟩, hA⟩ := trodAll_cons hA
  obtain ⟨v3, r3, d3, ds3, p3, q3, rfl, rfl, rfl, ⟨n3, h3⟩, hA⟩ := trodAll_cons hA
  obtain ⟨rfl, rfl, rfl⟩ := trodAll_nil hA
  have hargs2 : args = #[v1, v2, v3] := by cases args; simp_all
  subst hargs2
  obtain ⟨y1, rfl⟩ := okWide_int Tryz.underlying5 (hval 0 5 v1 (by simp) (by simp))
  obtain ⟨y2, rfl⟩ := okWide_int Tryz.underlying5 (hval 1 5 v2 (by simp) (by simp))
  obtain ⟨y3, rfl⟩ := okWide_int Tryz.underlying5 (hval 2 5 v3 (by simp) (by simp))
  have nn : ∀ {y : Int} {n : Nat} {x : DataW H × List MemPlace}, DataW.trod enc Tryz.prog W 0 (fun _ => true) true n 5 [.int .u8 y] = some x → ∃ a : Nat, y = a := by
    intro y n x h
    obtain ⟨z, e, _, w⟩ := DataW.trod_int Tryz.underlying5 h
    simp only [List.cons.injEq, Value.int.injEq, true_and, and_true] at e
    subst e
    have : 0 ≤ y := by
      have e0 : IntKind.u8.min = 0 := by decide
      simp only [Lit.wf, decide_eq_true_eq, Bool.and_eq_true] at w
      omega
    exact ⟨y.toNat, by omega⟩
  obtain ⟨a, rfl⟩ := nn h1
  obtain ⟨b, rfl⟩ := nn h2
  obtain ⟨c, rfl⟩ := nn h3
  have hx : VRL (fun _ => none) (allM W) [.int .u8 a, .int .u8 b, .int .u8 c] [.int .u8 a, .int .u8 b, .int .u8 c] := by
    simp only [VRL, VR]
    exact ⟨_, _, rfl, rfl, _, _, rfl, rfl, _, _, rfl, rfl, rfl⟩
  refine (calls_evoG hsh (fun n => hc n a b c) hx).mono ?_
  rintro e W' ⟨v', m', rfl, hv, he⟩
  simp only [VR] at hv
  subst hv
  refine ⟨_, rfl, post_evo (gs := gs) rfl (fun ds hl => ?_) (by kernel_rfl) (fun t ht => ?_) hW' (by rw [Tryz.params6]; rfl) he⟩
  · rw [Tryz.params6] at hl
    match ds, hl with
    | [d1, d2, d3], _ => exact ⟨rfl, rfl, rfl⟩
  · rw [Tryz.params6] at ht
    have : t = 5 := by simpa using ht
    subst this
    exact Nat.le_of_ble_eq_true (show Nat.ble 6 Tryz.prog.types.size = true by kernel_rfl)
end
theorem laid_met (os : Os) (args : Array Value) : laidMetH Tryz.prog Rows.textSignsRow.laid ((World.laidAll Tryz.prog os Rows.textSignsRow.laid).forCall (fun _ _ => 0) ⟨#[], args, []⟩).memory := by
  rw [MakeChecks.laidMetH_plain _ _ _ (by kernel_rfl)]
  exact laidMet_laidAll _ (by kernel_rfl) (by kernel_rfl)
theorem laid_shaped (os : Os) : (World.laidAll Tryz.prog os Rows.textSignsRow.laid).Shaped Tryz.prog := World.shaped_of_ZipB (by kernel_rfl) (by kernel_rfl)
set_option maxRecDepth 100000 in
theorem liftedG (hc : ∀ n, ∀ a b c : Nat, CallOK Tryz.prog (cfgG n) 6 [.int .u8 a, .int .u8 b, .int .u8 c] [] (.bool true) []) (os : Os) (started : os.Started) (H : Type) (enc : TypeId × Value → H) :
    ReturnsInHanded {} Tryz.checked os 6 .any (fun w args => (Rows.textSignsSpec.pre enc Tryz.prog Tryz.f6 [] false w args ∧ laidMetH Tryz.prog Rows.textSignsRow.laid w) ∧ sizedMet enc Tryz.prog Tryz.f6 (OpenSpec.ofChange Rows.textSignsSpec) false w args)
      (Rows.textSignsSpec.post enc Tryz.prog Tryz.f6 false true false false) := by
  refine returns_shaped (C := Tryz.checked) (X := fun w _ => laidMetH Tryz.prog Rows.textSignsRow.laid w) own started (by kernel_rfl) Tryz.func6
    (ChangeSpec.witness_shaped (enc := enc) (C := Tryz.checked) (os := os) (X := fun w _ => laidMetH Tryz.prog Rows.textSignsRow.laid w) false (World.laidAll Tryz.prog os Rows.textSignsRow.laid) #[.int .u8 0, .int .u8 0, .int .u8 0] 8 (World.laidAll_os _ _ _)
      (laid_shaped os) (by kernel_rfl) (by kernel_rfl) (by kernel_rfl) (laid_met os _)) ?_
  intro W base args ds gs before hval0 hW hsh
  exact contractG enc hc W base args ds gs before hval0 hW hsh
theorem plain (f : FuncId) (fn : Func) (hf : Tryz.pinned.checked.prog.funcNamed "cashbook/cashbooklaw13.TextSigns" = some f) (hfn : Tryz.pinned.checked.prog.funcs[f]? = some fn) :
    true = Tryz.pinned.checked.prog.looks [] ∧ ∀ (j : Nat) t, fn.params[j]? = some t → Tryz.pinned.checked.prog.wantsStandIn t = false := by
  obtain rfl : f = 6 := Option.some.inj ((show Tryz.prog.funcNamed "cashbook/cashbooklaw13.TextSigns" = some 6 by kernel_rfl).symm.trans hf) |>.symm
  obtain rfl : fn = Tryz.f6 := (Option.some.inj (Tryz.func6.symm.trans hfn)).symm
  refine ⟨by kernel_rfl, fun j t ht => ?_⟩
  rw [Tryz.params6] at ht
  obtain rfl : t = 5 := by
    have := Array.mem_of_getElem? ht
    simpa using this
  exact (show Tryz.prog.wantsStandIn 5 = false by kernel_rfl)
set_option maxRecDepth 100000 in
theorem said' : Rows.TextSignsSaid :=
  OpenClaim.holds_of_wide 6 Tryz.f6 rfl rfl rfl rfl rfl rfl rfl ⟨rfl, rfl, rfl, rfl, rfl⟩ rfl rfl rfl rfl rfl (by kernel_rfl) Tryz.func6 (by kernel_rfl)
    (of_decide_eq_true (by kernel_rfl)) (by unfold Func.isWrapper; first | (rw [if_pos (by decide +kernel)]; kernel_rfl) | (rw [if_neg (by decide +kernel)]; exact ⟨rfl, rfl⟩))
    (fun os started H enc _ => liftedG callOK os started H enc)
theorem card' : Rows.TextSignsCardSaid :=
  Claim7.holds_tied_plain_at .later [] _ _ _ _ said' (fun _ h => by cases h) (by kernel_rfl) (fun _ h => by cases h) textSigns_row_tie rfl ⟨rfl, rfl⟩ (by kernel_rfl) rfl plain (by kernel_rfl)
end TextSigns
end Go.Det.Sea
end
