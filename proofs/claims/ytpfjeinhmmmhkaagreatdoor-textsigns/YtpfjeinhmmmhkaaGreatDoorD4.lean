/- TextSigns: whatever three signs come in, the law answers true and its input reads as it did (the tied card): part 4 of the texts behind it: Fn6, Fn7, Fn8, Fn9, Fn10, Tre3, Fn11, Det14, Wk1, Wk2, Wk3, Wk4, Wk5, Wk6, Wk7, Wk8, Wk9, Wk10, Wk11, Wk12, Wk13, Top2, Top3, Rd1, Rd2, Rd3, Det13. No premise of its own. -/
import Derived.Test.YtpfjeinhmmmhkaaGreatDoorD3
import Derived.RangeFuncIn
import Derived.RangeFuncRecord
import Derived.TacticsIn
import Derived.LoopNIn
import Derived.RangeFuncNested
import Derived.Test.YtpfjeinhmmmhkaaGreatDoorCards
import Derived.Test.YtpfjeinhmmmhkaaGreatDoorTie
import Derived.WalkKit
import Derived.ProofKit
import Derived.OpenShut
import Derived.Deep.DeepHandedRow
import Derived.Lib.LaidTab
import Derived.ChangeStays
import Derived.ChangeOld
import Derived.Lay
import Derived.LaidOnce
import Derived.SevenTiedAt
set_option linter.all false
section
set_option linter.unusedVariables false
set_option linter.unusedSimpArgs false
namespace Go.Det.Sea
open Go Go.Det

def anyI (xs0 : List DV) : Spec := fun xs ex k => match ex with
  | [] => xs = xs0 ∧ ∀ n : Int, k (.int .i64 n) []
  | _ :: _ => False
def anyS (xs0 : List DV) : Spec := fun xs ex k => match ex with
  | [] => xs = xs0 ∧ ∀ s : List UInt8, k (.str s) []
  | _ :: _ => False
def shapeK (n : Int) (k : DV → List Blk → Prop) : Prop := ∀ (v : Bool) (ar : Int) (sh op : Bool) (kd : Int), (n = 1 → v = true ∧ ar = 0 ∧ sh = false ∧ op = false ∧ kd = 0) → k (.tup [.bool v, .int .i64 ar, .bool sh, .bool op, .int .i64 kd]) []
def shapeS (n : Int) : Spec := fun xs ex k => match ex with
  | [] => xs = [.int .i64 n] ∧ shapeK n k
  | _ :: _ => False
def unitsS (s : List UInt8) : Spec := fun xs ex k => match ex with
  | [] => xs = [.str s] ∧ ∀ n e : Int, k (.tup [.int .i64 n, .int .i64 e]) []
  | _ :: _ => False
theorem vc33 (r c : Int) (Φ : DV → List Blk → Prop) : (vcF cfg E0 33 [.agg [.int .i64 r, .int .i64 c]] [] Φ) =
    (Φ (DV.bool (decide (r ≥ (0 : Int)) && decide (r < (65536 : Int)) && decide (c ≥ (0 : Int)) && decide (c < (256 : Int)))) []) := by kernel_rfl
def E163 (a : Rf) : Env := { cs := [(33, anyB [.agg [.int .i64 a.row, .int .i64 a.col]])] }
theorem vc163 (a : Rf) (Φ : DV → List Blk → Prop) : (vcF cfg (E163 a) 163 [a.dv] [] Φ) =
    ([DV.agg [DV.int IntKind.i64 a.row, DV.int IntKind.i64 a.col]] = [DV.agg [DV.int IntKind.i64 a.row, DV.int IntKind.i64 a.col]] ∧ ∀ (b : Bool), brB (!b) (Φ (DV.int IntKind.i64 (12 : Int)) []) (Φ (DV.int IntKind.i64 (0 : Int)) [])) := by kernel_rfl
def E126 (a b : Rf) : Env := { ss := [(5, 163, anyI [a.dv]), (9, 163, anyI [b.dv])] }
theorem vc126 (a b : Rf) (Φ : DV → List Blk → Prop) : (vcF cfg (E126 a b) 126 [.agg (a.cells ++ b.cells)] [] Φ) =
    ([Rf.dv a] = [Rf.dv a] ∧ ∀ (n : Int), brB (n != (0 : Int)) (Φ (DV.int IntKind.i64 (12 : Int)) []) ([Rf.dv b] = [Rf.dv b] ∧ ∀ (n : Int), Φ (DV.int IntKind.i64 n) [])) := by kernel_rfl
theorem vc162 (m s : Int) (Φ : DV → List Blk → Prop) : (vcF cfg E0 162 [.agg [.int .i64 m, .int .i64 s]] [] Φ) =
    (brB (decide (s < (0 : Int)) || decide (s > (9 : Int)) || decide (s > (0 : Int)) && Int.tmod m (10 : Int) == (0 : Int)) (Φ (DV.int IntKind.i64 (1 : Int)) []) (Φ (DV.int IntKind.i64 (0 : Int)) [])) := by kernel_rfl
theorem vc104 (n : Int) (Φ : DV → List Blk → Prop) : (vcF cfg E0 104 [.int .i64 n] [] Φ) =
    (brB (n == (0 : Int)) (Φ (DV.str [(35 : UInt8), (78 : UInt8), (85 : UInt8), (76 : UInt8), (76 : UInt8), (33 : UInt8)]) []) (brB (n == (7 : Int)) (Φ (DV.str [(35 : UInt8), (68 : UInt8), (73 : UInt8), (86 : UInt8), (47 : UInt8), (48 : UInt8), (33 : UInt8)]) []) (brB (n == (15 : Int)) (Φ (DV.str [(35 : UInt8), (86 : UInt8), (65 : UInt8), (76 : UInt8), (85 : UInt8), (69 : UInt8), (33 : UInt8)]) []) (brB (n == (23 : Int)) (Φ (DV.str [(35 : UInt8), (82 : UInt8), (69 : UInt8), (70 : UInt8), (33 : UInt8)]) []) (brB (n == (29 : Int)) (Φ (DV.str [(35 : UInt8), (78 : UInt8), (65 : UInt8), (77 : UInt8), (69 : UInt8), (63 : UInt8)]) []) (brB (n == (36 : Int)) (Φ (DV.str [(35 : UInt8), (78 : UInt8), (85 : UInt8), (77 : UInt8), (33 : UInt8)]) []) (brB (n == (42 : Int)) (Φ (DV.str [(35 : UInt8), (78 : UInt8), (47 : UInt8), (65 : UInt8)]) []) (Φ (DV.str []) [])))))))) := by kernel_rfl
theorem vc124 (n : Int) (Φ : DV → List Blk → Prop) : (vcF cfg E0 124 [.int .i64 n] [] Φ) =
    (brB (n == (1 : Int)) (Φ (DV.tup [DV.bool true, DV.int IntKind.i64 (0 : Int), DV.bool false, DV.bool false, DV.int IntKind.i64 (0 : Int)]) []) (brB (n == (2 : Int)) (Φ (DV.tup [DV.bool false, DV.int IntKind.i64 (1 : Int), DV.bool false, DV.bool false, DV.int IntKind.i64 (0 : Int)]) []) (brB (n == (3 : Int)) (Φ (DV.tup [DV.bool false, DV.int IntKind.i64 (2 : Int), DV.bool false, DV.bool false, DV.int IntKind.i64 (0 : Int)]) []) (brB (n == (4 : Int)) (Φ (DV.tup [DV.bool false, DV.int IntKind.i64 (1 : Int), DV.bool true, DV.bool false, DV.int IntKind.i64 (0 : Int)]) []) (brB (n == (5 : Int)) (Φ (DV.tup [DV.bool false, DV.int IntKind.i64 (2 : Int), DV.bool true, DV.bool false, DV.int IntKind.i64 (0 : Int)]) []) (brB (n == (6 : Int)) (Φ (DV.tup [DV.bool false, DV.int IntKind.i64 (0 : Int), DV.bool false, DV.bool true, DV.int IntKind.i64 (0 : Int)]) []) (brB (n == (7 : Int)) (Φ (DV.tup [DV.bool false, DV.int IntKind.i64 (0 : Int), DV.bool false, DV.bool true, DV.int IntKind.i64 (1 : Int)]) []) (brB (n == (8 : Int)) (Φ (DV.tup [DV.bool false, DV.int IntKind.i64 (0 : Int), DV.bool false, DV.bool true, DV.int IntKind.i64 (2 : Int)]) []) (brB (n == (9 : Int)) (Φ (DV.tup [DV.bool false, DV.int IntKind.i64 (0 : Int), DV.bool false, DV.bool true, DV.int IntKind.i64 (-1 : Int)]) []) (Φ (DV.tup [DV.bool false, DV.int IntKind.i64 (0 : Int), DV.bool false, DV.bool false, DV.int IntKind.i64 (1 : Int)]) [])))))))))) := by kernel_rfl
def E125 (v : Vl) : Env := { cs := [(162, anyI [.agg [.int .i64 v.m, .int .i64 v.s]]), (117, unitsS v.txt), (104, anyS [.int .i64 v.e])] }
theorem vc125 (v : Vl) (Φ : DV → List Blk → Prop) : (vcF cfg (E125 v) 125 [v.dv] [] Φ) =
    (brB (decide (v.kind < (0 : Int)) || decide (v.kind > (4 : Int))) (Φ (DV.int IntKind.i64 (1 : Int)) []) (brB (v.kind != (1 : Int) && !(v.m == (0 : Int) && (v.s == (0 : Int) && true)) || v.kind != (2 : Int) && !v.txt == #[].toList || v.kind != (3 : Int) && v.b || v.kind != (4 : Int) && v.e != (0 : Int)) (Φ (DV.int IntKind.i64 (1 : Int)) []) (brB (v.kind == (1 : Int)) ([DV.agg [DV.int IntKind.i64 v.m, DV.int IntKind.i64 v.s]] = [DV.agg [DV.int IntKind.i64 v.m, DV.int IntKind.i64 v.s]] ∧ ∀ (n : Int), Φ (DV.int IntKind.i64 n) []) (brB (v.kind == (2 : Int)) ([DV.str v.txt] = [DV.str v.txt] ∧ ∀ (n e : Int), Φ (DV.int IntKind.i64 e) []) (brB (v.kind == (4 : Int)) ([DV.int IntKind.i64 v.e] = [DV.int IntKind.i64 v.e] ∧ ∀ (s : List UInt8), brB (s == #[].toList) (Φ (DV.int IntKind.i64 (1 : Int)) []) (Φ (DV.int IntKind.i64 (0 : Int)) [])) (Φ (DV.int IntKind.i64 (0 : Int)) [])))))) := by kernel_rfl
def F83 (st : St) (k : Ex → St → Prop) : Prop := (∀ n : Int, k .ret { t := st.t.set 2 (.int .i64 n), h := st.h }) ∧ k .normal st
def G83 (st : St) (k : Ex → St → Prop) : Prop := ∀ lo hi : Int, k .normal { t := (st.t.set 9 (.int .i64 lo)).set 10 (.int .i64 hi), h := st.h }
def E83 (t : Tr) (L6 L12 L18 : St → Prop) : Env := { cs := [(124, shapeS t.kind)], cu := [(6, cutS [1, 3, 4, 5, 7] [1] 153 L6 F83), (12, cutS [1, 4, 5, 7] [1] 153 L12 F83), (18, cutS [1, 7, 9, 10] [1] 153 L18 G83)] }
def st83_6 (t : Tr) (v : Bool) (ar kd : Int) (sh : Bool) : St := mkS 153 [(1, .ptr 1 18 0 0), (3, .bool v), (4, .int .i64 ar), (5, .bool sh), (7, .int .i64 kd)] [(1, .box t.cells)] []
def st83_12 (t : Tr) (ar kd : Int) (sh : Bool) : St := mkS 153 [(1, .ptr 1 18 0 0), (4, .int .i64 ar), (5, .bool sh), (7, .int .i64 kd)] [(1, .box t.cells)] []
def st83_18 (t : Tr) (kd : Int) : St := mkS 153 [(1, .ptr 1 18 0 0), (7, .int .i64 kd), (9, .int .i64 0), (10, .int .i64 0)] [(1, .box t.cells)] []
def E83_6 (t : Tr) : Env := { cs := [(125, anyI [t.v.dv])] }
def E83_12 (t : Tr) : Env := { cs := [(126, anyI [areas t])], sp := [12] }
theorem vc83 (t : Tr) (L6 L12 L18 : St → Prop) (Φ : DV → List Blk → Prop) : (vcF cfg (E83 t L6 L12 L18) 83 [t.dv] [] Φ) =
    (brB (decide (Tr.kind t < (1 : Int)) || decide (Tr.kind t > (10 : Int))) (Φ (DV.int IntKind.i64 (1 : Int)) []) ([DV.int IntKind.i64 (Tr.kind t)] = [DV.int IntKind.i64 (Tr.kind t)] ∧ ∀ (v : Bool) (ar : Int) (sh op : Bool) (kd : Int), (Tr.kind t = (1 : Int) → v = true ∧ ar = (0 : Int) ∧ sh = false ∧ op = false ∧ kd = (0 : Int)) → brB (!v && !((Tr.v t).kind == (0 : Int) && ((Tr.v t).m == (0 : Int) && ((Tr.v t).s == (0 : Int) && true) && ((Tr.v t).txt == [] && ((Tr.v t).b == false && ((Tr.v t).e == (0 : Int) && true))))) || decide (ar < (1 : Int)) && !((Tr.a t).row == (0 : Int) && ((Tr.a t).col == (0 : Int) && ((Tr.a t).rr == false && ((Tr.a t).rc == false && true)))) || decide (ar < (2 : Int)) && !((Tr.b t).row == (0 : Int) && ((Tr.b t).col == (0 : Int) && ((Tr.b t).rr == false && ((Tr.b t).rc == false && true)))) || !sh && Tr.sheet t != (0 : Int) || !op && Tr.op t != (0 : Int) || kd == (0 : Int) && decide ((↑(List.length (Tr.encs (Tr.kids t))) : Int) > (0 : Int))) (Φ (DV.int IntKind.i64 (1 : Int)) []) (L6 (mkS 153 [(1, DV.ptr 1 18 0 0), (3, DV.bool v), (4, DV.int IntKind.i64 ar), (5, DV.bool sh), (7, DV.int IntKind.i64 kd)] [(1, Blk.box (Tr.cells t))] []) ∧ (∀ (n : Int), Φ (DV.int IntKind.i64 n) []) ∧ L12 (mkS 153 [(1, DV.ptr 1 18 0 0), (4, DV.int IntKind.i64 ar), (5, DV.bool sh), (7, DV.int IntKind.i64 kd)] [(1, Blk.box (Tr.cells t))] []) ∧ (∀ (n : Int), Φ (DV.int IntKind.i64 n) []) ∧ brB (sh && (decide (Tr.sheet t < (0 : Int)) || decide (Tr.sheet t ≥ (8 : Int)))) (Φ (DV.int IntKind.i64 (1 : Int)) []) (L18 (mkS 153 [(1, DV.ptr 1 18 0 0), (7, DV.int IntKind.i64 kd), (9, DV.int IntKind.i64 (0 : Int)), (10, DV.int IntKind.i64 (0 : Int))] [(1, Blk.box (Tr.cells t))] []) ∧ ∀ (lo hi : Int), brB (decide (Tr.op t < lo) || decide (Tr.op t > hi) || decide (kd > (0 : Int)) && (↑(List.length (Tr.encs (Tr.kids t))) : Int) != kd || decide ((↑(List.length (Tr.encs (Tr.kids t))) : Int) > (30 : Int))) (Φ (DV.int IntKind.i64 (1 : Int)) []) (Φ (DV.int IntKind.i64 (0 : Int)) []))))) := by kernel_rfl
theorem vc83_6 (t : Tr) (v : Bool) (ar kd : Int) (sh : Bool) (K : Ex → St → Prop) : (vcR cfg (E83_6 t) 83 6 (st83_6 t v ar kd sh) (restK [1, 2, 3, 4, 5, 7] [1] 153 K)) =
    (brB v ([Vl.dv (Tr.v t)] = [Vl.dv (Tr.v t)] ∧ ∀ (n : Int), brB (n != (0 : Int)) (K Ex.ret (mkS 153 [(1, DV.ptr 1 18 0 0), (2, DV.int IntKind.i64 n), (3, DV.bool v), (4, DV.int IntKind.i64 ar), (5, DV.bool sh), (7, DV.int IntKind.i64 kd)] [(1, Blk.box (Tr.cells t))] [])) (brB ((Tr.v t).kind == (0 : Int)) (K Ex.ret (mkS 153 [(1, DV.ptr 1 18 0 0), (2, DV.int IntKind.i64 (1 : Int)), (3, DV.bool v), (4, DV.int IntKind.i64 ar), (5, DV.bool sh), (7, DV.int IntKind.i64 kd)] [(1, Blk.box (Tr.cells t))] [])) (K Ex.normal (mkS 153 [(1, DV.ptr 1 18 0 0), (3, DV.bool v), (4, DV.int IntKind.i64 ar), (5, DV.bool sh), (7, DV.int IntKind.i64 kd)] [(1, Blk.box (Tr.cells t))] [])))) (K Ex.normal (mkS 153 [(1, DV.ptr 1 18 0 0), (3, DV.bool v), (4, DV.int IntKind.i64 ar), (5, DV.bool sh), (7, DV.int IntKind.i64 kd)] [(1, Blk.box (Tr.cells t))] []))) := by kernel_rfl
theorem vc83_12 (t : Tr) (ar kd : Int) (sh : Bool) (K : Ex → St → Prop) : (vcR cfg (E83_12 t) 83 12 (st83_12 t ar kd sh) (restK [1, 2, 4, 5, 7] [1] 153 K)) =
    (brB (decide (ar > (0 : Int))) ([DV.agg [DV.int IntKind.i64 (Tr.a t).row, DV.int IntKind.i64 (Tr.a t).col, DV.bool (Tr.a t).rr, DV.bool (Tr.a t).rc, DV.int IntKind.i64 (Tr.b t).row, DV.int IntKind.i64 (Tr.b t).col, DV.bool (Tr.b t).rr, DV.bool (Tr.b t).rc]] = [DV.agg [DV.int IntKind.i64 (Tr.a t).row, DV.int IntKind.i64 (Tr.a t).col, DV.bool (Tr.a t).rr, DV.bool (Tr.a t).rc, DV.int IntKind.i64 (Tr.b t).row, DV.int IntKind.i64 (Tr.b t).col, DV.bool (Tr.b t).rr, DV.bool (Tr.b t).rc]] ∧ ∀ (n : Int), brB (n != (0 : Int)) (K Ex.ret (mkS 153 [(1, DV.ptr 1 18 0 0), (2, DV.int IntKind.i64 (12 : Int)), (4, DV.int IntKind.i64 ar), (5, DV.bool sh), (7, DV.int IntKind.i64 kd)] [(1, Blk.box (Tr.cells t))] [])) (K Ex.normal (mkS 153 [(1, DV.ptr 1 18 0 0), (4, DV.int IntKind.i64 ar), (5, DV.bool sh), (7, DV.int IntKind.i64 kd)] [(1, Blk.box (Tr.cells t))] []))) (K Ex.normal (mkS 153 [(1, DV.ptr 1 18 0 0), (4, DV.int IntKind.i64 ar), (5, DV.bool sh), (7, DV.int IntKind.i64 kd)] [(1, Blk.box (Tr.cells t))] []))) := by kernel_rfl
theorem vc83_18 (t : Tr) (kd : Int) (K : Ex → St → Prop) : (vcR cfg E0 83 18 (st83_18 t kd) (restK [1, 7, 9, 10] [1] 153 K)) =
    (brB (Tr.kind t == (6 : Int)) (K Ex.normal (mkS 153 [(1, DV.ptr 1 18 0 0), (7, DV.int IntKind.i64 kd), (9, DV.int IntKind.i64 (0 : Int)), (10, DV.int IntKind.i64 (1023 : Int))] [(1, Blk.box (Tr.cells t))] [])) (brB (Tr.kind t == (7 : Int)) (K Ex.normal (mkS 153 [(1, DV.ptr 1 18 0 0), (7, DV.int IntKind.i64 kd), (9, DV.int IntKind.i64 (1 : Int)), (10, DV.int IntKind.i64 (3 : Int))] [(1, Blk.box (Tr.cells t))] [])) (brB (Tr.kind t == (8 : Int)) (K Ex.normal (mkS 153 [(1, DV.ptr 1 18 0 0), (7, DV.int IntKind.i64 kd), (9, DV.int IntKind.i64 (1 : Int)), (10, DV.int IntKind.i64 (12 : Int))] [(1, Blk.box (Tr.cells t))] [])) (brB (Tr.kind t == (9 : Int)) (K Ex.normal (mkS 153 [(1, DV.ptr 1 18 0 0), (7, DV.int IntKind.i64 kd), (9, DV.int IntKind.i64 (0 : Int)), (10, DV.int IntKind.i64 (29 : Int))] [(1, Blk.box (Tr.cells t))] [])) (K Ex.normal (mkS 153 [(1, DV.ptr 1 18 0 0), (7, DV.int IntKind.i64 kd), (9, DV.int IntKind.i64 (0 : Int)), (10, DV.int IntKind.i64 (0 : Int))] [(1, Blk.box (Tr.cells t))] [])))))) := by kernel_rfl
section
variable {Pr Ow : Nat → List DV → DV → Prop}
theorem anyI_ok {g : Nat} {xs : List DV} (h : ∀ Φ : DV → List Blk → Prop, (∀ n : Int, Φ (.int .i64 n) []) → GoC cfg Pr Ow g xs [] Φ) : SpecOK cfg Pr Ow g (anyI xs) := by
  intro xs' ex k hk
  cases ex with
  | nil => obtain ⟨rfl, hk⟩ := hk; exact h k hk
  | cons _ _ => exact hk.elim
theorem anyS_ok {g : Nat} {xs : List DV} (h : ∀ Φ : DV → List Blk → Prop, (∀ n : List UInt8, Φ (.str n) []) → GoC cfg Pr Ow g xs [] Φ) : SpecOK cfg Pr Ow g (anyS xs) := by
  intro xs' ex k hk
  cases ex with
  | nil => obtain ⟨rfl, hk⟩ := hk; exact h k hk
  | cons _ _ => exact hk.elim
theorem f33_ok (r c : Int) : SpecOK cfg Pr Ow 33 (anyB [.agg [.int .i64 r, .int .i64 c]]) := anyB_ok fun Φ h => fn_of0 E0_ok rfl (by rw [vc33]; exact h _)
theorem f163_ok (a : Rf) : SpecOK cfg Pr Ow 163 (anyI [a.dv]) := anyI_ok fun Φ h => fn_of0 (E := E163 a) (envOK ⟨f33_ok _ _, trivial⟩ trivial trivial) rfl (by
  rw [vc163]; exact ⟨rfl, fun b => brB_of (fun _ => h _) fun _ => h _⟩)
theorem f126_ok (t : Tr) : SpecOK cfg Pr Ow 126 (anyI [areas t]) := anyI_ok fun Φ h => fn_of0 (E := E126 t.a t.b) (envOK trivial ⟨f163_ok _, f163_ok _, trivial⟩ trivial) rfl (by
  unfold areas; rw [vc126]; exact ⟨rfl, fun n => brB_of (fun _ => h _) fun _ => ⟨rfl, fun n => h _⟩⟩)
theorem f162_ok (m s : Int) : SpecOK cfg Pr Ow 162 (anyI [.agg [.int .i64 m, .int .i64 s]]) := anyI_ok fun Φ h => fn_of0 E0_ok rfl (by rw [vc162]; exact brB_of (fun _ => h _) fun _ => h _)
theorem f104_ok (n : Int) : SpecOK cfg Pr Ow 104 (anyS [.int .i64 n]) := anyS_ok fun Φ h => fn_of0 E0_ok rfl (by
  rw [vc104]
  exact brB_of (fun _ => h _) fun _ => brB_of (fun _ => h _) fun _ => brB_of (fun _ => h _) fun _ => brB_of (fun _ => h _) fun _ => brB_of (fun _ => h _) fun _ => brB_of (fun _ => h _) fun _ => brB_of (fun _ => h _) fun _ => h _)
theorem f124_ok (n : Int) : SpecOK cfg Pr Ow 124 (shapeS n) := by
  intro xs ex k hk
  cases ex with
  | cons _ _ => exact hk.elim
  | nil =>
    obtain ⟨rfl, hk⟩ := hk
    refine fn_of0 E0_ok rfl ?_
    rw [vc124]
    refine brB_of (fun _ => hk _ _ _ _ _ fun _ => ⟨rfl, rfl, rfl, rfl, rfl⟩) fun h1 => ?_
    have h1 : n ≠ 1 := by simpa using h1
    have h : ∀ v ar sh op kd, k (.tup [.bool v, .int .i64 ar, .bool sh, .bool op, .int .i64 kd]) [] := fun v ar sh op kd => hk v ar sh op kd fun e => absurd e h1
    exact brB_of (fun _ => h _ _ _ _ _) fun _ => brB_of (fun _ => h _ _ _ _ _) fun _ => brB_of (fun _ => h _ _ _ _ _) fun _ => brB_of (fun _ => h _ _ _ _ _) fun _ => brB_of (fun _ => h _ _ _ _ _) fun _ =>
      brB_of (fun _ => h _ _ _ _ _) fun _ => brB_of (fun _ => h _ _ _ _ _) fun _ => brB_of (fun _ => h _ _ _ _ _) fun _ => h _ _ _ _ _
theorem f125_ok {v : Vl} (hU : SpecOK cfg Pr Ow 117 (unitsS v.txt)) : SpecOK cfg Pr Ow 125 (anyI [v.dv]) := anyI_ok fun Φ h => fn_of0 (E := E125 v) (envOK ⟨f162_ok _ _, hU, f104_ok _, trivial⟩ trivial trivial) rfl (by
  rw [vc125]
  exact brB_of (fun _ => h _) fun _ => brB_of (fun _ => h _) fun _ => brB_of (fun _ => ⟨rfl, fun n => h _⟩) fun _ => brB_of (fun _ => ⟨rfl, fun n e => h _⟩) fun _ => brB_of (fun _ => ⟨rfl, fun s => brB_of (fun _ => h _) fun _ => h _⟩) fun _ => h _)
theorem rf0_of {r : Rf} (h1 : r.row = 0) (h2 : r.col = 0) (h3 : r.rr = false) (h4 : r.rc = false) : r = rf0 := by
  cases r; simp only at h1 h2 h3 h4; subst h1 h2 h3 h4; rfl
def nodeS (t : Tr) : Spec := fun xs ex k => match ex with
  | [] => xs = [t.dv] ∧ ∀ n : Int, (n = 0 → cleanN t) → k (.int .i64 n) []
  | _ :: _ => False
theorem nt83 : ntOf cfg 83 = 153 := by kernel_rfl
theorem nr83 : nodupK (rests (codeOf cfg 83)) = true := by kernel_rfl
theorem look_three {α : Type _} {a b c : Nat} {x y z : α} {n : Nat} {w : α} (h : look n [(a, x), (b, y), (c, z)] = some w) : (n = a ∧ w = x) ∨ (n = b ∧ w = y) ∨ (n = c ∧ w = z) := by
  have hm := look_mem h
  simp only [List.mem_cons, Prod.mk.injEq, List.mem_nil_iff, or_false] at hm
  exact hm
theorem f83_ok {t : Tr} (hU : SpecOK cfg Pr Ow 117 (unitsS t.v.txt)) : SpecOK cfg Pr Ow 83 (nodeS t) := by
  intro xs ex k hk
  cases ex with
  | cons _ _ => exact hk.elim
  | nil =>
    obtain ⟨rfl, hk⟩ := hk
    refine fn_cut (E := E83 t (fun st => ∃ v ar kd sh, st = st83_6 t v ar kd sh) (fun st => ∃ ar kd sh, st = st83_12 t ar kd sh) (fun st => ∃ kd, st = st83_18 t kd)) (envOK ⟨f124_ok _, trivial⟩ trivial trivial) nt83 rfl nr83 ?_ ?_
    · intro b sp hl st k hs
      rcases look_three hl with ⟨rfl, rfl⟩ | ⟨rfl, rfl⟩ | ⟨rfl, rfl⟩
      · refine cutS_ok (fun st hst k hk => ?_) hs
        obtain ⟨v, ar, kd, sh, rfl⟩ := hst
        refine rest_go0 (E := E83_6 t) (envOK ⟨f125_ok hU, trivial⟩ trivial trivial) nt83 rfl rfl (ks := [1, 2, 3, 4, 5, 7]) (bs := [1]) ?_
        rw [vc83_6]
        exact brB_of (fun _ => ⟨rfl, fun n => brB_of (fun _ => hk.1 n) fun _ => brB_of (fun _ => hk.1 1) fun _ => hk.2⟩) fun _ => hk.2
      · refine cutS_ok (fun st hst k hk => ?_) hs
        obtain ⟨ar, kd, sh, rfl⟩ := hst
        refine rest_go0 (E := E83_12 t) (envOK ⟨f126_ok t, trivial⟩ trivial trivial) nt83 rfl rfl (ks := [1, 2, 4, 5, 7]) (bs := [1]) ?_
        rw [vc83_12]
        exact brB_of (fun _ => ⟨rfl, fun n => brB_of (fun _ => hk.1 12) fun _ => hk.2⟩) fun _ => hk.2
      · refine cutS_ok (fun st hst k hk => ?_) hs
        obtain ⟨kd, rfl⟩ := hst
        refine rest_go0 (E := E0) E0_ok nt83 rfl rfl (ks := [1, 7, 9, 10]) (bs := [1]) ?_
        rw [vc83_18]
        exact brB_of (fun _ => hk 0 1023) fun _ => brB_of (fun _ => hk 1 3) fun _ => brB_of (fun _ => hk 1 12) fun _ => brB_of (fun _ => hk 0 29) fun _ => hk 0 0
    · rw [vc83]
      refine brB_of (fun _ => hk 1 (by simp)) fun _ => ⟨rfl, fun v ar sh op kd hsh => brB_of (fun _ => hk 1 (by simp)) fun hc => ?_⟩
      have hcl : cleanN t := by
        intro h1
        obtain ⟨rfl, rfl, rfl, rfl, rfl⟩ := hsh h1
        simp at hc
        obtain ⟨⟨⟨⟨⟨a1, a2, a3, a4⟩, b1, b2, b3, b4⟩, hs⟩, ho⟩, hkk⟩ := hc
        refine ⟨rf0_of a1 a2 a3 a4, rf0_of b1 b2 b3 b4, hs, ho, ?_⟩
        have := Tr.encs_len t.kids
        rw [hkk] at this
        exact List.length_eq_zero_iff.1 this.symm
      refine ⟨⟨v, ar, kd, sh, rfl⟩, fun n => hk n fun _ => hcl, ⟨ar, kd, sh, rfl⟩, fun n => hk n fun _ => hcl, brB_of (fun _ => hk 1 (by simp)) fun _ => ⟨⟨kd, rfl⟩, fun lo hi => brB_of (fun _ => hk 1 (by simp)) fun _ => hk 0 fun _ => hcl⟩⟩
end

end Go.Det.Sea
end

section
set_option linter.unusedVariables false
set_option linter.unusedSimpArgs false
namespace Go.Det.Sea
open Go Go.Det

def nodeG (g : Prop) (t : Tr) (Q : Tr → Prop) : Spec := fun xs ex k => match ex with
  | [] => g ∧ xs = [t.dv] ∧ ∀ n : Int, (n = 0 → Q t) → k (.int .i64 n) []
  | _ :: _ => False
def boundG (g : Prop) (t : Tr) : Spec := fun xs ex k => match ex with
  | [] => g ∧ xs = [t.dv] ∧ ∀ n : Int, 1 ≤ n → n ≤ t.count → k (.int .i64 n) []
  | _ :: _ => False
def hd46 (t : Tr) (e : Int) (i : Nat) : St := mkS 25 [(1, .ptr 1 18 0 0), (3, .int .i64 e), (4, .int .i64 i)] [(1, .box t.cells)] []
def F46 (t : Tr) (k : Ex → St → Prop) : Prop := ∀ e : Int, (e = 0 → cleanT t) → k (.exit 0) (mkS 25 [(3, .int .i64 e)] [] [])
def E46 (t : Tr) (L : St → Prop) : Env := { cs := [(83, nodeS t)], ls := [(0, loopS [1, 3, 4] [1] 25 L (F46 t))] }
def E46b (t : Tr) (i : Nat) : Env := { ss := [(23, 46, nodeG (i < t.kids.length) (kid t i) cleanT)], an := [(22, (kid t i).dv)] }
theorem vc46 (t : Tr) (L : St → Prop) (Φ : DV → List Blk → Prop) : (vcF cfg (E46 t L) 46 [t.dv] [] Φ) =
    ([Tr.dv t] = [Tr.dv t] ∧ ∀ (n : Int), (n = (0 : Int) → cleanN t) → L (mkS 25 [(1, DV.ptr 1 18 0 0), (3, DV.int IntKind.i64 n), (4, DV.int IntKind.i64 (0 : Int))] [(1, Blk.box (Tr.cells t))] []) ∧ ∀ (e : Int), (e = (0 : Int) → cleanT t) → Φ (DV.int IntKind.i64 e) []) := by kernel_rfl
theorem vc46_1 (t : Tr) (e : Int) (i : Nat) (L : St → Prop) (K : Ex → St → Prop) : (vcB cfg (E46b t i) 46 0 (hd46 t e i) (bodyK L [1, 3, 4] [1] [3] [] 25 K)) =
    (brB (decide ((↑i : Int) < (↑(List.length (Tr.encs (Tr.kids t))) : Int)) && e == (0 : Int)) (obB (decide (i < List.length (Tr.encs (Tr.kids t)))) ((Tr.encs (Tr.kids t))[Int.toNat (↑i : Int)]? = some (Tr.dv (kid t i)) ∧ i < List.length (Tr.kids t) ∧ [Tr.dv (kid t i)] = [Tr.dv (kid t i)] ∧ ∀ (n : Int), (n = (0 : Int) → cleanT (kid t i)) → obB (inR IntKind.i64 ((↑i : Int) + (1 : Int))) (L (mkS 25 [(1, DV.ptr 1 18 0 0), (3, DV.int IntKind.i64 n), (4, DV.int IntKind.i64 ((↑i : Int) + (1 : Int)))] [(1, Blk.box (Tr.cells t))] [])))) (K (Ex.exit 0) (mkS 25 [(3, DV.int IntKind.i64 e)] [] []))) := by kernel_rfl
def hd44 (t : Tr) (d : Int) (i : Nat) : St := mkS 25 [(1, .ptr 1 18 0 0), (3, .int .i64 d), (4, .int .i64 i)] [(1, .box t.cells)] []
def F44 (t : Tr) (k : Ex → St → Prop) : Prop := ∀ d : Int, 0 ≤ d → d + 1 ≤ t.count → k (.exit 0) (mkS 25 [(3, .int .i64 d)] [] [])
def E44 (t : Tr) (L : St → Prop) : Env := { ls := [(0, loopS [1, 3, 4] [1] 25 L (F44 t))] }
def E44b (t : Tr) (i : Nat) : Env := { ss := [(18, 44, boundG (i < t.kids.length) (kid t i))], an := [(17, (kid t i).dv)] }
theorem vc44 (t : Tr) (L : St → Prop) (Φ : DV → List Blk → Prop) : (vcF cfg (E44 t L) 44 [t.dv] [] Φ) =
    (L (mkS 25 [(1, DV.ptr 1 18 0 0), (3, DV.int IntKind.i64 (0 : Int)), (4, DV.int IntKind.i64 (0 : Int))] [(1, Blk.box (Tr.cells t))] []) ∧ ∀ (d : Int), (0 : Int) ≤ d → d + (1 : Int) ≤ (↑(Tr.count t) : Int) → obB (inR IntKind.i64 (d + (1 : Int))) (Φ (DV.int IntKind.i64 (d + (1 : Int))) [])) := by kernel_rfl
theorem vc44_1 (t : Tr) (d : Int) (i : Nat) (L : St → Prop) (K : Ex → St → Prop) : (vcB cfg (E44b t i) 44 0 (hd44 t d i) (bodyK L [1, 3, 4] [1] [3] [] 25 K)) =
    (brB (decide ((↑i : Int) < (↑(List.length (Tr.encs (Tr.kids t))) : Int))) (obB (decide (i < List.length (Tr.encs (Tr.kids t)))) ((Tr.encs (Tr.kids t))[Int.toNat (↑i : Int)]? = some (Tr.dv (kid t i)) ∧ i < List.length (Tr.kids t) ∧ [Tr.dv (kid t i)] = [Tr.dv (kid t i)] ∧ ∀ (n : Int), (1 : Int) ≤ n → n ≤ (↑(Tr.count (kid t i)) : Int) → brB (decide (n > d)) (obB (inR IntKind.i64 ((↑i : Int) + (1 : Int))) (L (mkS 25 [(1, DV.ptr 1 18 0 0), (3, DV.int IntKind.i64 n), (4, DV.int IntKind.i64 ((↑i : Int) + (1 : Int)))] [(1, Blk.box (Tr.cells t))] []))) (obB (inR IntKind.i64 ((↑i : Int) + (1 : Int))) (L (mkS 25 [(1, DV.ptr 1 18 0 0), (3, DV.int IntKind.i64 d), (4, DV.int IntKind.i64 ((↑i : Int) + (1 : Int)))] [(1, Blk.box (Tr.cells t))] []))))) (K (Ex.exit 0) (mkS 25 [(3, DV.int IntKind.i64 d)] [] []))) := by kernel_rfl
def hd45 (t : Tr) (c : Int) (i : Nat) : St := mkS 21 [(1, .ptr 1 18 0 0), (3, .int .i64 c), (4, .int .i64 i)] [(1, .box t.cells)] []
def F45 (t : Tr) (k : Ex → St → Prop) : Prop := ∀ c : Int, 1 ≤ c → c ≤ t.count → k (.exit 0) (mkS 21 [(3, .int .i64 c)] [] [])
def E45 (t : Tr) (L : St → Prop) : Env := { ls := [(0, loopS [1, 3, 4] [1] 21 L (F45 t))] }
def E45b (t : Tr) (i : Nat) : Env := { ss := [(18, 45, boundG (i < t.kids.length) (kid t i))], an := [(17, (kid t i).dv)] }
theorem vc45 (t : Tr) (L : St → Prop) (Φ : DV → List Blk → Prop) : (vcF cfg (E45 t L) 45 [t.dv] [] Φ) =
    (L (mkS 21 [(1, DV.ptr 1 18 0 0), (3, DV.int IntKind.i64 (1 : Int)), (4, DV.int IntKind.i64 (0 : Int))] [(1, Blk.box (Tr.cells t))] []) ∧ ∀ (c : Int), (1 : Int) ≤ c → c ≤ (↑(Tr.count t) : Int) → Φ (DV.int IntKind.i64 c) []) := by kernel_rfl
theorem vc45_1 (t : Tr) (c : Int) (i : Nat) (L : St → Prop) (K : Ex → St → Prop) : (vcB cfg (E45b t i) 45 0 (hd45 t c i) (bodyK L [1, 3, 4] [1] [3] [] 21 K)) =
    (brB (decide ((↑i : Int) < (↑(List.length (Tr.encs (Tr.kids t))) : Int))) (obB (decide (i < List.length (Tr.encs (Tr.kids t)))) ((Tr.encs (Tr.kids t))[Int.toNat (↑i : Int)]? = some (Tr.dv (kid t i)) ∧ i < List.length (Tr.kids t) ∧ [Tr.dv (kid t i)] = [Tr.dv (kid t i)] ∧ ∀ (n : Int), (1 : Int) ≤ n → n ≤ (↑(Tr.count (kid t i)) : Int) → obB (inR IntKind.i64 (c + n)) (obB (inR IntKind.i64 ((↑i : Int) + (1 : Int))) (L (mkS 21 [(1, DV.ptr 1 18 0 0), (3, DV.int IntKind.i64 (c + n)), (4, DV.int IntKind.i64 ((↑i : Int) + (1 : Int)))] [(1, Blk.box (Tr.cells t))] []))))) (K (Ex.exit 0) (mkS 21 [(3, DV.int IntKind.i64 c)] [] []))) := by kernel_rfl
def E21 (t : Tr) : Env := { cs := [(44, boundG True t), (45, boundG True t), (46, nodeG True t cleanT)] }
theorem vc21 (t : Tr) (Φ : DV → List Blk → Prop) : (vcF cfg (E21 t) 21 [t.dv] [] Φ) =
    (True ∧ [Tr.dv t] = [Tr.dv t] ∧ ∀ (n : Int), (1 : Int) ≤ n → n ≤ (↑(Tr.count t) : Int) → brB (decide (n > (16 : Int))) (Φ (DV.int IntKind.i64 (11 : Int)) []) (True ∧ [Tr.dv t] = [Tr.dv t] ∧ ∀ (n : Int), (1 : Int) ≤ n → n ≤ (↑(Tr.count t) : Int) → brB (decide (n > (1024 : Int))) (Φ (DV.int IntKind.i64 (4 : Int)) []) (True ∧ [Tr.dv t] = [Tr.dv t] ∧ ∀ (n : Int), (n = (0 : Int) → cleanT t) → Φ (DV.int IntKind.i64 n) []))) := by kernel_rfl
section
variable {Pr Ow : Nat → List DV → DV → Prop}
theorem nodeG_ok {g : Nat} {c : Prop} {t : Tr} {Q : Tr → Prop} (h : c → ∀ Φ : DV → List Blk → Prop, (∀ n : Int, (n = 0 → Q t) → Φ (.int .i64 n) []) → GoC cfg Pr Ow g [t.dv] [] Φ) : SpecOK cfg Pr Ow g (nodeG c t Q) := by
  intro xs' ex k hk
  cases ex with
  | nil => obtain ⟨hc, rfl, hk⟩ := hk; exact h hc k hk
  | cons _ _ => exact hk.elim
theorem boundG_ok {g : Nat} {c : Prop} {t : Tr} (h : c → ∀ Φ : DV → List Blk → Prop, (∀ n : Int, 1 ≤ n → n ≤ t.count → Φ (.int .i64 n) []) → GoC cfg Pr Ow g [t.dv] [] Φ) : SpecOK cfg Pr Ow g (boundG c t) := by
  intro xs' ex k hk
  cases ex with
  | nil => obtain ⟨hc, rfl, hk⟩ := hk; exact h hc k hk
  | cons _ _ => exact hk.elim

theorem nt46 : ntOf cfg 46 = 25 := by kernel_rfl
theorem nd46 : nodupK (loops 0 (codeOf cfg 46)) = true := by kernel_rfl
theorem nodes_go (hU : ∀ s : List UInt8, s.length ≤ 3000 → SpecOK cfg Pr Ow 117 (unitsS s)) : ∀ (t : Tr), t.count ≤ 1000000 → shortT t → ∀ Φ : DV → List Blk → Prop, (∀ n : Int, (n = 0 → cleanT t) → Φ (.int .i64 n) []) → GoC cfg Pr Ow 46 [t.dv] [] Φ := by
  intro t
  induction hm : t.count using Nat.strongRecOn generalizing t with
  | _ m ih =>
    subst hm
    intro hn hsh Φ hΦ
    have hc := kids_count t
    refine fn_of (E := E46 t fun st => ∃ e : Int, (e = 0 → cleanN t) ∧ st = hd46 t e 0) (envOK ⟨f83_ok (hU _ ((shortT_eq t).1 hsh).1), trivial⟩ trivial trivial) nt46 nd46 ?_ ?_
    · intro b sp hl st k hs
      obtain ⟨rfl, rfl⟩ := look_one rfl hl
      refine loopS_ok (fun st hst k hk => ?_) hs
      obtain ⟨e, he, rfl⟩ := hst
      refine param_loop (n := t.kids.length) (hd := hd46 t) (E := fun _ i => E46b t i) (Inv := fun e i => e = 0 → cleanN t ∧ cleanTs (t.kids.take i)) (ks := [1, 3, 4]) (bs := [1]) (ks2 := [3]) (bs2 := []) nt46
        (fun _ i _ _ => envOK trivial ⟨nodeG_ok fun hi => ih _ (kid_count hi) (kid t i) rfl (by have := kid_count hi; omega) (shortT_kid hsh hi), trivial⟩ trivial) (fun _ _ => ⟨rfl, rfl⟩) ?_ e 0 (Nat.zero_le _) (fun h => ⟨he h, trivial⟩)
      intro e i hi hinv L hL
      rw [vc46_1]
      refine brB_of (fun h => ?_) (fun h => ?_)
      · simp only [Bool.and_eq_true, decide_eq_true_eq, Tr.encs_len, beq_iff_eq] at h
        have hlt : i < t.kids.length := by omega
        simp only [obB_iff, decide_eq_true_eq, Tr.encs_len]
        refine ⟨hlt, encs_kid hlt, hlt, trivial, fun n hn => ⟨inR64 (by omega), ?_⟩⟩
        rw [← cast_succ]
        exact hL n hlt fun h0 => ⟨(hinv h.2).1, cleanTs_take hlt (hinv h.2).2 (hn h0)⟩
      · refine hk e fun h0 => ?_
        simp only [h0, beq_self_eq_true, Bool.and_true, decide_eq_false_iff_not, Tr.encs_len] at h
        obtain rfl : i = t.kids.length := by omega
        have := hinv h0
        rw [List.take_length] at this
        exact (cleanT_eq t).2 this
    · rw [vc46]
      exact ⟨rfl, fun n hn => ⟨⟨n, hn, rfl⟩, hΦ⟩⟩

theorem nt44 : ntOf cfg 44 = 25 := by kernel_rfl
theorem nd44 : nodupK (loops 0 (codeOf cfg 44)) = true := by kernel_rfl
theorem depth_go : ∀ (t : Tr), t.count ≤ 1000000 → ∀ Φ : DV → List Blk → Prop, (∀ n : Int, 1 ≤ n → n ≤ t.count → Φ (.int .i64 n) []) → GoC cfg Pr Ow 44 [t.dv] [] Φ := by
  intro t
  induction hm : t.count using Nat.strongRecOn generalizing t with
  | _ m ih =>
    subst hm
    intro hn Φ hΦ
    have hc := kids_count t
    refine fn_of (E := E44 t fun st => st = hd44 t 0 0) (envOK trivial trivial trivial) nt44 nd44 ?_ ?_
    · intro b sp hl st k hs
      obtain ⟨rfl, rfl⟩ := look_one rfl hl
      refine loopS_ok (fun st hst k hk => ?_) hs
      subst hst
      refine param_loop (n := t.kids.length) (hd := hd44 t) (E := fun _ i => E44b t i) (Inv := fun d i => 0 ≤ d ∧ d + 1 ≤ (t.count : Int)) (ks := [1, 3, 4]) (bs := [1]) (ks2 := [3]) (bs2 := []) nt44
        (fun _ i _ _ => envOK trivial ⟨boundG_ok fun hi => ih _ (kid_count hi) (kid t i) rfl (by have := kid_count hi; omega), trivial⟩ trivial) (fun _ _ => ⟨rfl, rfl⟩) ?_ 0 0 (Nat.zero_le _) (by constructor <;> omega)
      intro d i hi hinv L hL
      rw [vc44_1]
      refine brB_of (fun h => ?_) (fun h => hk d hinv.1 hinv.2)
      have hlt : i < t.kids.length := by simpa [Tr.encs_len] using h
      have hkc := kid_count hlt
      simp only [obB_iff, decide_eq_true_eq, Tr.encs_len]
      refine ⟨hlt, encs_kid hlt, hlt, trivial, fun n h1 h2 => brB_of (fun _ => ⟨inR64 (by omega), ?_⟩) fun _ => ⟨inR64 (by omega), ?_⟩⟩
      · rw [← cast_succ]; exact hL n hlt (by constructor <;> omega)
      · rw [← cast_succ]; exact hL d hlt hinv
    · rw [vc44]
      exact ⟨rfl, fun d h1 h2 => obB_of (inR64 (by omega)) (hΦ _ (by omega) h2)⟩

theorem nt45 : ntOf cfg 45 = 21 := by kernel_rfl
theorem nd45 : nodupK (loops 0 (codeOf cfg 45)) = true := by kernel_rfl
theorem count_go : ∀ (t : Tr), t.count ≤ 1000000 → ∀ Φ : DV → List Blk → Prop, (∀ n : Int, 1 ≤ n → n ≤ t.count → Φ (.int .i64 n) []) → GoC cfg Pr Ow 45 [t.dv] [] Φ := by
  intro t
  induction hm : t.count using Nat.strongRecOn generalizing t with
  | _ m ih =>
    subst hm
    intro hn Φ hΦ
    have hc := kids_count t
    refine fn_of (E := E45 t fun st => st = hd45 t 1 0) (envOK trivial trivial trivial) nt45 nd45 ?_ ?_
    · intro b sp hl st k hs
      obtain ⟨rfl, rfl⟩ := look_one rfl hl
      refine loopS_ok (fun st hst k hk => ?_) hs
      subst hst
      refine param_loop (n := t.kids.length) (hd := hd45 t) (E := fun _ i => E45b t i) (Inv := fun c i => 1 ≤ c ∧ c ≤ (1 + Tr.counts (t.kids.take i) : Nat)) (ks := [1, 3, 4]) (bs := [1]) (ks2 := [3]) (bs2 := []) nt45
        (fun _ i _ _ => envOK trivial ⟨boundG_ok fun hi => ih _ (kid_count hi) (kid t i) rfl (by have := kid_count hi; omega), trivial⟩ trivial) (fun _ _ => ⟨rfl, rfl⟩) ?_ 1 0 (Nat.zero_le _) (by simp [Tr.counts])
      intro c i hi hinv L hL
      rw [vc45_1]
      refine brB_of (fun h => ?_) (fun h => ?_)
      · have hlt : i < t.kids.length := by simpa [Tr.encs_len] using h
        have hct := counts_take hlt
        have hle : 1 + Tr.counts (t.kids.take (i + 1)) ≤ t.count := by
          rw [Tr.count_eq]
          have e : Tr.counts t.kids = Tr.counts (t.kids.take (i + 1)) + Tr.counts (t.kids.drop (i + 1)) := by rw [← Tr.counts_append, List.take_append_drop]
          omega
        simp only [obB_iff, decide_eq_true_eq, Tr.encs_len]
        refine ⟨hlt, encs_kid hlt, hlt, trivial, fun n h1 h2 => ⟨inR64 (by omega), inR64 (by omega), ?_⟩⟩
        rw [← cast_succ]; exact hL (c + n) hlt (by constructor <;> omega)
      · simp only [decide_eq_false_iff_not, Tr.encs_len] at h
        obtain rfl : i = t.kids.length := by omega
        rw [counts_all] at hinv
        exact hk c hinv.1 hinv.2
    · rw [vc45]
      exact ⟨rfl, fun c h1 h2 => hΦ c h1 h2⟩

theorem check_go (hU : ∀ s : List UInt8, s.length ≤ 3000 → SpecOK cfg Pr Ow 117 (unitsS s)) (t : Tr) (hn : t.count ≤ 1000000) (hs : shortT t) (Φ : DV → List Blk → Prop) (hΦ : ∀ n : Int, (n = 0 → cleanT t) → Φ (.int .i64 n) []) : GoC cfg Pr Ow 21 [t.dv] [] Φ := by
  refine fn_of0 (E := E21 t) (envOK ⟨boundG_ok fun _ => depth_go t hn, boundG_ok fun _ => count_go t hn, nodeG_ok fun _ => nodes_go hU t hn hs, trivial⟩ trivial trivial) rfl ?_
  rw [vc21]
  exact ⟨trivial, rfl, fun n _ _ => brB_of (fun _ => hΦ 11 (by simp)) fun _ => ⟨trivial, rfl, fun n _ _ => brB_of (fun _ => hΦ 4 (by simp)) fun _ => ⟨trivial, rfl, hΦ⟩⟩⟩
end
end Go.Det.Sea
end

section
set_option linter.unusedVariables false
set_option linter.unusedSimpArgs false
namespace Go.Det.Sea
open Go Go.Det

def ints (l : List Int) : List DV := l.map (DV.int .i64)
def hi159_0 (s : List UInt8) (i n v le k : Int) : St := mkS 100 [(0, .str s), (4, .nilsl), (5, .int .i64 i), (7, .int .i64 n), (8, .int .i64 v), (9, .int .i64 le), (10, .int .i64 k)] [] []
def hi159_1 (s : List UInt8) (l : List Int) (m : Nat) (i n v le k : Int) : St := mkS 100 [(0, .str s), (4, .rsl 94 1 0 m), (5, .int .i64 i), (7, .int .i64 n), (8, .int .i64 v), (9, .int .i64 le), (10, .int .i64 k)] [(94, .row 1 (ints l))] []
def Fi159 (st : St) (k : Ex → St → Prop) : Prop := (∀ v : Int, k .ret { t := ((st.t.set 8 (.int .i64 v)).set 2 .nilsl).set 3 (.bool false), h := st.h }) ∧ ∀ v : Int, k (.exit 3) { t := st.t.set 8 (.int .i64 v), h := st.h }
def inner159 (L : St → Prop) : LSpec := fun st k => L (keepT [0, 4, 5, 7, 8, 9, 10] [94] 100 st) ∧ Fi159 (keepT [0, 4, 5, 7, 8, 9] [94] 100 (keepT [0, 4, 5, 7, 8, 9, 10] [94] 100 st)) k
def Eo159 (L : St → Prop) : Env := { ls := [(3, inner159 L)] }
def ho159_0 (s : List UInt8) : St := mkS 100 [(0, .str s), (4, .nilsl), (5, .int .i64 0)] [] []
def ho159_1 (s : List UInt8) (l : List Int) (m i : Nat) : St := mkS 100 [(0, .str s), (4, .rsl 94 1 0 m), (5, .int .i64 i)] [(94, .row 1 (ints l))] []
def F159 (s : List UInt8) (k : Ex → St → Prop) : Prop := k .ret (mkS 100 [(2, .nilsl), (3, .bool false), (4, .nilsl)] [] []) ∧ (∀ (l : List Int) (m : Nat), k .ret (mkS 100 [(2, .nilsl), (3, .bool false), (4, .rsl 94 1 0 m)] [(94, .row 1 (ints l))] [])) ∧ k (.exit 0) (mkS 100 [(4, .nilsl)] [] []) ∧ ∀ l : List Int, l.length ≤ s.length → k (.exit 0) (mkS 100 [(4, .rsl 94 1 0 l.length)] [(94, .row 1 (ints l))] [])
def E159 (s : List UInt8) (L : St → Prop) : Env := { ls := [(0, loopS [0, 4, 5] [94] 100 L (F159 s))] }
theorem vc159 (s : List UInt8) (L : St → Prop) (Φ : DV → List Blk → Prop) : (vcF cfg (E159 s L) 159 [.str s] [] Φ) =
    (L (mkS 100 [(0, DV.str s), (4, DV.nilsl), (5, DV.int IntKind.i64 (0 : Int))] [] []) ∧ Φ (DV.tup [DV.nilsl, DV.bool false]) [] ∧ (∀ (l : List Int) (m : Nat), Φ (DV.tup [DV.nilsl, DV.bool false]) []) ∧ Φ (DV.tup [DV.nilsl, DV.bool true]) [] ∧ ∀ (l : List Int), List.length l ≤ List.length s → obB (decide (0 + List.length l ≤ List.length (ints l))) (Φ (DV.tup [DV.psl 1 (List.take (List.length l) (ints l)), DV.bool true]) [])) := by kernel_rfl
theorem vc159i_0 (s : List UInt8) (i n v le k : Int) (L : St → Prop) (K : Ex → St → Prop) : (vcI cfg E0 159 0 3 (hi159_0 s i n v le k) (bodyK L [0, 4, 5, 7, 8, 9, 10] [94] [0, 2, 3, 4, 5, 7, 8, 9] [94] 100 K)) =
    (brB (decide (k ≤ n)) (obB (inR IntKind.i64 (i + k)) (obB (decide ((0 : Int) ≤ i + k)) (obB (decide (Int.toNat (i + k) < List.length s)) (brB (IntKind.wrap IntKind.i64 (↑(BitVec.toNat (BitVec.ofInt 64 (IntKind.wrap IntKind.i64 (↑(UInt8.toNat (List.getD s (Int.toNat (i + k)) (0 : UInt8))) : Int)) &&& BitVec.ofInt 64 (192 : Int))) : Int) != (128 : Int)) (K Ex.ret (mkS 100 [(0, DV.str s), (2, DV.nilsl), (3, DV.bool false), (4, DV.nilsl), (5, DV.int IntKind.i64 i), (7, DV.int IntKind.i64 n), (8, DV.int IntKind.i64 v), (9, DV.int IntKind.i64 le)] [] [])) (obB (inR IntKind.i64 (k + (1 : Int))) (L (mkS 100 [(0, DV.str s), (4, DV.nilsl), (5, DV.int IntKind.i64 i), (7, DV.int IntKind.i64 n), (8, DV.int IntKind.i64 (IntKind.wrap IntKind.i64 (↑(BitVec.toNat (BitVec.ofInt 64 (IntKind.wrap IntKind.i64 (v * (64 : Int))) ||| BitVec.ofInt 64 (IntKind.wrap IntKind.i64 (↑(BitVec.toNat (BitVec.ofInt 64 (IntKind.wrap IntKind.i64 (↑(UInt8.toNat (List.getD s (Int.toNat (i + k)) (0 : UInt8))) : Int)) &&& BitVec.ofInt 64 (63 : Int))) : Int)))) : Int))), (9, DV.int IntKind.i64 le), (10, DV.int IntKind.i64 (k + (1 : Int)))] [] []))))))) (K (Ex.exit 3) (mkS 100 [(0, DV.str s), (4, DV.nilsl), (5, DV.int IntKind.i64 i), (7, DV.int IntKind.i64 n), (8, DV.int IntKind.i64 v), (9, DV.int IntKind.i64 le)] [] []))) := by kernel_rfl
theorem vc159i_1 (s : List UInt8) (l : List Int) (m : Nat) (i n v le k : Int) (L : St → Prop) (K : Ex → St → Prop) : (vcI cfg E0 159 0 3 (hi159_1 s l m i n v le k) (bodyK L [0, 4, 5, 7, 8, 9, 10] [94] [0, 2, 3, 4, 5, 7, 8, 9] [94] 100 K)) =
    (brB (decide (k ≤ n)) (obB (inR IntKind.i64 (i + k)) (obB (decide ((0 : Int) ≤ i + k)) (obB (decide (Int.toNat (i + k) < List.length s)) (brB (IntKind.wrap IntKind.i64 (↑(BitVec.toNat (BitVec.ofInt 64 (IntKind.wrap IntKind.i64 (↑(UInt8.toNat (List.getD s (Int.toNat (i + k)) (0 : UInt8))) : Int)) &&& BitVec.ofInt 64 (192 : Int))) : Int) != (128 : Int)) (K Ex.ret (mkS 100 [(0, DV.str s), (2, DV.nilsl), (3, DV.bool false), (4, DV.rsl 94 1 0 m), (5, DV.int IntKind.i64 i), (7, DV.int IntKind.i64 n), (8, DV.int IntKind.i64 v), (9, DV.int IntKind.i64 le)] [(94, Blk.row 1 (ints l))] [])) (obB (inR IntKind.i64 (k + (1 : Int))) (L (mkS 100 [(0, DV.str s), (4, DV.rsl 94 1 0 m), (5, DV.int IntKind.i64 i), (7, DV.int IntKind.i64 n), (8, DV.int IntKind.i64 (IntKind.wrap IntKind.i64 (↑(BitVec.toNat (BitVec.ofInt 64 (IntKind.wrap IntKind.i64 (v * (64 : Int))) ||| BitVec.ofInt 64 (IntKind.wrap IntKind.i64 (↑(BitVec.toNat (BitVec.ofInt 64 (IntKind.wrap IntKind.i64 (↑(UInt8.toNat (List.getD s (Int.toNat (i + k)) (0 : UInt8))) : Int)) &&& BitVec.ofInt 64 (63 : Int))) : Int)))) : Int))), (9, DV.int IntKind.i64 le), (10, DV.int IntKind.i64 (k + (1 : Int)))] [(94, Blk.row 1 (ints l))] []))))))) (K (Ex.exit 3) (mkS 100 [(0, DV.str s), (4, DV.rsl 94 1 0 m), (5, DV.int IntKind.i64 i), (7, DV.int IntKind.i64 n), (8, DV.int IntKind.i64 v), (9, DV.int IntKind.i64 le)] [(94, Blk.row 1 (ints l))] []))) := by kernel_rfl
theorem vc159o_0 (s : List UInt8) (Li L : St → Prop) (K : Ex → St → Prop) : (vcB cfg (Eo159 Li) 159 0 (ho159_0 s) (bodyK L [0, 4, 5] [94] [2, 3, 4] [94] 100 K)) =
    (brB (decide ((0 : Int) < (↑(List.length s) : Int))) (obB (decide (0 < List.length s)) (brB (decide (IntKind.wrap IntKind.i64 (↑(UInt8.toNat (List.getD s 0 (0 : UInt8))) : Int) < (128 : Int))) (obB (inR IntKind.i64 ((↑(List.length s) : Int) - (0 : Int))) (brB (decide ((↑(List.length s) : Int) - (0 : Int) ≤ (0 : Int))) (K Ex.ret (mkS 100 [(2, DV.nilsl), (3, DV.bool false), (4, DV.nilsl)] [] [])) (Li (mkS 100 [(0, DV.str s), (4, DV.nilsl), (5, DV.int IntKind.i64 (0 : Int)), (7, DV.int IntKind.i64 (0 : Int)), (8, DV.int IntKind.i64 (IntKind.wrap IntKind.i64 (↑(UInt8.toNat (List.getD s 0 (0 : UInt8))) : Int))), (9, DV.int IntKind.i64 (0 : Int)), (10, DV.int IntKind.i64 (1 : Int))] [] []) ∧ (∀ (v : Int), K Ex.ret (mkS 100 [(2, DV.nilsl), (3, DV.bool false), (4, DV.nilsl)] [] [])) ∧ ∀ (v : Int), brB (decide (v < (0 : Int)) || decide (v ≥ (55296 : Int)) && decide (v < (57344 : Int)) || decide (v > (1114111 : Int))) (K Ex.ret (mkS 100 [(2, DV.nilsl), (3, DV.bool false), (4, DV.nilsl)] [] [])) (L (mkS 100 [(0, DV.str s), (4, DV.rsl 94 1 0 1), (5, DV.int IntKind.i64 (1 : Int))] [(94, Blk.row 1 [DV.int IntKind.i64 v])] []))))) (brB (decide (IntKind.wrap IntKind.i64 (↑(UInt8.toNat (List.getD s 0 (0 : UInt8))) : Int) ≥ (194 : Int)) && decide (IntKind.wrap IntKind.i64 (↑(UInt8.toNat (List.getD s 0 (0 : UInt8))) : Int) < (224 : Int))) (obB (inR IntKind.i64 ((↑(List.length s) : Int) - (0 : Int))) (brB (decide ((↑(List.length s) : Int) - (0 : Int) ≤ (1 : Int))) (K Ex.ret (mkS 100 [(2, DV.nilsl), (3, DV.bool false), (4, DV.nilsl)] [] [])) (Li (mkS 100 [(0, DV.str s), (4, DV.nilsl), (5, DV.int IntKind.i64 (0 : Int)), (7, DV.int IntKind.i64 (1 : Int)), (8, DV.int IntKind.i64 (IntKind.wrap IntKind.i64 (↑(BitVec.toNat (BitVec.ofInt 64 (IntKind.wrap IntKind.i64 (↑(UInt8.toNat (List.getD s 0 (0 : UInt8))) : Int)) &&& BitVec.ofInt 64 (31 : Int))) : Int))), (9, DV.int IntKind.i64 (128 : Int)), (10, DV.int IntKind.i64 (1 : Int))] [] []) ∧ (∀ (v : Int), K Ex.ret (mkS 100 [(2, DV.nilsl), (3, DV.bool false), (4, DV.nilsl)] [] [])) ∧ ∀ (v : Int), brB (decide (v < (128 : Int)) || decide (v ≥ (55296 : Int)) && decide (v < (57344 : Int)) || decide (v > (1114111 : Int))) (K Ex.ret (mkS 100 [(2, DV.nilsl), (3, DV.bool false), (4, DV.nilsl)] [] [])) (L (mkS 100 [(0, DV.str s), (4, DV.rsl 94 1 0 1), (5, DV.int IntKind.i64 (2 : Int))] [(94, Blk.row 1 [DV.int IntKind.i64 v])] []))))) (brB (decide (IntKind.wrap IntKind.i64 (↑(UInt8.toNat (List.getD s 0 (0 : UInt8))) : Int) ≥ (224 : Int)) && decide (IntKind.wrap IntKind.i64 (↑(UInt8.toNat (List.getD s 0 (0 : UInt8))) : Int) < (240 : Int))) (obB (inR IntKind.i64 ((↑(List.length s) : Int) - (0 : Int))) (brB (decide ((↑(List.length s) : Int) - (0 : Int) ≤ (2 : Int))) (K Ex.ret (mkS 100 [(2, DV.nilsl), (3, DV.bool false), (4, DV.nilsl)] [] [])) (Li (mkS 100 [(0, DV.str s), (4, DV.nilsl), (5, DV.int IntKind.i64 (0 : Int)), (7, DV.int IntKind.i64 (2 : Int)), (8, DV.int IntKind.i64 (IntKind.wrap IntKind.i64 (↑(BitVec.toNat (BitVec.ofInt 64 (IntKind.wrap IntKind.i64 (↑(UInt8.toNat (List.getD s 0 (0 : UInt8))) : Int)) &&& BitVec.ofInt 64 (15 : Int))) : Int))), (9, DV.int IntKind.i64 (2048 : Int)), (10, DV.int IntKind.i64 (1 : Int))] [] []) ∧ (∀ (v : Int), K Ex.ret (mkS 100 [(2, DV.nilsl), (3, DV.bool false), (4, DV.nilsl)] [] [])) ∧ ∀ (v : Int), brB (decide (v < (2048 : Int)) || decide (v ≥ (55296 : Int)) && decide (v < (57344 : Int)) || decide (v > (1114111 : Int))) (K Ex.ret (mkS 100 [(2, DV.nilsl), (3, DV.bool false), (4, DV.nilsl)] [] [])) (L (mkS 100 [(0, DV.str s), (4, DV.rsl 94 1 0 1), (5, DV.int IntKind.i64 (3 : Int))] [(94, Blk.row 1 [DV.int IntKind.i64 v])] []))))) (brB (decide (IntKind.wrap IntKind.i64 (↑(UInt8.toNat (List.getD s 0 (0 : UInt8))) : Int) ≥ (240 : Int)) && decide (IntKind.wrap IntKind.i64 (↑(UInt8.toNat (List.getD s 0 (0 : UInt8))) : Int) < (245 : Int))) (obB (inR IntKind.i64 ((↑(List.length s) : Int) - (0 : Int))) (brB (decide ((↑(List.length s) : Int) - (0 : Int) ≤ (3 : Int))) (K Ex.ret (mkS 100 [(2, DV.nilsl), (3, DV.bool false), (4, DV.nilsl)] [] [])) (Li (mkS 100 [(0, DV.str s), (4, DV.nilsl), (5, DV.int IntKind.i64 (0 : Int)), (7, DV.int IntKind.i64 (3 : Int)), (8, DV.int IntKind.i64 (IntKind.wrap IntKind.i64 (↑(BitVec.toNat (BitVec.ofInt 64 (IntKind.wrap IntKind.i64 (↑(UInt8.toNat (List.getD s 0 (0 : UInt8))) : Int)) &&& BitVec.ofInt 64 (7 : Int))) : Int))), (9, DV.int IntKind.i64 (65536 : Int)), (10, DV.int IntKind.i64 (1 : Int))] [] []) ∧ (∀ (v : Int), K Ex.ret (mkS 100 [(2, DV.nilsl), (3, DV.bool false), (4, DV.nilsl)] [] [])) ∧ ∀ (v : Int), brB (decide (v < (65536 : Int)) || decide (v ≥ (55296 : Int)) && decide (v < (57344 : Int)) || decide (v > (1114111 : Int))) (K Ex.ret (mkS 100 [(2, DV.nilsl), (3, DV.bool false), (4, DV.nilsl)] [] [])) (L (mkS 100 [(0, DV.str s), (4, DV.rsl 94 1 0 1), (5, DV.int IntKind.i64 (4 : Int))] [(94, Blk.row 1 [DV.int IntKind.i64 v])] []))))) (K Ex.ret (mkS 100 [(2, DV.nilsl), (3, DV.bool false), (4, DV.nilsl)] [] []))))))) (K (Ex.exit 0) (mkS 100 [(4, DV.nilsl)] [] []))) := by kernel_rfl
theorem vc159o_1 (s : List UInt8) (l : List Int) (m i : Nat) (Li L : St → Prop) (K : Ex → St → Prop) : (vcB cfg (Eo159 Li) 159 0 (ho159_1 s l m i) (bodyK L [0, 4, 5] [94] [2, 3, 4] [94] 100 K)) =
    (brB (decide ((↑i : Int) < (↑(List.length s) : Int))) (obB (decide (i < List.length s)) (brB (decide (IntKind.wrap IntKind.i64 (↑(UInt8.toNat (List.getD s i (0 : UInt8))) : Int) < (128 : Int))) (obB (inR IntKind.i64 ((↑(List.length s) : Int) - (↑i : Int))) (brB (decide ((↑(List.length s) : Int) - (↑i : Int) ≤ (0 : Int))) (K Ex.ret (mkS 100 [(2, DV.nilsl), (3, DV.bool false), (4, DV.rsl 94 1 0 m)] [(94, Blk.row 1 (ints l))] [])) (Li (mkS 100 [(0, DV.str s), (4, DV.rsl 94 1 0 m), (5, DV.int IntKind.i64 (↑i : Int)), (7, DV.int IntKind.i64 (0 : Int)), (8, DV.int IntKind.i64 (IntKind.wrap IntKind.i64 (↑(UInt8.toNat (List.getD s i (0 : UInt8))) : Int))), (9, DV.int IntKind.i64 (0 : Int)), (10, DV.int IntKind.i64 (1 : Int))] [(94, Blk.row 1 (ints l))] []) ∧ (∀ (v : Int), K Ex.ret (mkS 100 [(2, DV.nilsl), (3, DV.bool false), (4, DV.rsl 94 1 0 m)] [(94, Blk.row 1 (ints l))] [])) ∧ ∀ (v : Int), brB (decide (v < (0 : Int)) || decide (v ≥ (55296 : Int)) && decide (v < (57344 : Int)) || decide (v > (1114111 : Int))) (K Ex.ret (mkS 100 [(2, DV.nilsl), (3, DV.bool false), (4, DV.rsl 94 1 0 m)] [(94, Blk.row 1 (ints l))] [])) (obB (decide (0 + m ≤ List.length (ints l))) (obB (roomy 8 (m + 1)) (obB (inR IntKind.i64 ((↑i : Int) + (0 : Int))) (obB (inR IntKind.i64 ((↑i : Int) + (0 : Int) + (1 : Int))) (L (mkS 100 [(0, DV.str s), (4, DV.rsl 94 1 0 (m + 1)), (5, DV.int IntKind.i64 ((↑i : Int) + (0 : Int) + (1 : Int)))] [(94, Blk.row 1 (List.take m (ints l) ++ [DV.int IntKind.i64 v]))] []))))))))) (brB (decide (IntKind.wrap IntKind.i64 (↑(UInt8.toNat (List.getD s i (0 : UInt8))) : Int) ≥ (194 : Int)) && decide (IntKind.wrap IntKind.i64 (↑(UInt8.toNat (List.getD s i (0 : UInt8))) : Int) < (224 : Int))) (obB (inR IntKind.i64 ((↑(List.length s) : Int) - (↑i : Int))) (brB (decide ((↑(List.length s) : Int) - (↑i : Int) ≤ (1 : Int))) (K Ex.ret (mkS 100 [(2, DV.nilsl), (3, DV.bool false), (4, DV.rsl 94 1 0 m)] [(94, Blk.row 1 (ints l))] [])) (Li (mkS 100 [(0, DV.str s), (4, DV.rsl 94 1 0 m), (5, DV.int IntKind.i64 (↑i : Int)), (7, DV.int IntKind.i64 (1 : Int)), (8, DV.int IntKind.i64 (IntKind.wrap IntKind.i64 (↑(BitVec.toNat (BitVec.ofInt 64 (IntKind.wrap IntKind.i64 (↑(UInt8.toNat (List.getD s i (0 : UInt8))) : Int)) &&& BitVec.ofInt 64 (31 : Int))) : Int))), (9, DV.int IntKind.i64 (128 : Int)), (10, DV.int IntKind.i64 (1 : Int))] [(94, Blk.row 1 (ints l))] []) ∧ (∀ (v : Int), K Ex.ret (mkS 100 [(2, DV.nilsl), (3, DV.bool false), (4, DV.rsl 94 1 0 m)] [(94, Blk.row 1 (ints l))] [])) ∧ ∀ (v : Int), brB (decide (v < (128 : Int)) || decide (v ≥ (55296 : Int)) && decide (v < (57344 : Int)) || decide (v > (1114111 : Int))) (K Ex.ret (mkS 100 [(2, DV.nilsl), (3, DV.bool false), (4, DV.rsl 94 1 0 m)] [(94, Blk.row 1 (ints l))] [])) (obB (decide (0 + m ≤ List.length (ints l))) (obB (roomy 8 (m + 1)) (obB (inR IntKind.i64 ((↑i : Int) + (1 : Int))) (obB (inR IntKind.i64 ((↑i : Int) + (1 : Int) + (1 : Int))) (L (mkS 100 [(0, DV.str s), (4, DV.rsl 94 1 0 (m + 1)), (5, DV.int IntKind.i64 ((↑i : Int) + (1 : Int) + (1 : Int)))] [(94, Blk.row 1 (List.take m (ints l) ++ [DV.int IntKind.i64 v]))] []))))))))) (brB (decide (IntKind.wrap IntKind.i64 (↑(UInt8.toNat (List.getD s i (0 : UInt8))) : Int) ≥ (224 : Int)) && decide (IntKind.wrap IntKind.i64 (↑(UInt8.toNat (List.getD s i (0 : UInt8))) : Int) < (240 : Int))) (obB (inR IntKind.i64 ((↑(List.length s) : Int) - (↑i : Int))) (brB (decide ((↑(List.length s) : Int) - (↑i : Int) ≤ (2 : Int))) (K Ex.ret (mkS 100 [(2, DV.nilsl), (3, DV.bool false), (4, DV.rsl 94 1 0 m)] [(94, Blk.row 1 (ints l))] [])) (Li (mkS 100 [(0, DV.str s), (4, DV.rsl 94 1 0 m), (5, DV.int IntKind.i64 (↑i : Int)), (7, DV.int IntKind.i64 (2 : Int)), (8, DV.int IntKind.i64 (IntKind.wrap IntKind.i64 (↑(BitVec.toNat (BitVec.ofInt 64 (IntKind.wrap IntKind.i64 (↑(UInt8.toNat (List.getD s i (0 : UInt8))) : Int)) &&& BitVec.ofInt 64 (15 : Int))) : Int))), (9, DV.int IntKind.i64 (2048 : Int)), (10, DV.int IntKind.i64 (1 : Int))] [(94, Blk.row 1 (ints l))] []) ∧ (∀ (v : Int), K Ex.ret (mkS 100 [(2, DV.nilsl), (3, DV.bool false), (4, DV.rsl 94 1 0 m)] [(94, Blk.row 1 (ints l))] [])) ∧ ∀ (v : Int), brB (decide (v < (2048 : Int)) || decide (v ≥ (55296 : Int)) && decide (v < (57344 : Int)) || decide (v > (1114111 : Int))) (K Ex.ret (mkS 100 [(2, DV.nilsl), (3, DV.bool false), (4, DV.rsl 94 1 0 m)] [(94, Blk.row 1 (ints l))] [])) (obB (decide (0 + m ≤ List.length (ints l))) (obB (roomy 8 (m + 1)) (obB (inR IntKind.i64 ((↑i : Int) + (2 : Int))) (obB (inR IntKind.i64 ((↑i : Int) + (2 : Int) + (1 : Int))) (L (mkS 100 [(0, DV.str s), (4, DV.rsl 94 1 0 (m + 1)), (5, DV.int IntKind.i64 ((↑i : Int) + (2 : Int) + (1 : Int)))] [(94, Blk.row 1 (List.take m (ints l) ++ [DV.int IntKind.i64 v]))] []))))))))) (brB (decide (IntKind.wrap IntKind.i64 (↑(UInt8.toNat (List.getD s i (0 : UInt8))) : Int) ≥ (240 : Int)) && decide (IntKind.wrap IntKind.i64 (↑(UInt8.toNat (List.getD s i (0 : UInt8))) : Int) < (245 : Int))) (obB (inR IntKind.i64 ((↑(List.length s) : Int) - (↑i : Int))) (brB (decide ((↑(List.length s) : Int) - (↑i : Int) ≤ (3 : Int))) (K Ex.ret (mkS 100 [(2, DV.nilsl), (3, DV.bool false), (4, DV.rsl 94 1 0 m)] [(94, Blk.row 1 (ints l))] [])) (Li (mkS 100 [(0, DV.str s), (4, DV.rsl 94 1 0 m), (5, DV.int IntKind.i64 (↑i : Int)), (7, DV.int IntKind.i64 (3 : Int)), (8, DV.int IntKind.i64 (IntKind.wrap IntKind.i64 (↑(BitVec.toNat (BitVec.ofInt 64 (IntKind.wrap IntKind.i64 (↑(UInt8.toNat (List.getD s i (0 : UInt8))) : Int)) &&& BitVec.ofInt 64 (7 : Int))) : Int))), (9, DV.int IntKind.i64 (65536 : Int)), (10, DV.int IntKind.i64 (1 : Int))] [(94, Blk.row 1 (ints l))] []) ∧ (∀ (v : Int), K Ex.ret (mkS 100 [(2, DV.nilsl), (3, DV.bool false), (4, DV.rsl 94 1 0 m)] [(94, Blk.row 1 (ints l))] [])) ∧ ∀ (v : Int), brB (decide (v < (65536 : Int)) || decide (v ≥ (55296 : Int)) && decide (v < (57344 : Int)) || decide (v > (1114111 : Int))) (K Ex.ret (mkS 100 [(2, DV.nilsl), (3, DV.bool false), (4, DV.rsl 94 1 0 m)] [(94, Blk.row 1 (ints l))] [])) (obB (decide (0 + m ≤ List.length (ints l))) (obB (roomy 8 (m + 1)) (obB (inR IntKind.i64 ((↑i : Int) + (3 : Int))) (obB (inR IntKind.i64 ((↑i : Int) + (3 : Int) + (1 : Int))) (L (mkS 100 [(0, DV.str s), (4, DV.rsl 94 1 0 (m + 1)), (5, DV.int IntKind.i64 ((↑i : Int) + (3 : Int) + (1 : Int)))] [(94, Blk.row 1 (List.take m (ints l) ++ [DV.int IntKind.i64 v]))] []))))))))) (K Ex.ret (mkS 100 [(2, DV.nilsl), (3, DV.bool false), (4, DV.rsl 94 1 0 m)] [(94, Blk.row 1 (ints l))] []))))))) (K (Ex.exit 0) (mkS 100 [(4, DV.rsl 94 1 0 m)] [(94, Blk.row 1 (ints l))] []))) := by kernel_rfl
section
variable {Pr Ow : Nat → List DV → DV → Prop}
theorem nt159 : ntOf cfg 159 = 100 := by kernel_rfl
theorem nd159 : nodupK (loops 0 (codeOf cfg 159)) = true := by kernel_rfl
theorem ni159 : nodupK (loops 0 (bodyOf cfg 159 0)) = true := by kernel_rfl
theorem inner159_0 {s : List UInt8} {i n le : Int} {K : Ex → St → Prop} (hi : 0 ≤ i) (hn : 0 ≤ n) (hlt : i + n < s.length) (hs : s.length ≤ 3000) (hF : Fi159 (keepT [0, 4, 5, 7, 8, 9] [94] 100 (hi159_0 s i n 0 le 1)) K) :
    ∀ (d : Nat) (k v : Int), 1 ≤ k → k + d = n + 1 → GoL cfg Pr Ow 159 100 (innerOf cfg 159 0 3) (hi159_0 s i n v le k) K := by
  intro d
  induction d with
  | zero =>
    intro k v hk hd
    refine round_in E0_ok nt159 rfl (L := fun _ => False) (ks := [0, 4, 5, 7, 8, 9, 10]) (bs := [94]) (ks2 := [0, 2, 3, 4, 5, 7, 8, 9]) (bs2 := [94]) ?_ (fun _ h => h.elim)
    rw [vc159i_0]
    refine brB_of (fun h => ?_) (fun h => hF.2 v)
    simp at h; omega
  | succ d ih =>
    intro k v hk hd
    refine round_in E0_ok nt159 rfl (L := fun st => ∃ v', st = hi159_0 s i n v' le (k + 1)) (ks := [0, 4, 5, 7, 8, 9, 10]) (bs := [94]) (ks2 := [0, 2, 3, 4, 5, 7, 8, 9]) (bs2 := [94]) ?_ ?_
    · rw [vc159i_0]
      refine brB_of (fun h => ?_) (fun h => hF.2 v)
      simp only [obB_iff, decide_eq_true_eq]
      exact ⟨inR64 (by omega), by omega, by omega, brB_of (fun _ => hF.1 v) fun _ => ⟨inR64 (by omega), _, rfl⟩⟩
    · rintro _ ⟨v', rfl⟩
      exact ih (k + 1) v' (by omega) (by omega)
theorem inner159_1 {s : List UInt8} {l : List Int} {m : Nat} {i n le : Int} {K : Ex → St → Prop} (hi : 0 ≤ i) (hn : 0 ≤ n) (hlt : i + n < s.length) (hs : s.length ≤ 3000) (hF : Fi159 (keepT [0, 4, 5, 7, 8, 9] [94] 100 (hi159_1 s l m i n 0 le 1)) K) :
    ∀ (d : Nat) (k v : Int), 1 ≤ k → k + d = n + 1 → GoL cfg Pr Ow 159 100 (innerOf cfg 159 0 3) (hi159_1 s l m i n v le k) K := by
  intro d
  induction d with
  | zero =>
    intro k v hk hd
    refine round_in E0_ok nt159 rfl (L := fun _ => False) (ks := [0, 4, 5, 7, 8, 9, 10]) (bs := [94]) (ks2 := [0, 2, 3, 4, 5, 7, 8, 9]) (bs2 := [94]) ?_ (fun _ h => h.elim)
    rw [vc159i_1]
    refine brB_of (fun h => ?_) (fun h => hF.2 v)
    simp at h; omega
  | succ d ih =>
    intro k v hk hd
    refine round_in E0_ok nt159 rfl (L := fun st => ∃ v', st = hi159_1 s l m i n v' le (k + 1)) (ks := [0, 4, 5, 7, 8, 9, 10]) (bs := [94]) (ks2 := [0, 2, 3, 4, 5, 7, 8, 9]) (bs2 := [94]) ?_ ?_
    · rw [vc159i_1]
      refine brB_of (fun h => ?_) (fun h => hF.2 v)
      simp only [obB_iff, decide_eq_true_eq]
      exact ⟨inR64 (by omega), by omega, by omega, brB_of (fun _ => hF.1 v) fun _ => ⟨inR64 (by omega), _, rfl⟩⟩
    · rintro _ ⟨v', rfl⟩
      exact ih (k + 1) v' (by omega) (by omega)

theorem ints_len (l : List Int) : (ints l).length = l.length := List.length_map _
theorem ints_snoc (l : List Int) (v : Int) : (ints l).take l.length ++ [DV.int .i64 v] = ints (l ++ [v]) := by
  rw [← ints_len, List.take_length]; simp [ints]
theorem outer159_1 {s : List UInt8} (hs : s.length ≤ 3000) {K : Ex → St → Prop} (hK : F159 s K) : ∀ (d : Nat) (l : List Int) (i : Nat), i + d = s.length → l.length ≤ i → GoL cfg Pr Ow 159 100 (bodyOf cfg 159 0) (ho159_1 s l l.length i) K := by
  intro d
  induction d using Nat.strongRecOn with
  | _ d ih =>
    intro l i hd hl
    refine round_out (E := Eo159 fun st => ∃ n v le : Int, 0 ≤ n ∧ i + n < s.length ∧ st = hi159_1 s l l.length i n v le 1) (envOK trivial trivial trivial) nt159 (innerLoops nt159 ni159 ?_)
      (L := fun st => ∃ (l' : List Int) (i' : Nat), i < i' ∧ i' ≤ s.length ∧ l'.length ≤ i' ∧ st = ho159_1 s l' l'.length i') (ks := [0, 4, 5]) (bs := [94]) (ks2 := [2, 3, 4]) (bs2 := [94]) ?_ ?_
    · intro b sp hl' st k hk
      simp only [Eo159, look] at hl'
      cases hb : Nat.beq b 3 with
      | false => rw [hb] at hl'; simp at hl'
      | true =>
        obtain rfl := Nat.eq_of_beq_eq_true hb
        simp only [Nat.beq_refl, cond_true, Option.some.injEq] at hl'
        subst hl'
        obtain ⟨hLi, hF⟩ := hk
        refine go_weakL (keepT_weaker [0, 4, 5, 7, 8, 9, 10] [94] 100 st) ?_
        obtain ⟨n, v, le, h1, h2, h3⟩ := hLi
        rw [h3] at hF ⊢
        exact inner159_1 (by omega) h1 h2 hs ⟨hF.1, hF.2⟩ n.toNat 1 v (Int.le_refl _) (by omega)
    · rw [vc159o_1]
      refine brB_of (fun h => ?_) (fun h => hK.2.2.2 l (by omega))
      have hlt : i < s.length := by simpa using h
      have hret : K .ret (mkS 100 [(2, .nilsl), (3, .bool false), (4, .rsl 94 1 0 l.length)] [(94, .row 1 (ints l))] []) := hK.2.1 l l.length
      refine obB_of (by simpa using hlt) ?_
      have path : ∀ (n v0 le0 : Int) (c : Int → Bool), 0 ≤ n → n ≤ 3 → obB (inR .i64 ((s.length : Int) - (i : Int))) (brB (decide ((s.length : Int) - (i : Int) ≤ n)) (K .ret (mkS 100 [(2, .nilsl), (3, .bool false), (4, .rsl 94 1 0 l.length)] [(94, .row 1 (ints l))] []))
          ((∃ n' v le : Int, 0 ≤ n' ∧ i + n' < s.length ∧ mkS 100 [(0, .str s), (4, .rsl 94 1 0 l.length), (5, .int .i64 (i : Int)), (7, .int .i64 n), (8, .int .i64 v0), (9, .int .i64 le0), (10, .int .i64 1)] [(94, .row 1 (ints l))] [] = hi159_1 s l l.length i n' v le 1) ∧ (Int → K .ret (mkS 100 [(2, .nilsl), (3, .bool false), (4, .rsl 94 1 0 l.length)] [(94, .row 1 (ints l))] [])) ∧
            ∀ v : Int, brB (c v) (K .ret (mkS 100 [(2, .nilsl), (3, .bool false), (4, .rsl 94 1 0 l.length)] [(94, .row 1 (ints l))] []))
              (obB (decide (0 + l.length ≤ (ints l).length)) (obB (roomy 8 (l.length + 1)) (obB (inR .i64 ((i : Int) + n)) (obB (inR .i64 ((i : Int) + n + 1))
                (∃ (l' : List Int) (i' : Nat), i < i' ∧ i' ≤ s.length ∧ l'.length ≤ i' ∧ mkS 100 [(0, .str s), (4, .rsl 94 1 0 (l.length + 1)), (5, .int .i64 ((i : Int) + n + 1))] [(94, .row 1 ((ints l).take l.length ++ [.int .i64 v]))] [] = ho159_1 s l' l'.length i'))))))) := by
        intro n v0 le0 c hn0 hn3
        refine obB_of (inR64 (by omega)) (brB_of (fun _ => hret) fun hh => ?_)
        have hh : n < (s.length : Int) - i := by simpa using hh
        refine ⟨⟨n, v0, le0, hn0, by omega, rfl⟩, fun _ => hret, fun v => brB_of (fun _ => hret) fun _ => ?_⟩
        refine obB_of (by simp [ints_len]) (obB_of (roomy_of (by omega) (by omega)) (obB_of (inR64 (by omega)) (obB_of (inR64 (by omega)) ⟨l ++ [v], i + n.toNat + 1, by omega, by omega, by simp; omega, ?_⟩)))
        have e : (i : Int) + n + 1 = ((i + n.toNat + 1 : Nat) : Int) := by omega
        rw [ints_snoc, e]
        simp [ho159_1]
      refine brB_of (fun _ => path 0 _ 0 _ (by omega) (by omega)) fun _ => brB_of (fun _ => path 1 _ 128 _ (by omega) (by omega)) fun _ => brB_of (fun _ => path 2 _ 2048 _ (by omega) (by omega)) fun _ => brB_of (fun _ => path 3 _ 65536 _ (by omega) (by omega)) fun _ => hret
    · rintro _ ⟨l', i', h1, h2, h3, rfl⟩
      exact ih (s.length - i') (by omega) l' i' (by omega) h3
theorem outer159_0 {s : List UInt8} (hs : s.length ≤ 3000) {K : Ex → St → Prop} (hK : F159 s K) : GoL cfg Pr Ow 159 100 (bodyOf cfg 159 0) (ho159_0 s) K := by
  refine round_out (E := Eo159 fun st => ∃ n v le : Int, 0 ≤ n ∧ 0 + n < s.length ∧ st = hi159_0 s 0 n v le 1) (envOK trivial trivial trivial) nt159 (innerLoops nt159 ni159 ?_)
    (L := fun st => ∃ (l' : List Int) (i' : Nat), i' ≤ s.length ∧ l'.length ≤ i' ∧ st = ho159_1 s l' l'.length i') (ks := [0, 4, 5]) (bs := [94]) (ks2 := [2, 3, 4]) (bs2 := [94]) ?_ ?_
  · intro b sp hl' st k hk
    simp only [Eo159, look] at hl'
    cases hb : Nat.beq b 3 with
    | false => rw [hb] at hl'; simp at hl'
    | true =>
      obtain rfl := Nat.eq_of_beq_eq_true hb
      simp only [Nat.beq_refl, cond_true, Option.some.injEq] at hl'
      subst hl'
      obtain ⟨hLi, hF⟩ := hk
      refine go_weakL (keepT_weaker [0, 4, 5, 7, 8, 9, 10] [94] 100 st) ?_
      obtain ⟨n, v, le, h1, h2, h3⟩ := hLi
      rw [h3] at hF ⊢
      exact inner159_0 (by omega) h1 h2 hs ⟨hF.1, hF.2⟩ n.toNat 1 v (Int.le_refl _) (by omega)
  · rw [vc159o_0]
    refine brB_of (fun h => ?_) (fun h => hK.2.2.1)
    have hlt : 0 < s.length := by simpa using h
    have hret : K .ret (mkS 100 [(2, .nilsl), (3, .bool false), (4, .nilsl)] [] []) := hK.1
    refine obB_of (by simpa using hlt) ?_
    have path : ∀ (n v0 le0 j : Int) (c : Int → Bool), 0 ≤ n → n ≤ 3 → j = n + 1 → obB (inR .i64 ((s.length : Int) - (0 : Int))) (brB (decide ((s.length : Int) - (0 : Int) ≤ n)) (K .ret (mkS 100 [(2, .nilsl), (3, .bool false), (4, .nilsl)] [] []))
        ((∃ n' v le : Int, 0 ≤ n' ∧ 0 + n' < s.length ∧ mkS 100 [(0, .str s), (4, .nilsl), (5, .int .i64 (0 : Int)), (7, .int .i64 n), (8, .int .i64 v0), (9, .int .i64 le0), (10, .int .i64 1)] [] [] = hi159_0 s 0 n' v le 1) ∧ (Int → K .ret (mkS 100 [(2, .nilsl), (3, .bool false), (4, .nilsl)] [] [])) ∧
          ∀ v : Int, brB (c v) (K .ret (mkS 100 [(2, .nilsl), (3, .bool false), (4, .nilsl)] [] []))
              (∃ (l' : List Int) (i' : Nat), i' ≤ s.length ∧ l'.length ≤ i' ∧ mkS 100 [(0, .str s), (4, .rsl 94 1 0 1), (5, .int .i64 j)] [(94, .row 1 [.int .i64 v])] [] = ho159_1 s l' l'.length i'))) := by
      intro n v0 le0 j c hn0 hn3 hj
      refine obB_of (inR64 (by omega)) (brB_of (fun _ => hret) fun hh => ?_)
      have hh : n < (s.length : Int) - 0 := by simpa using hh
      refine ⟨⟨n, v0, le0, hn0, by omega, rfl⟩, fun _ => hret, fun v => brB_of (fun _ => hret) fun _ => ⟨[v], n.toNat + 1, by omega, by simp, ?_⟩⟩
      have e : j = ((n.toNat + 1 : Nat) : Int) := by omega
      rw [e]
      simp [ho159_1, ints]
    refine brB_of (fun _ => path 0 _ 0 _ _ (by omega) (by omega) rfl) fun _ => brB_of (fun _ => path 1 _ 128 _ _ (by omega) (by omega) rfl) fun _ => brB_of (fun _ => path 2 _ 2048 _ _ (by omega) (by omega) rfl) fun _ => brB_of (fun _ => path 3 _ 65536 _ _ (by omega) (by omega) rfl) fun _ => hret
  · rintro _ ⟨l', i', h2, h3, rfl⟩
    exact outer159_1 hs hK (s.length - i') l' i' (by omega) h3
/-- The runes of a text: some, or none. -/
def runesS (s : List UInt8) : Spec := fun xs ex k => match ex with
  | [] => xs = [.str s] ∧ k (.tup [.nilsl, .bool false]) [] ∧ ∀ l : List Int, l.length ≤ s.length → k (.tup [.psl 1 (ints l), .bool true]) []
  | _ :: _ => False
theorem wk_tup1 (b : Bool) : WkV (.tup [.nilsl, .bool b]) (.tup [.psl 1 [], .bool b]) := by
  refine ⟨rfl, fun ρ m v h => ?_⟩
  simp only [VR] at h ⊢
  obtain ⟨vs, h1, h2⟩ := h
  exact ⟨vs, h1, WkL.vrl (l := [.nilsl, .bool b]) ⟨.inr (wk_nil 1), .inl rfl, trivial⟩ h2⟩
theorem runes_ok {s : List UInt8} (hs : s.length ≤ 3000) : SpecOK cfg Pr Ow 159 (runesS s) := by
  intro xs ex k hk
  cases ex with
  | cons _ _ => exact hk.elim
  | nil =>
    obtain ⟨rfl, hk1, hk2⟩ := hk
    refine go_wk (WkL.refl _) (fn_of (E := E159 s fun st => st = ho159_0 s) (envOK trivial trivial trivial) nt159 nd159 ?_ ?_)
    · intro b sp hl st k hs'
      obtain ⟨rfl, rfl⟩ := look_one rfl hl
      exact loopS_ok (fun st hst k hk => by subst hst; exact outer159_0 hs hk) hs'
    · rw [vc159]
      refine ⟨rfl, ⟨_, .inl rfl, hk1⟩, fun _ _ => ⟨_, .inl rfl, hk1⟩, ⟨_, .inr (wk_tup1 true), hk2 [] (by simp)⟩, fun l hl => obB_of (by simp [ints_len]) ⟨_, .inl rfl, ?_⟩⟩
      have : (ints l).take l.length = ints l := by rw [← ints_len, List.take_length]
      rw [this]; exact hk2 l hl
end
end Go.Det.Sea
end

section
set_option linter.unusedVariables false
set_option linter.unusedSimpArgs false
namespace Go.Det.Sea
open Go Go.Det

def hd160_0 (l : List Int) (i : Nat) : St := mkS 39 [(0, .psl 1 (ints l)), (3, .nilsl), (4, .int .i64 i)] [] []
def hd160_a (l o : List Int) (m i : Nat) : St := mkS 39 [(0, .psl 1 (ints l)), (3, .rsl 23 1 0 m), (4, .int .i64 i)] [(23, .row 1 (ints o))] []
def hd160_b (l o : List Int) (m i : Nat) : St := mkS 39 [(0, .psl 1 (ints l)), (3, .rsl 37 1 0 m), (4, .int .i64 i)] [(37, .row 1 (ints o))] []
def F160 (l : List Int) (k : Ex → St → Prop) : Prop := k (.exit 0) (mkS 39 [(3, .nilsl)] [] []) ∧ (∀ o : List Int, o.length ≤ 2 * l.length → k (.exit 0) (mkS 39 [(3, .rsl 23 1 0 o.length)] [(23, .row 1 (ints o))] [])) ∧ ∀ o : List Int, o.length ≤ 2 * l.length → k (.exit 0) (mkS 39 [(3, .rsl 37 1 0 o.length)] [(37, .row 1 (ints o))] [])
def E160 (l : List Int) (L : St → Prop) : Env := { ls := [(0, loopS [0, 3, 4] [23, 37] 39 L (F160 l))] }
def E160b (x : Int) : Env := { an := [(15, .int .i64 x), (21, .int .i64 x), (27, .int .i64 x)], wr := [28] }
theorem vc160 (l : List Int) (L : St → Prop) (Φ : DV → List Blk → Prop) : (vcF cfg (E160 l L) 160 [.psl 1 (ints l)] [] Φ) =
    (L (mkS 39 [(0, DV.psl 1 (ints l)), (3, DV.nilsl), (4, DV.int IntKind.i64 (0 : Int))] [] []) ∧ Φ DV.nilsl [] ∧ (∀ (o : List Int), List.length o ≤ 2 * List.length l → obB (decide (0 + List.length o ≤ List.length (ints o))) (Φ (DV.psl 1 (List.take (List.length o) (ints o))) [])) ∧ ∀ (o : List Int), List.length o ≤ 2 * List.length l → obB (decide (0 + List.length o ≤ List.length (ints o))) (Φ (DV.psl 1 (List.take (List.length o) (ints o))) [])) := by kernel_rfl
theorem vc160_0 (l : List Int) (x : Int) (i : Nat) (L : St → Prop) (K : Ex → St → Prop) : (vcB cfg (E160b x) 160 0 (hd160_0 l i) (bodyK L [0, 3, 4] [23, 37] [3] [23, 37] 39 K)) =
    (brB (decide ((↑i : Int) < (↑(List.length (ints l)) : Int))) (obB (decide (i < List.length (ints l))) ((ints l)[Int.toNat (↑i : Int)]? = some (DV.int IntKind.i64 x) ∧ brB (decide (x < (65536 : Int))) (obB (decide (i < List.length (ints l))) ((ints l)[Int.toNat (↑i : Int)]? = some (DV.int IntKind.i64 x) ∧ obB (inR IntKind.i64 ((↑i : Int) + (1 : Int))) (L (mkS 39 [(0, DV.psl 1 (ints l)), (3, DV.rsl 23 1 0 1), (4, DV.int IntKind.i64 ((↑i : Int) + (1 : Int)))] [(23, Blk.row 1 [DV.int IntKind.i64 x])] [])))) (obB (decide (i < List.length (ints l))) ((ints l)[Int.toNat (↑i : Int)]? = some (DV.int IntKind.i64 x) ∧ obB (inR IntKind.i64 ((↑i : Int) + (1 : Int))) (L (mkS 39 [(0, DV.psl 1 (ints l)), (3, DV.rsl 37 1 0 2), (4, DV.int IntKind.i64 ((↑i : Int) + (1 : Int)))] [(37, Blk.row 1 [DV.int IntKind.i64 (IntKind.wrap IntKind.i64 (↑(BitVec.toNat (BitVec.ofInt 64 (55296 : Int) ||| BitVec.ofInt 64 (Int.fdiv (IntKind.wrap IntKind.i64 (x - (65536 : Int))) (1024 : Int)))) : Int)), DV.int IntKind.i64 (IntKind.wrap IntKind.i64 (↑(BitVec.toNat (BitVec.ofInt 64 (56320 : Int) ||| BitVec.ofInt 64 (IntKind.wrap IntKind.i64 (↑(BitVec.toNat (BitVec.ofInt 64 (IntKind.wrap IntKind.i64 (x - (65536 : Int))) &&& BitVec.ofInt 64 (1023 : Int))) : Int)))) : Int))])] [])))))) (K (Ex.exit 0) (mkS 39 [(3, DV.nilsl)] [] []))) := by kernel_rfl
theorem vc160_a (l o : List Int) (x : Int) (m i : Nat) (L : St → Prop) (K : Ex → St → Prop) : (vcB cfg (E160b x) 160 0 (hd160_a l o m i) (bodyK L [0, 3, 4] [23, 37] [3] [23, 37] 39 K)) =
    (brB (decide ((↑i : Int) < (↑(List.length (ints l)) : Int))) (obB (decide (i < List.length (ints l))) ((ints l)[Int.toNat (↑i : Int)]? = some (DV.int IntKind.i64 x) ∧ brB (decide (x < (65536 : Int))) (obB (decide (i < List.length (ints l))) ((ints l)[Int.toNat (↑i : Int)]? = some (DV.int IntKind.i64 x) ∧ obB (decide (0 + m ≤ List.length (ints o))) (obB (roomy 8 (m + 1)) (obB (inR IntKind.i64 ((↑i : Int) + (1 : Int))) (L (mkS 39 [(0, DV.psl 1 (ints l)), (3, DV.rsl 23 1 0 (m + 1)), (4, DV.int IntKind.i64 ((↑i : Int) + (1 : Int)))] [(23, Blk.row 1 (List.take m (ints o) ++ [DV.int IntKind.i64 x]))] [])))))) (obB (decide (i < List.length (ints l))) ((ints l)[Int.toNat (↑i : Int)]? = some (DV.int IntKind.i64 x) ∧ obB (decide (0 + m ≤ List.length (ints o))) (obB (roomy 8 (m + 2)) (obB (inR IntKind.i64 ((↑i : Int) + (1 : Int))) (L (mkS 39 [(0, DV.psl 1 (ints l)), (3, DV.rsl 37 1 0 (m + 2)), (4, DV.int IntKind.i64 ((↑i : Int) + (1 : Int)))] [(37, Blk.row 1 (List.take m (ints o) ++ [DV.int IntKind.i64 (IntKind.wrap IntKind.i64 (↑(BitVec.toNat (BitVec.ofInt 64 (55296 : Int) ||| BitVec.ofInt 64 (Int.fdiv (IntKind.wrap IntKind.i64 (x - (65536 : Int))) (1024 : Int)))) : Int)), DV.int IntKind.i64 (IntKind.wrap IntKind.i64 (↑(BitVec.toNat (BitVec.ofInt 64 (56320 : Int) ||| BitVec.ofInt 64 (IntKind.wrap IntKind.i64 (↑(BitVec.toNat (BitVec.ofInt 64 (IntKind.wrap IntKind.i64 (x - (65536 : Int))) &&& BitVec.ofInt 64 (1023 : Int))) : Int)))) : Int))]))] [])))))))) (K (Ex.exit 0) (mkS 39 [(3, DV.rsl 23 1 0 m)] [(23, Blk.row 1 (ints o))] []))) := by kernel_rfl
theorem vc160_b (l o : List Int) (x : Int) (m i : Nat) (L : St → Prop) (K : Ex → St → Prop) : (vcB cfg (E160b x) 160 0 (hd160_b l o m i) (bodyK L [0, 3, 4] [23, 37] [3] [23, 37] 39 K)) =
    (brB (decide ((↑i : Int) < (↑(List.length (ints l)) : Int))) (obB (decide (i < List.length (ints l))) ((ints l)[Int.toNat (↑i : Int)]? = some (DV.int IntKind.i64 x) ∧ brB (decide (x < (65536 : Int))) (obB (decide (i < List.length (ints l))) ((ints l)[Int.toNat (↑i : Int)]? = some (DV.int IntKind.i64 x) ∧ obB (decide (0 + m ≤ List.length (ints o))) (obB (roomy 8 (m + 1)) (obB (inR IntKind.i64 ((↑i : Int) + (1 : Int))) (L (mkS 39 [(0, DV.psl 1 (ints l)), (3, DV.rsl 23 1 0 (m + 1)), (4, DV.int IntKind.i64 ((↑i : Int) + (1 : Int)))] [(23, Blk.row 1 (List.take m (ints o) ++ [DV.int IntKind.i64 x]))] [])))))) (obB (decide (i < List.length (ints l))) ((ints l)[Int.toNat (↑i : Int)]? = some (DV.int IntKind.i64 x) ∧ obB (decide (0 + m ≤ List.length (ints o))) (obB (roomy 8 (m + 2)) (obB (inR IntKind.i64 ((↑i : Int) + (1 : Int))) (L (mkS 39 [(0, DV.psl 1 (ints l)), (3, DV.rsl 37 1 0 (m + 2)), (4, DV.int IntKind.i64 ((↑i : Int) + (1 : Int)))] [(37, Blk.row 1 (List.take m (ints o) ++ [DV.int IntKind.i64 (IntKind.wrap IntKind.i64 (↑(BitVec.toNat (BitVec.ofInt 64 (55296 : Int) ||| BitVec.ofInt 64 (Int.fdiv (IntKind.wrap IntKind.i64 (x - (65536 : Int))) (1024 : Int)))) : Int)), DV.int IntKind.i64 (IntKind.wrap IntKind.i64 (↑(BitVec.toNat (BitVec.ofInt 64 (56320 : Int) ||| BitVec.ofInt 64 (IntKind.wrap IntKind.i64 (↑(BitVec.toNat (BitVec.ofInt 64 (IntKind.wrap IntKind.i64 (x - (65536 : Int))) &&& BitVec.ofInt 64 (1023 : Int))) : Int)))) : Int))]))] [])))))))) (K (Ex.exit 0) (mkS 39 [(3, DV.rsl 37 1 0 m)] [(37, Blk.row 1 (ints o))] []))) := by kernel_rfl
def unitsL (l : List Int) : Spec := fun xs ex k => match ex with
  | [] => xs = [.psl 1 (ints l)] ∧ ∀ o : List Int, o.length ≤ 2 * l.length → k (.psl 1 (ints o)) []
  | _ :: _ => False
def unitsN : Spec := fun xs ex k => match ex with
  | [] => ∃ l : List Int, l.length ≤ 3000 ∧ xs = [.psl 1 (ints l)] ∧ ∀ o : List Int, o.length ≤ 2 * l.length → k (.psl 1 (ints o)) []
  | _ :: _ => False
def E117 (s : List UInt8) : Env := { cs := [(159, runesS s), (160, unitsN)] }
theorem vc117 (s : List UInt8) (Φ : DV → List Blk → Prop) : (vcF cfg (E117 s) 117 [.str s] [] Φ) =
    ([DV.str s] = [DV.str s] ∧ Φ (DV.tup [DV.int IntKind.i64 (0 : Int), DV.int IntKind.i64 (2 : Int)]) [] ∧ ∀ (l : List Int), List.length l ≤ List.length s → ∃ (l_1 : List Int), List.length l_1 ≤ 3000 ∧ [DV.psl 1 (ints l)] = [DV.psl 1 (ints l_1)] ∧ ∀ (o : List Int), List.length o ≤ 2 * List.length l_1 → brB (decide ((↑(List.length (ints o)) : Int) > (1000 : Int))) (Φ (DV.tup [DV.int IntKind.i64 (0 : Int), DV.int IntKind.i64 (4 : Int)]) []) (Φ (DV.tup [DV.int IntKind.i64 (↑(List.length (ints o)) : Int), DV.int IntKind.i64 (0 : Int)]) [])) := by kernel_rfl
section
variable {Pr Ow : Nat → List DV → DV → Prop}
theorem nt160 : ntOf cfg 160 = 39 := by kernel_rfl
theorem nd160 : nodupK (loops 0 (codeOf cfg 160)) = true := by kernel_rfl
def hd160 (l : List Int) : Option (Bool × List Int) → Nat → St
  | none, i => hd160_0 l i
  | some (false, o), i => hd160_a l o o.length i
  | some (true, o), i => hd160_b l o o.length i
def In160 : Option (Bool × List Int) → Nat → Prop
  | none, i => i = 0
  | some (_, o), i => o.length ≤ 2 * i
theorem ints_get {l : List Int} {i : Nat} (h : i < l.length) : (ints l)[i]? = some (.int .i64 (l.getD i 0)) := by
  unfold ints
  rw [List.getElem?_map, List.getD_eq_getElem?_getD, List.getElem?_eq_getElem h]; rfl
theorem ints_snoc2 (l : List Int) (v w : Int) : (ints l).take l.length ++ [DV.int .i64 v, DV.int .i64 w] = ints (l ++ [v, w]) := by
  rw [← ints_len, List.take_length]; simp [ints]
theorem units_loop {l : List Int} (hl : l.length ≤ 3000) {K : Ex → St → Prop} (hK : F160 l K) : GoL cfg Pr Ow 160 39 (bodyOf cfg 160 0) (hd160_0 l 0) K := by
  refine param_loop (n := l.length) (hd := hd160 l) (E := fun _ i => E160b (l.getD i 0)) (Inv := In160) (ks := [0, 3, 4]) (bs := [23, 37]) (ks2 := [3]) (bs2 := [23, 37]) nt160 (fun _ _ _ _ => envOK trivial trivial trivial) (fun _ _ => ⟨rfl, rfl⟩) ?_ none 0 (Nat.zero_le _) rfl
  intro p i hi hinv L hL
  match p, hinv with
  | none, hinv =>
    obtain rfl : i = 0 := hinv
    show vcB cfg (E160b (l.getD 0 0)) 160 0 (hd160_0 l 0) _
    rw [vc160_0]
    refine brB_of (fun h => ?_) (fun _ => hK.1)
    have hlt : 0 < l.length := by simpa [ints_len] using h
    have hb : decide (0 < (ints l).length) = true := by simpa [ints_len] using hlt
    have hg := ints_get hlt
    refine obB_of hb ⟨hg, brB_of (fun _ => obB_of hb ⟨hg, obB_of (inR64 (by omega)) ?_⟩) fun _ => obB_of hb ⟨hg, obB_of (inR64 (by omega)) ?_⟩⟩
    · exact hL (some (false, [_])) hlt (show 1 ≤ 2 * 1 by omega)
    · exact hL (some (true, [_, _])) hlt (show 2 ≤ 2 * 1 by omega)
  | some (false, o), hinv =>
    have hinv : o.length ≤ 2 * i := hinv
    show vcB cfg (E160b (l.getD i 0)) 160 0 (hd160_a l o o.length i) _
    rw [vc160_a]
    refine brB_of (fun h => ?_) (fun _ => hK.2.1 o (by omega))
    have hlt : i < l.length := by simpa [ints_len] using h
    have hb : decide (i < (ints l).length) = true := by simpa [ints_len] using hlt
    have hg := ints_get hlt
    refine obB_of hb ⟨hg, brB_of (fun _ => obB_of hb ⟨hg, obB_of (by simp [ints_len]) (obB_of (roomy_of (by omega) (by omega)) (obB_of (inR64 (by omega)) ?_))⟩) fun _ => obB_of hb ⟨hg, obB_of (by simp [ints_len]) (obB_of (roomy_of (by omega) (by omega)) (obB_of (inR64 (by omega)) ?_))⟩⟩
    · rw [ints_snoc, ← cast_succ]
      have := hL (some (false, o ++ [l.getD i 0])) hlt (show (o ++ [l.getD i 0]).length ≤ 2 * (i + 1) by simp; omega)
      simpa [hd160, hd160_a] using this
    · rw [ints_snoc2, ← cast_succ]
      have h2 : ∀ v w : Int, L (hd160_b l (o ++ [v, w]) (o.length + 2) (i + 1)) := fun v w => by
        have := hL (some (true, o ++ [v, w])) hlt (show (o ++ [v, w]).length ≤ 2 * (i + 1) by simp; omega)
        simpa [hd160] using this
      exact h2 _ _
  | some (true, o), hinv =>
    have hinv : o.length ≤ 2 * i := hinv
    show vcB cfg (E160b (l.getD i 0)) 160 0 (hd160_b l o o.length i) _
    rw [vc160_b]
    refine brB_of (fun h => ?_) (fun _ => hK.2.2 o (by omega))
    have hlt : i < l.length := by simpa [ints_len] using h
    have hb : decide (i < (ints l).length) = true := by simpa [ints_len] using hlt
    have hg := ints_get hlt
    refine obB_of hb ⟨hg, brB_of (fun _ => obB_of hb ⟨hg, obB_of (by simp [ints_len]) (obB_of (roomy_of (by omega) (by omega)) (obB_of (inR64 (by omega)) ?_))⟩) fun _ => obB_of hb ⟨hg, obB_of (by simp [ints_len]) (obB_of (roomy_of (by omega) (by omega)) (obB_of (inR64 (by omega)) ?_))⟩⟩
    · rw [ints_snoc, ← cast_succ]
      have := hL (some (false, o ++ [l.getD i 0])) hlt (show (o ++ [l.getD i 0]).length ≤ 2 * (i + 1) by simp; omega)
      simpa [hd160, hd160_a] using this
    · rw [ints_snoc2, ← cast_succ]
      have h2 : ∀ v w : Int, L (hd160_b l (o ++ [v, w]) (o.length + 2) (i + 1)) := fun v w => by
        have := hL (some (true, o ++ [v, w])) hlt (show (o ++ [v, w]).length ≤ 2 * (i + 1) by simp; omega)
        simpa [hd160] using this
      exact h2 _ _
theorem unitsN_ok : SpecOK cfg Pr Ow 160 unitsN := by
  intro xs ex k hk
  cases ex with
  | cons _ _ => exact hk.elim
  | nil =>
    obtain ⟨l, hl, rfl, hk⟩ := hk
    refine go_wk (WkL.refl _) (fn_of (E := E160 l fun st => st = hd160_0 l 0) (envOK trivial trivial trivial) nt160 nd160 ?_ ?_)
    · intro b sp hl' st k hs'
      obtain ⟨rfl, rfl⟩ := look_one rfl hl'
      exact loopS_ok (fun st hst k hk => by subst hst; exact units_loop hl hk) hs'
    · rw [vc160]
      have ht : ∀ o : List Int, (ints o).take o.length = ints o := fun o => by rw [← ints_len, List.take_length]
      refine ⟨rfl, ⟨_, .inr (wk_nil 1), hk [] (by simp)⟩, fun o ho => obB_of (by simp [ints_len]) ⟨_, .inl rfl, ?_⟩, fun o ho => obB_of (by simp [ints_len]) ⟨_, .inl rfl, ?_⟩⟩
      · rw [ht]; exact hk o ho
      · rw [ht]; exact hk o ho
theorem Units_ok (s : List UInt8) (hs : s.length ≤ 3000) : SpecOK cfg Pr Ow 117 (unitsS s) := by
  intro xs ex k hk
  cases ex with
  | cons _ _ => exact hk.elim
  | nil =>
    obtain ⟨rfl, hk⟩ := hk
    refine fn_of0 (E := E117 s) (envOK ⟨runes_ok hs, unitsN_ok, trivial⟩ trivial trivial) rfl ?_
    rw [vc117]
    exact ⟨rfl, hk _ _, fun l hl => ⟨l, by omega, rfl, fun o ho => brB_of (fun _ => hk _ _) fun _ => hk _ _⟩⟩
/-- CheckExpr: whatever it says of a tree; if nothing, its constants have nothing else. -/
theorem CheckExpr_go (t : Tr) (hn : t.count ≤ 1000000) (hs : shortT t) (Φ : DV → List Blk → Prop) (hΦ : ∀ n : Int, (n = 0 → cleanT t) → Φ (.int .i64 n) []) : GoC cfg Pr Ow 21 [t.dv] [] Φ :=
  check_go (fun s hs => Units_ok s hs) t hn hs Φ hΦ
end
end Go.Det.Sea
end

section
set_option linter.unusedVariables false
set_option linter.unusedSimpArgs false
namespace Go.Det.Sea
open Go Go.Det

def ndv (t : Tr) (d : Int) : DV := .agg (t.cells ++ [.int .i64 d])
def nds (l : List (Tr × Int)) : List DV := l.map fun p => ndv p.1 p.2
theorem vc49 (t : Tr) (d : Int) (Φ : DV → List Blk → Prop) : (vcF cfg E0 49 [ndv t d, ndv t d] [] Φ) =
    (Φ (DV.bool (d == d && Tr.kind t == Tr.kind t && ((Tr.v t).kind == (Tr.v t).kind && ((Tr.v t).m == (Tr.v t).m && ((Tr.v t).s == (Tr.v t).s && true) && ((Tr.v t).txt == (Tr.v t).txt && ((Tr.v t).b == (Tr.v t).b && ((Tr.v t).e == (Tr.v t).e && true))))) && ((Tr.a t).row == (Tr.a t).row && ((Tr.a t).col == (Tr.a t).col && ((Tr.a t).rr == (Tr.a t).rr && ((Tr.a t).rc == (Tr.a t).rc && true))) && ((Tr.b t).row == (Tr.b t).row && ((Tr.b t).col == (Tr.b t).col && ((Tr.b t).rr == (Tr.b t).rr && ((Tr.b t).rc == (Tr.b t).rc && true))) && true)) && Tr.sheet t == Tr.sheet t && Tr.op t == Tr.op t && (↑(List.length (Tr.encs (Tr.kids t))) : Int) == (↑(List.length (Tr.encs (Tr.kids t))) : Int))) []) := by kernel_rfl
def hd47 (es : List DV) (n i : Nat) : St := mkS 32 [(1, .psl 19 es), (2, .fn (.func 49) [] []), (15, .psl 19 es), (16, .int .i64 n), (17, .int .i64 i)] [] []
def F47 (k : Ex → St → Prop) : Prop := k (.exit 0) (mkS 32 [] [] [])
def E47 (L : St → Prop) : Env := { ls := [(0, loopS [1, 2, 15, 16, 17] [] 32 L F47)] }
def E47b (g : Prop) (t : Tr) (d : Int) : Env := { ss := [(29, 49, callG g [ndv t d, ndv t d] (.bool true))], an := [(21, ndv t d), (25, ndv t d)] }
theorem vc47 (es : List DV) (L : St → Prop) (Φ : DV → List Blk → Prop) : (vcF cfg (E47 L) 47 [.psl 19 es, .psl 19 es, .fn (.func 49) [] []] [] Φ) =
    (brB ((↑(List.length es) : Int) != (↑(List.length es) : Int)) (Φ (DV.bool false) []) (L (mkS 32 [(1, DV.psl 19 es), (2, DV.fn (Fn.func (49 : FuncId)) [] []), (15, DV.psl 19 es), (16, DV.int IntKind.i64 (↑(List.length es) : Int)), (17, DV.int IntKind.i64 (0 : Int))] [] []) ∧ Φ (DV.bool true) [])) := by kernel_rfl
theorem vc47_1 (es : List DV) (g : Prop) (t : Tr) (d : Int) (n i : Nat) (L : St → Prop) (K : Ex → St → Prop) : (vcB cfg (E47b g t d) 47 0 (hd47 es n i) (bodyK L [1, 2, 15, 16, 17] [] [6] [] 32 K)) =
    (brB (decide ((↑i : Int) < (↑n : Int))) (obB (decide (i < List.length es)) (es[Int.toNat (↑i : Int)]? = some (DV.agg [DV.int IntKind.i64 (Tr.kind t), DV.int IntKind.i64 (Tr.v t).kind, DV.int IntKind.i64 (Tr.v t).m, DV.int IntKind.i64 (Tr.v t).s, DV.str (Tr.v t).txt, DV.bool (Tr.v t).b, DV.int IntKind.i64 (Tr.v t).e, DV.int IntKind.i64 (Tr.a t).row, DV.int IntKind.i64 (Tr.a t).col, DV.bool (Tr.a t).rr, DV.bool (Tr.a t).rc, DV.int IntKind.i64 (Tr.b t).row, DV.int IntKind.i64 (Tr.b t).col, DV.bool (Tr.b t).rr, DV.bool (Tr.b t).rc, DV.int IntKind.i64 (Tr.sheet t), DV.int IntKind.i64 (Tr.op t), DV.psl 18 (Tr.encs (Tr.kids t)), DV.int IntKind.i64 d]) ∧ obB (decide (i < List.length es)) (es[Int.toNat (↑i : Int)]? = some (DV.agg [DV.int IntKind.i64 (Tr.kind t), DV.int IntKind.i64 (Tr.v t).kind, DV.int IntKind.i64 (Tr.v t).m, DV.int IntKind.i64 (Tr.v t).s, DV.str (Tr.v t).txt, DV.bool (Tr.v t).b, DV.int IntKind.i64 (Tr.v t).e, DV.int IntKind.i64 (Tr.a t).row, DV.int IntKind.i64 (Tr.a t).col, DV.bool (Tr.a t).rr, DV.bool (Tr.a t).rc, DV.int IntKind.i64 (Tr.b t).row, DV.int IntKind.i64 (Tr.b t).col, DV.bool (Tr.b t).rr, DV.bool (Tr.b t).rc, DV.int IntKind.i64 (Tr.sheet t), DV.int IntKind.i64 (Tr.op t), DV.psl 18 (Tr.encs (Tr.kids t)), DV.int IntKind.i64 d]) ∧ g ∧ [DV.agg [DV.int IntKind.i64 (Tr.kind t), DV.int IntKind.i64 (Tr.v t).kind, DV.int IntKind.i64 (Tr.v t).m, DV.int IntKind.i64 (Tr.v t).s, DV.str (Tr.v t).txt, DV.bool (Tr.v t).b, DV.int IntKind.i64 (Tr.v t).e, DV.int IntKind.i64 (Tr.a t).row, DV.int IntKind.i64 (Tr.a t).col, DV.bool (Tr.a t).rr, DV.bool (Tr.a t).rc, DV.int IntKind.i64 (Tr.b t).row, DV.int IntKind.i64 (Tr.b t).col, DV.bool (Tr.b t).rr, DV.bool (Tr.b t).rc, DV.int IntKind.i64 (Tr.sheet t), DV.int IntKind.i64 (Tr.op t), DV.psl 18 (Tr.encs (Tr.kids t)), DV.int IntKind.i64 d], DV.agg [DV.int IntKind.i64 (Tr.kind t), DV.int IntKind.i64 (Tr.v t).kind, DV.int IntKind.i64 (Tr.v t).m, DV.int IntKind.i64 (Tr.v t).s, DV.str (Tr.v t).txt, DV.bool (Tr.v t).b, DV.int IntKind.i64 (Tr.v t).e, DV.int IntKind.i64 (Tr.a t).row, DV.int IntKind.i64 (Tr.a t).col, DV.bool (Tr.a t).rr, DV.bool (Tr.a t).rc, DV.int IntKind.i64 (Tr.b t).row, DV.int IntKind.i64 (Tr.b t).col, DV.bool (Tr.b t).rr, DV.bool (Tr.b t).rc, DV.int IntKind.i64 (Tr.sheet t), DV.int IntKind.i64 (Tr.op t), DV.psl 18 (Tr.encs (Tr.kids t)), DV.int IntKind.i64 d]] = [DV.agg [DV.int IntKind.i64 (Tr.kind t), DV.int IntKind.i64 (Tr.v t).kind, DV.int IntKind.i64 (Tr.v t).m, DV.int IntKind.i64 (Tr.v t).s, DV.str (Tr.v t).txt, DV.bool (Tr.v t).b, DV.int IntKind.i64 (Tr.v t).e, DV.int IntKind.i64 (Tr.a t).row, DV.int IntKind.i64 (Tr.a t).col, DV.bool (Tr.a t).rr, DV.bool (Tr.a t).rc, DV.int IntKind.i64 (Tr.b t).row, DV.int IntKind.i64 (Tr.b t).col, DV.bool (Tr.b t).rr, DV.bool (Tr.b t).rc, DV.int IntKind.i64 (Tr.sheet t), DV.int IntKind.i64 (Tr.op t), DV.psl 18 (Tr.encs (Tr.kids t)), DV.int IntKind.i64 d], DV.agg [DV.int IntKind.i64 (Tr.kind t), DV.int IntKind.i64 (Tr.v t).kind, DV.int IntKind.i64 (Tr.v t).m, DV.int IntKind.i64 (Tr.v t).s, DV.str (Tr.v t).txt, DV.bool (Tr.v t).b, DV.int IntKind.i64 (Tr.v t).e, DV.int IntKind.i64 (Tr.a t).row, DV.int IntKind.i64 (Tr.a t).col, DV.bool (Tr.a t).rr, DV.bool (Tr.a t).rc, DV.int IntKind.i64 (Tr.b t).row, DV.int IntKind.i64 (Tr.b t).col, DV.bool (Tr.b t).rr, DV.bool (Tr.b t).rc, DV.int IntKind.i64 (Tr.sheet t), DV.int IntKind.i64 (Tr.op t), DV.psl 18 (Tr.encs (Tr.kids t)), DV.int IntKind.i64 d]] ∧ obB (inR IntKind.i64 ((↑i : Int) + (1 : Int))) (L (mkS 32 [(1, DV.psl 19 es), (2, DV.fn (Fn.func (49 : FuncId)) [] []), (15, DV.psl 19 es), (16, DV.int IntKind.i64 (↑n : Int)), (17, DV.int IntKind.i64 ((↑i : Int) + (1 : Int)))] [] []))))) (K (Ex.exit 0) (mkS 32 [] [] []))) := by kernel_rfl
def E22 (t : Tr) (es : List DV) : Env := { cs := [(48, callS [t.dv] (.psl 19 es)), (47, callS [.psl 19 es, .psl 19 es, .fn (.func 49) [] []] (.bool true))] }
theorem vc22 (t : Tr) (es : List DV) (Φ : DV → List Blk → Prop) : (vcF cfg (E22 t es) 22 [t.dv, t.dv] [] Φ) =
    ([Tr.dv t] = [Tr.dv t] ∧ [Tr.dv t] = [Tr.dv t] ∧ [DV.psl 19 es, DV.psl 19 es, DV.fn (Fn.func 49) [] []] = [DV.psl 19 es, DV.psl 19 es, DV.fn (Fn.func (49 : FuncId)) [] []] ∧ Φ (DV.bool true) []) := by kernel_rfl
section
variable {Pr Ow : Nat → List DV → DV → Prop}
theorem f49_go (t : Tr) (d : Int) (Φ : DV → List Blk → Prop) (h : Φ (.bool true) []) : GoC cfg Pr Ow 49 [ndv t d, ndv t d] [] Φ := by
  refine fn_of0 E0_ok rfl ?_
  rw [vc49]
  simp only [beq_self_eq_true, Bool.and_self, Bool.and_true]
  exact h
theorem nt47 : ntOf cfg 47 = 32 := by kernel_rfl
theorem nd47 : nodupK (loops 0 (codeOf cfg 47)) = true := by kernel_rfl
theorem nds_get {l : List (Tr × Int)} {i : Nat} (h : i < l.length) : (nds l)[i]? = some (ndv (l.getD i default).1 (l.getD i default).2) := by
  unfold nds
  rw [List.getElem?_map, List.getD_eq_getElem?_getD, List.getElem?_eq_getElem h]; rfl
theorem nds_len (l : List (Tr × Int)) : (nds l).length = l.length := List.length_map _
/-- slices.EqualFunc of the same nodes. -/
theorem f47_go (l : List (Tr × Int)) (hl : l.length ≤ 4000000000) (Φ : DV → List Blk → Prop) (h : Φ (.bool true) []) : GoC cfg Pr Ow 47 [.psl 19 (nds l), .psl 19 (nds l), .fn (.func 49) [] []] [] Φ := by
  refine fn_of (E := E47 fun st => st = hd47 (nds l) l.length 0) (envOK trivial trivial trivial) nt47 nd47 ?_ ?_
  · intro b sp hl' st k hs
    obtain ⟨rfl, rfl⟩ := look_one rfl hl'
    refine loopS_ok (fun st hst k hk => ?_) hs
    subst hst
    refine count_loop (n := l.length) (E := fun i => E47b (i < l.length) (l.getD i default).1 (l.getD i default).2) (ks := [1, 2, 15, 16, 17]) (bs := []) (ks2 := [6]) (bs2 := []) nt47
      (fun i _ => envOK trivial ⟨callG_ok fun _ => f49_go _ _, trivial⟩ trivial) (fun _ => ⟨rfl, rfl⟩) ?_ 0 (Nat.zero_le _)
    intro i hi L hL
    rw [vc47_1]
    refine brB_of (fun h => ?_) (fun h => hk)
    have hlt : i < l.length := by simpa using h
    have hb : decide (i < (nds l).length) = true := by simpa [nds_len] using hlt
    have hg := nds_get hlt
    refine obB_of hb ⟨hg, obB_of hb ⟨hg, hlt, rfl, obB_of (inR64 (by omega)) ?_⟩⟩
    rw [← cast_succ]; exact hL hlt
  · rw [vc47]
    refine brB_of (fun h => ?_) (fun _ => ⟨by rw [nds_len]; rfl, h⟩)
    simp at h
/-- expr.Same of one tree. -/
theorem Same_go (t : Tr) (l : List (Tr × Int)) (hl : l.length ≤ 4000000000) (hw : ∀ Φ : DV → List Blk → Prop, Φ (.psl 19 (nds l)) [] → GoC cfg Pr Ow 48 [t.dv] [] Φ) (Φ : DV → List Blk → Prop) (h : Φ (.bool true) []) : GoC cfg Pr Ow 22 [t.dv, t.dv] [] Φ := by
  refine fn_of0 (E := E22 t (nds l)) (envOK ⟨callS_ok hw, callS_ok (f47_go l hl), trivial⟩ trivial trivial) rfl ?_
  rw [vc22]
  exact ⟨rfl, rfl, rfl, h⟩
end
end Go.Det.Sea
end

section
set_option linter.unusedVariables false
set_option linter.unusedSimpArgs false
namespace Go.Det

theorem kid_of_mem {t x : Tr} (hx : x ∈ t.kids) : x.count < t.count := by
  obtain ⟨i, hi, rfl⟩ := List.getElem_of_mem hx
  have : t.kids[i] = kid t i := by unfold kid; rw [List.getD_eq_getElem?_getD, List.getElem?_eq_getElem hi]; rfl
  rw [this]; exact kid_count hi
theorem withKids_kids (t : Tr) (l : List Tr) : (t.withKids l).kids = l := by cases t; rfl
theorem withKids_kind (t : Tr) (l : List Tr) : (t.withKids l).kind = t.kind := by cases t; rfl
theorem withKids_op (t : Tr) (l : List Tr) : (t.withKids l).op = t.op := by cases t; rfl
theorem withKids_twice (t : Tr) (l m : List Tr) : (t.withKids l).withKids m = t.withKids m := by cases t; rfl
theorem withKids_self (t : Tr) : t.withKids t.kids = t := by cases t; rfl
theorem neg_kids (t : Tr) : t.neg.kids = t.kids := by cases t; rfl
theorem neg_kind (t : Tr) : t.neg.kind = t.kind := by cases t; rfl
theorem foldF_plain {t : Tr} (h10 : t.kind ≠ 10) (h7 : t.kind ≠ 7) (ks : List Tr) : foldF t ks = t.withKids ks := by
  unfold foldF
  split
  · have a : (t.kind == 10) = false := by simpa using h10
    rename_i k
    have b : signed t k = false := by simp [signed, h7]
    simp [a, b]
  · rfl
theorem map_self {l : List Tr} (h : ∀ x ∈ l, stripF x = x) : l.map stripF = l := by
  induction l with
  | nil => rfl
  | cons x l ih =>
    simp only [List.map_cons]
    rw [h x List.mem_cons_self, ih fun y hy => h y (List.mem_cons_of_mem _ hy)]
theorem stable_plain {t : Tr} (h10 : t.kind ≠ 10) (h7 : t.kind ≠ 7) (h : stripF t = t) : t.kids.map stripF = t.kids := by
  rw [stripF_eq, foldF_plain h10 h7] at h
  have := congrArg Tr.kids h
  rwa [withKids_kids] at this
theorem strip_idem : ∀ (t : Tr), stripF (stripF t) = stripF t := by
  intro t
  induction hm : t.count using Nat.strongRecOn generalizing t with
  | _ m ih =>
    subst hm
    have hst : ∀ x ∈ t.kids.map stripF, stripF x = x := by
      intro x hx
      obtain ⟨y, hy, rfl⟩ := List.mem_map.1 hx
      exact ih _ (kid_of_mem hy) y rfl
    have hms := map_self hst
    generalize hks : t.kids.map stripF = ks at hst hms
    have hself : foldF t ks = t.withKids ks → stripF (t.withKids ks) = t.withKids ks := by
      intro hf
      rw [stripF_eq, withKids_kids, hms]
      have : foldF (t.withKids ks) ks = foldF t ks := by
        unfold foldF
        split
        · rw [withKids_kind, withKids_twice]
          have : ∀ k, signed (t.withKids [k]) k = signed t k := fun k => by simp only [signed, withKids_kind, withKids_op]
          rw [this]
        · rw [withKids_twice]
      rw [this, hf]
    rw [stripF_eq t, hks]
    match ks, hst, hms, hself with
    | [], _, _, hself => exact hself rfl
    | [y], hst, _, hself =>
      have hy := hst y List.mem_cons_self
      unfold foldF
      simp only
      by_cases h10 : t.kind = 10
      · simp [h10, hy]
      · have a : (t.kind == 10) = false := by simpa using h10
        simp only [a, Bool.false_eq_true, if_false]
        by_cases hs : signed t y = true
        · rw [if_pos hs]
          have hk1 : y.kind = 1 := by
            simp only [signed, Bool.and_eq_true, beq_iff_eq] at hs
            exact hs.1.1.2
          have hk := stable_plain (by rw [hk1]; decide) (by rw [hk1]; decide) hy
          rw [stripF_eq, neg_kids, hk, foldF_plain (by rw [neg_kind, hk1]; decide) (by rw [neg_kind, hk1]; decide), ← neg_kids, withKids_self]
        · rw [if_neg hs]
          refine hself ?_
          unfold foldF
          simp [a, hs]
    | a :: b :: l, _, _, hself => exact hself rfl
theorem counts_map_le : ∀ {l : List Tr}, (∀ x ∈ l, (stripF x).count ≤ x.count) → Tr.counts (l.map stripF) ≤ Tr.counts l
  | [], _ => Nat.le_refl _
  | x :: l, h => by
    have h1 := h x List.mem_cons_self
    have h2 := counts_map_le (l := l) fun y hy => h y (List.mem_cons_of_mem _ hy)
    simp only [List.map_cons, Tr.counts]; omega
theorem withKids_count (t : Tr) (l : List Tr) : (t.withKids l).count = 1 + Tr.counts l := by rw [Tr.count_eq, withKids_kids]
theorem neg_count (t : Tr) : t.neg.count = t.count := by rw [Tr.count_eq, Tr.count_eq, neg_kids]
theorem strip_count : ∀ (t : Tr), (stripF t).count ≤ t.count := by
  intro t
  induction hm : t.count using Nat.strongRecOn generalizing t with
  | _ m ih =>
    subst hm
    have hc := counts_map_le (l := t.kids) fun x hx => ih _ (kid_of_mem hx) x rfl
    have ht := Tr.count_eq t
    rw [stripF_eq]
    have hw : (t.withKids (t.kids.map stripF)).count ≤ t.count := by rw [withKids_count]; omega
    generalize hks : t.kids.map stripF = ks at hc hw
    unfold foldF
    split
    · rename_i k
      simp only [Tr.counts, Nat.add_zero] at hc
      split
      · omega
      · split
        · rw [neg_count]; omega
        · exact hw
    · exact hw
end Go.Det
end

section
set_option linter.unusedVariables false
set_option linter.unusedSimpArgs false
namespace Go.Det.Sea
open Go Go.Det

def callS0 (r : DV) : Spec := fun xs ex k => match xs, ex with
  | [], [] => k r []
  | _, _ => False
def FewG (t : Tr) : Spec := fun xs ex k => match ex with
  | [] => xs = [t.dv, .int .i64 300] ∧ ∀ b : Bool, (b = true → t.count ≤ 300 ∧ shortT t) → k (.bool b) []
  | _ :: _ => False
def small (t : Tr) : Prop := t.count ≤ 300 ∧ shortT t
def E4 (t x : Tr) : Env := { cs := [(8, callS0 (.bool true)), (9, FewG t), (21, nodeG (small t) t cleanT), (11, callG (small t) [t.dv] t.dv)], ss := [(16, 19, callG (small t) [t.dv] x.dv), (18, 18, callG (small t) [x.dv] x.dv), (20, 20, callG (small t ∧ cleanT t) [t.dv] x.dv), (21, 17, callG (small t) [x.dv, x.dv] (.bool true)), (24, 14, anyBG (small t) [t.dv]), (27, 19, callG (small t) [x.dv] x.dv), (29, 22, callG (small t) [x.dv, x.dv] (.bool true))], sp := [3] }
theorem vc4 (t x : Tr) (Φ : DV → List Blk → Prop) : (vcF cfg (E4 t x) 4 [t.dv] [] Φ) =
    ([Tr.dv t, DV.int IntKind.i64 (300 : Int)] = [Tr.dv t, DV.int IntKind.i64 (300 : Int)] ∧ ∀ (b : Bool), (b = true → Tr.count t ≤ 300 ∧ shortT t) → brB (!b) (Φ (DV.bool true) []) ((Tr.count t ≤ 300 ∧ shortT t) ∧ [Tr.dv t] = [Tr.dv t] ∧ ∀ (n : Int), (n = (0 : Int) → cleanT t) → brB (n != (0 : Int)) (Φ (DV.bool true) []) ((Tr.count t ≤ 300 ∧ shortT t) ∧ [Tr.dv t] = [Tr.dv t] ∧ (Tr.count t ≤ 300 ∧ shortT t) ∧ [Tr.dv t] = [Tr.dv t] ∧ (Tr.count t ≤ 300 ∧ shortT t) ∧ [Tr.dv x] = [Tr.dv x] ∧ ((Tr.count t ≤ 300 ∧ shortT t) ∧ cleanT t) ∧ [Tr.dv t] = [Tr.dv t] ∧ (Tr.count t ≤ 300 ∧ shortT t) ∧ [Tr.dv x, Tr.dv x] = [Tr.dv x, Tr.dv x] ∧ (Tr.count t ≤ 300 ∧ shortT t) ∧ [Tr.dv t] = [Tr.dv t] ∧ ∀ (b : Bool), brB b (Φ (DV.bool true) []) ((Tr.count t ≤ 300 ∧ shortT t) ∧ [Tr.dv x] = [Tr.dv x] ∧ (Tr.count t ≤ 300 ∧ shortT t) ∧ [Tr.dv x, Tr.dv x] = [Tr.dv x, Tr.dv x] ∧ Φ (DV.bool true) [])))) := by kernel_rfl
section
variable {Pr Ow : Nat → List DV → DV → Prop}
theorem callS0_ok {g : Nat} {r : DV} (h : ∀ Φ : DV → List Blk → Prop, Φ r [] → GoC cfg Pr Ow g [] [] Φ) : SpecOK cfg Pr Ow g (callS0 r) := by
  intro xs ex k hk
  match xs, ex, hk with
  | [], [], hk => exact h k hk
/-- TextStrips: true of any tree, given what 'known', 'walk' and slices.Clone do. -/
theorem TextStrips_go (hcl : ∀ es : List DV, es.length ≤ 1000000 → Ow 43 [.psl 18 es] (.psl 18 es)) (hkn : ∀ Φ : DV → List Blk → Prop, Φ (.bool true) [] → GoC cfg Pr Ow 8 [] [] Φ)
    (hwalk : ∀ t : Tr, t.count ≤ 300 → ∃ l : List (Tr × Int), l.length ≤ 4000000000 ∧ ∀ Φ : DV → List Blk → Prop, Φ (.psl 19 (nds l)) [] → GoC cfg Pr Ow 48 [t.dv] [] Φ)
    (t : Tr) (Φ : DV → List Blk → Prop) (hΦ : Φ (.bool true) []) : GoC cfg Pr Ow 4 [t.dv] [] Φ := by
  have hcx : t.count ≤ 300 → (stripF t).count ≤ 300 := fun h => Nat.le_trans (strip_count t) h
  refine fn_of0 (E := E4 t (stripF t)) (envOK ⟨callS0_ok hkn, ?few, nodeG_ok fun hs => CheckExpr_go t (by have := hs.1; omega) hs.2, callG_ok fun hs => to_go t (by have := hs.1; omega), trivial⟩
    ⟨callG_ok fun hs => stripF_go hcl t (by have := hs.1; omega), callG_ok fun hs => of_go _ (by have := hcx hs.1; omega), callG_ok fun hs Φ h => stripR_go t (by have := hs.1.1; omega) Φ (by rwa [← strip_same t hs.2]),
      callG_ok fun hs => same_go _ (by have := hcx hs.1; omega), anyBG_ok fun hs => least_go t (by have := hs.1; omega), callG_ok fun hs Φ h => stripF_go hcl _ (by have := hcx hs.1; omega) Φ (by rwa [strip_idem]),
      callG_ok fun hs => ?same, trivial⟩ trivial) rfl ?_
  case few =>
    intro xs ex k hk
    cases ex with
    | cons _ _ => exact hk.elim
    | nil => obtain ⟨rfl, hk⟩ := hk; exact Few_go t k hk
  case same =>
    obtain ⟨l, hl, hw⟩ := hwalk (stripF t) (hcx hs.1)
    exact Same_go _ l hl hw
  · rw [vc4]
    refine ⟨rfl, fun b hb => brB_of (fun _ => hΦ) fun hbt => ?_⟩
    have hs := hb (by simpa using hbt)
    refine ⟨hs, rfl, fun n hn => brB_of (fun _ => hΦ) fun hn0 => ?_⟩
    have hc : cleanT t := hn (by simpa using hn0)
    exact ⟨hs, rfl, hs, rfl, hs, rfl, ⟨hs, hc⟩, rfl, hs, rfl, hs, rfl, fun b => brB_of (fun _ => hΦ) fun _ => ⟨hs, rfl, hs, rfl, hΦ⟩⟩
end
end Go.Det.Sea
end

section
set_option linter.unusedVariables false
set_option linter.unusedSimpArgs false
namespace Go.Det

/-! Rounds of a loop over a function. -/
def FR (r : Option Nat) : Fence := { Fence.wide with round := r }
def quietO (o : Oper) : Bool := match o.op with
  | .call ⟨.value _, _, _⟩ => false
  | .defer _ => false
  | _ => true

section
variable {P : Program} {C : Cfg} {Pr Ow : Nat → List DV → DV → Prop}

theorem step_actR (hT : ∀ t ti, C.T t = some ti → TiOK P t ti) {r0 : Option Nat} {n f : Nat} {os : List Oper} {o : Oper} {st : St} {out : Out} (hw : wants os st.t o = some true) (ha : act C f st.t st.h o.dst o.op = some out) (hq : quietO o = true)
    {w0 : World} {L : List Nat} {m0 : Ro} {a : Act} {w : World} {ρ : Rho} {m : Ro} (hG : GlobOK C m0) (r : Rel w0 L m0 st a w ρ m) {K : Act → World → Prop} {Q : Exit → Act → World → Prop}
    (hK : ∀ a' w' ρ' m', Rel w0 L m0 (apply st o.dst out) a' w' ρ' m' → (∀ b, b ∉ out.φ → ρ b = ρ' b) → a'.defers = a.defers → K a' w') :
    Region.wanted o (yielded os.toArray a.tmps) = true ∧ o.wpIn (FR r0) n P a w K Q := by
  refine ⟨wanted_eq r hw, fun _ _ => trivial, ?_⟩
  obtain ⟨nx, v', w', ρ', m', h1, h2, h3⟩ := act_ok hT r hG ha
  rw [Oper.semAt_eq _ _ _ (by intro c hc; simp [quietO, hc] at hq), h1]
  rcases h2 with rfl | ⟨rfl, rfl⟩
  · rw [Oper.uponIn_value]; exact hK _ _ _ _ (r.apply h3 _) h3.rho (by cases o.dst <;> rfl)
  · rw [Oper.uponIn_skip]; exact hK _ _ _ _ (r.apply h3 _) h3.rho (by cases o.dst <;> rfl)

def InR (P : Program) (C : Cfg) (r0 : Option Nat) (n : Nat) : J → Prop
  | .ops f nt os l st outs st' => l.all quietO = true → ∀ (l2 : List Oper) w0 L m0 a w ρ m Q, GlobOK C m0 → Rel w0 L m0 st a w ρ m →
      (∀ a' w' ρ' m', Rel w0 L m0 st' a' w' ρ' m' → (∀ b, b ∉ outs.flatMap (·.φ) → ρ b = ρ' b) → a'.defers = a.defers → wpListIn (FR r0) n P os.toArray Q l2 a' w') →
      wpListIn (FR r0) n P os.toArray Q (l ++ l2) a w
  | _ => True

theorem runInR (hT : ∀ t ti, C.T t = some ti → TiOK P t ti) {r0 : Option Nat} {n : Nat} : ∀ {j : J}, Run C Pr Ow j → InR P C r0 n j := by
  intro j h
  induction h with
  | nil =>
    intro _ l2 w0 L m0 a w ρ m Q hG r hQ
    exact hQ a w ρ m r (fun _ _ => rfl) rfl
  | act hw ha hφ h1 i1 =>
    intro hq l2 w0 L m0 a w ρ m Q hG r hQ
    simp only [List.all_cons, Bool.and_eq_true] at hq
    have := step_actR hT (r0 := r0) (n := n) (Q := Q) hw ha hq.1 hG r (K := wpListIn (FR r0) n P _ Q (_ ++ l2)) fun a' w' ρ' m' r' hρ hd => i1 hq.2 l2 w0 L m0 a' w' ρ' m' Q hG r' fun a2 w2 ρ2 m2 r2 hρ2 hd2 =>
      hQ a2 w2 ρ2 m2 r2 (fun b hb => by
        simp only [List.flatMap_cons, List.mem_append, not_or] at hb
        exact (hρ b hb.1).trans (hρ2 b hb.2)) (hd2.trans hd)
    rw [List.cons_append]
    simp only [wpListIn]
    rw [if_pos this.1]
    exact this.2
  | pass hw h1 i1 =>
    intro hq l2 w0 L m0 a w ρ m Q hG r hQ
    simp only [List.all_cons, Bool.and_eq_true] at hq
    have hu : VR ρ m (.tup []) undef := by simp only [VR, VRL, undef]; exact ⟨#[], rfl, rfl⟩
    rw [List.cons_append]
    simp only [wpListIn]
    rw [if_neg (by rw [wanted_eq r hw]; simp)]
    refine ⟨fun _ _ => trivial, i1 hq.2 l2 w0 L m0 _ w ρ m Q hG (r.apply (post_same r.inv r.evo hu) _) fun a2 w2 ρ2 m2 r2 hρ2 hd2 => hQ a2 w2 ρ2 m2 r2 (fun b hb => ?_) (hd2.trans ?_)⟩
    · simp only [List.flatMap_cons, List.mem_append, not_or] at hb
      exact hρ2 b hb.2
    · unfold Act.put; split <;> rfl
  | callF hw ho hx e1 hown h1 e2 hφ h2 i1 i2 =>
    intro hq
    simp only [List.all_cons, Bool.and_eq_true] at hq
    simp [quietO, ho] at hq
  | callOwn hw ho hx e1 hown hsc how e2 hφ h2 i2 =>
    intro hq
    simp only [List.all_cons, Bool.and_eq_true] at hq
    simp [quietO, ho] at hq
  | _ => trivial

theorem ops_in (hT : ∀ t ti, C.T t = some ti → TiOK P t ti) {r0 : Option Nat} {n f nt : Nat} {os l l2 : List Oper} {st : St} {K : List Out → St → Prop} (h : GoO C Pr Ow f nt os l st K) (hq : l.all quietO = true)
    {w0 : World} {L : List Nat} {m0 : Ro} {a : Act} {w : World} {ρ : Rho} {m : Ro} {Q : Exit → Act → World → Prop} (hG : GlobOK C m0) (r : Rel w0 L m0 st a w ρ m)
    (hQ : ∀ outs st' a' w' ρ' m', K outs st' → Rel w0 L m0 st' a' w' ρ' m' → (∀ b, b ∉ outs.flatMap (·.φ) → ρ b = ρ' b) → a'.defers = a.defers → wpListIn (FR r0) n P os.toArray Q l2 a' w') :
    wpListIn (FR r0) n P os.toArray Q (l ++ l2) a w := by
  obtain ⟨outs, st', h1, h2⟩ := h
  exact runInR hT h1 hq l2 w0 L m0 a w ρ m Q hG r fun a' w' ρ' m' r' hρ hd => hQ outs st' a' w' ρ' m' h2 r' hρ hd

theorem region_in (hT : ∀ t ti, C.T t = some ti → TiOK P t ti) {r0 : Option Nat} {n f nt id : Nat} {ops : Array Oper} {st : St} {K : List Out → St → Prop} (h : GoO C Pr Ow f nt ops.toList ops.toList st K) (hq : ops.toList.all quietO = true)
    {w0 : World} {L : List Nat} {m0 : Ro} {a : Act} {w : World} {ρ : Rho} {m : Ro} {Q : Exit → Act → World → Prop} (hG : GlobOK C m0) (r : Rel w0 L m0 st a w ρ m)
    (hQ : ∀ outs st' a' w' ρ' m', K outs st' → Rel w0 L m0 st' a' w' ρ' m' → (∀ b, b ∉ outs.flatMap (·.φ) → ρ b = ρ' b) → a'.defers = a.defers → Q .normal a' w') :
    (Code.region id ops false).wpIn (FR r0) n P Q a w := by
  refine wpIn_region_list ?_
  have := ops_in hT (r0 := r0) (n := n) (l2 := []) h hq hG r (Q := Q) hQ
  simpa using this

/-! Objects that are no cells, under way. -/
def Ro.put (m : Ro) (D : Nat) (y : Obj) : Ro := ⟨m.c, fun r => if r = D then some y else m.o r⟩
theorem Ro.put_same (m : Ro) (D : Nat) (y : Obj) : (m.put D y).o D = some y := by simp [Ro.put]
theorem Ro.put_other (m : Ro) {D r : Nat} (y : Obj) (h : r ≠ D) : (m.put D y).o r = m.o r := by simp [Ro.put, h]
theorem RoOK.of {ρ : Rho} {m : Ro} {L : List Nat} {N : Nat} {h : Heap} {w : World} (i : Inv ρ m L N h w) : RoOK m w := ⟨i.ro, i.oth⟩
theorem Inv.putO {ρ : Rho} {m : Ro} {L : List Nat} {N : Nat} {h : Heap} {w : World} {D : Nat} {x y : Obj} (i : Inv ρ m L N h w) (hD : m.o D = some x) (hy : isCellsO y = false) : Inv ρ (m.put D y) L N h (w.putObj D y) := by
  have far : ∀ {p : Loc} {b : Blk}, BR ρ m w p b → (w.putObj D y).heap[p.blk]? = w.heap[p.blk]? := fun hB => World.putObj_heap_other (fun e => i.oth_ne hB hD e.symm)
  refine ⟨fun b z hz => ?_, i.inj, fun r c hc => ?_, fun r z hz => ?_⟩
  · obtain ⟨p, h1, h2, h3⟩ := i.blk b z hz
    have := BR.step (m := m) (m' := m.put D y) (fun _ _ h => h) [] (fun _ _ => rfl) (far h2) h2
    rw [Blk.forget_nil] at this
    exact ⟨p, h1, this, h3⟩
  · obtain ⟨el, fr, hh⟩ := i.ro r c hc
    refine ⟨el, fr, (World.putObj_heap_other ?_).trans hh⟩
    rintro rfl
    obtain ⟨k1, k2⟩ := i.oth _ _ hD
    rw [hh] at k1; cases k1; simp [isCellsO] at k2
  · replace hz : (if r = D then some y else m.o r) = some z := hz
    by_cases e : r = D
    · rw [if_pos e, Option.some.injEq] at hz; subst e hz
      exact ⟨World.putObj_heap_same (i.oth_lt hD), hy⟩
    · rw [if_neg e] at hz
      obtain ⟨k1, k2⟩ := i.oth _ _ hz
      exact ⟨(World.putObj_heap_other e).trans k1, k2⟩
theorem Inv.allocO {ρ : Rho} {m : Ro} {L : List Nat} {N : Nat} {h : Heap} {w : World} (i : Inv ρ m L N h w) {y : Obj} (hy : isCellsO y = false) : Inv ρ (m.put w.heap.size y) L N h (w.alloc y) := by
  refine ⟨fun b z hz => ?_, i.inj, fun r c hc => ?_, fun r z hz => ?_⟩
  · obtain ⟨p, h1, h2, h3⟩ := i.blk b z hz
    have := BR.step (m := m) (m' := m.put w.heap.size y) (fun _ _ h => h) [] (fun _ _ => rfl) (alloc_get_lt w y h2.lt) h2
    rw [Blk.forget_nil] at this
    exact ⟨p, h1, this, h3⟩
  · obtain ⟨el, fr, hh⟩ := i.ro r c hc
    exact ⟨el, fr, (alloc_get_lt w y (i.ro_lt hc)).trans hh⟩
  · replace hz : (if r = w.heap.size then some y else m.o r) = some z := hz
    by_cases e : r = w.heap.size
    · rw [if_pos e, Option.some.injEq] at hz; subst e hz
      exact ⟨alloc_get_new w _, hy⟩
    · rw [if_neg e] at hz
      obtain ⟨k1, k2⟩ := i.oth _ _ hz
      exact ⟨(alloc_get_lt w y (i.oth_lt hz)).trans k1, k2⟩
/-- What others do elsewhere. -/
theorem Inv.later {ρ : Rho} {m m' : Ro} {L : List Nat} {N : Nat} {h : Heap} {w w' : World} (i : Inv ρ m L N h w) (e : Evo [] w w') (g : Grows w.heap.size m m') (ro : RoOK m' w') : Inv ρ m' L N h w' := by
  refine ⟨fun b z hz => ?_, i.inj, ro.1, ro.2⟩
  obtain ⟨p, h1, h2, h3, h4⟩ := i.blk b z hz
  have := BR.step g.1 [] (fun _ _ => rfl) (e.keep p.blk h2.lt (by simp)) h2
  rw [Blk.forget_nil] at this
  exact ⟨p, h1, this, (g.2 _ h2.lt).trans h3, h4⟩
theorem Evo.putO {L : List Nat} {w0 w : World} {D : Nat} (e : Evo L w0 w) (hD : w0.heap.size ≤ D) (y : Obj) : Evo L w0 (w.putObj D y) :=
  ⟨e.os, e.tape, e.output, by simpa using e.size, fun r hr hL => (World.putObj_heap_other (by omega)).trans (e.keep r hr hL)⟩
theorem Evo.after {L : List Nat} {w0 w w' : World} (e : Evo L w0 w) (k : Evo [] w w') : Evo L w0 w' :=
  ⟨k.os.trans e.os, k.tape.trans e.tape, k.output.trans e.output, Nat.le_trans e.size k.size, fun r hr hL => (k.keep r (Nat.lt_of_lt_of_le hr e.size) (by simp)).trans (e.keep r hr hL)⟩
end
end Go.Det
end

section
set_option linter.unusedVariables false
set_option linter.unusedSimpArgs false
namespace Go.Det.Sea
open Go Go.Det

def regOf (i : Nat) : Code → Option (Array Oper)
  | .region id ops _ => bif Nat.beq id i then some ops else none
  | .seq a b => match regOf i a with
    | some x => some x
    | none => regOf i b
  | .cond _ a b => match regOf i a with
    | some x => some x
    | none => regOf i b
  | .block _ a => regOf i a
  | .loop a => regOf i a
  | .scope a => regOf i a
  | .rangeFunc _ _ a b => match regOf i a with
    | some x => some x
    | none => regOf i b
  | _ => none
noncomputable def reg (g i : Nat) : Array Oper := match regOf i (codeOf cfg g) with
  | some x => x
  | none => #[]
def itS0 (l : Nat) (es : List DV) : St := { t := [.fn (.yield l) [] [], .eptr 1 [.psl 18 es] 0 0] ++ List.replicate 17 (.tup []), h := [] }
def itH (l : Nat) (es : List DV) (i : Int) : St := mkS 19 [(0, .fn (.yield l) [] []), (1, .eptr 1 [.psl 18 es] 0 0), (3, .int .i64 i)] [] []
def itY (l : Nat) (es : List DV) (i : Int) (x : DV) : St := mkS 19 [(0, .fn (.yield l) [] []), (1, .eptr 1 [.psl 18 es] 0 0), (3, .int .i64 i), (11, .fn (.yield l) [] []), (12, .int .i64 i), (16, x)] [] []
def itB (l : Nat) (es : List DV) (i : Int) (b : Bool) : St := mkS 19 [(0, .fn (.yield l) [] []), (1, .eptr 1 [.psl 18 es] 0 0), (3, .int .i64 i), (17, .bool b)] [] []
theorem it0v (l : Nat) (es : List DV) (M : St → Prop) : (vcOps cfg {} 127 19 (reg 127 0).toList (reg 127 0).toList (itS0 l es) (fun outs st => M (keepT [0, 1, 3] [] 19 st))) =
    (obB (inR IntKind.i64 ((↑(List.length es) : Int) - (1 : Int))) (M (St.mk [DV.fn (Fn.yield l) [] [], DV.eptr 1 [DV.psl 18 es] 0 0, DV.unk, DV.int IntKind.i64 ((↑(List.length es) : Int) - (1 : Int)), DV.unk, DV.unk, DV.unk, DV.unk, DV.unk, DV.unk, DV.unk, DV.unk, DV.unk, DV.unk, DV.unk, DV.unk, DV.unk, DV.unk, DV.unk] []))) := by kernel_rfl
theorem it1v (l : Nat) (es : List DV) (i : Int) (M : St → Prop) : (vcOps cfg {} 127 19 (reg 127 1).toList (reg 127 1).toList (itH l es i) (fun outs st => M (keepT [0, 1, 3, 8] [] 19 st))) =
    (M (mkS 19 [(0, DV.fn (Fn.yield l) [] []), (1, DV.eptr 1 [DV.psl 18 es] 0 0), (3, DV.int IntKind.i64 i), (8, DV.bool (decide (i ≥ (0 : Int))))] [] [])) := by kernel_rfl
theorem it3v (l : Nat) (es : List DV) (i : Nat) (x : Tr) (M : St → Prop) : (vcOps cfg { an := [(16, x.dv)] } 127 19 (reg 127 3).toList ((reg 127 3).toList.take 6) (itH l es i) (fun outs st => M (keepT [0, 1, 3, 11, 12, 16] [] 19 st))) =
    (obB (decide (i < List.length es)) (es[Int.toNat (↑i : Int)]? = some (Tr.dv x) ∧ M (mkS 19 [(0, DV.fn (Fn.yield l) [] []), (1, DV.eptr 1 [DV.psl 18 es] 0 0), (3, DV.int IntKind.i64 (↑i : Int)), (11, DV.fn (Fn.yield l) [] []), (12, DV.int IntKind.i64 (↑i : Int)), (16, Tr.dv x)] [] []))) := by kernel_rfl
theorem it7v (l : Nat) (es : List DV) (i : Nat) (M : St → Prop) : (vcOps cfg {} 127 19 (reg 127 3).toList ((reg 127 3).toList.drop 7) (itB l es i true) (fun outs st => M (keepT [0, 1, 3, 18] [] 19 st))) =
    (M (mkS 19 [(0, DV.fn (Fn.yield l) [] []), (1, DV.eptr 1 [DV.psl 18 es] 0 0), (3, DV.int IntKind.i64 (↑i : Int)), (18, DV.bool false)] [] [])) := by kernel_rfl
theorem it2v (l : Nat) (es : List DV) (i : Nat) (M : St → Prop) : (vcOps cfg {} 127 19 (reg 127 2).toList (reg 127 2).toList (itH l es i) (fun outs st => M (keepT [0, 1, 3] [] 19 st))) =
    (obB (inR IntKind.i64 ((↑i : Int) - (1 : Int))) (M (mkS 19 [(0, DV.fn (Fn.yield l) [] []), (1, DV.eptr 1 [DV.psl 18 es] 0 0), (3, DV.int IntKind.i64 ((↑i : Int) - (1 : Int)))] [] []))) := by kernel_rfl
theorem code127 : codeOf cfg 127 = .seq (.region 0 (reg 127 0) false) (.block 0 (.loop (.seq (.seq (.region 1 (reg 127 1) false) (.cond (.tmp 8) .skip (.exit 0)))
    (.seq (.block 1 (.seq (.region 3 (reg 127 3) false) (.cond (.tmp 18) .ret .skip))) (.region 2 (reg 127 2) false))))) := by kernel_rfl
end Go.Det.Sea
end

section
set_option linter.unusedVariables false
set_option linter.unusedSimpArgs false
namespace Go.Det.Sea
open Go Go.Det

/-- Between two rounds of a loop over a function. -/
structure Bt (I : Nat → Heap → Prop) (w0 : World) (L : List Nat) (ms : Ro) (D l : Nat) (rc : Loop) (T : List DV) (tm : Array Value) (nt : Nat) (ρ0 : Rho) (k : Nat) (h : Heap) (ρ : Rho) (m : Ro) (W : World) : Prop where
  i : I k h
  inv : Inv ρ m L w0.heap.size h W
  evo : Evo L w0 W
  gr : Grows w0.heap.size ms m
  slots : VRL ρ m T tm.toList
  lp : m.o l = some (.loop rc)
  dm : m.o D = some (.deferred (some []))
  ext : ∀ b, nt ≤ b → ρ b = ρ0 b
/-- .. and the iterator's own slots. -/
def Cm (I : Nat → Heap → Prop) (w0 : World) (L : List Nat) (ms : Ro) (D l : Nat) (rc : Loop) (T : List DV) (tm : Array Value) (nt : Nat) (ρ0 : Rho) (k : Nat) (T2 : List DV) (a2 : Act) (W : World) : Prop :=
  ∃ h ρ m, Bt I w0 L ms D l rc T tm nt ρ0 k h ρ m W ∧ a2.defers = [] ∧ ∃ ρ2, VRL ρ2 m T2 a2.tmps.toList

section
variable {P : Program} {C : Cfg} {Pr Ow : Nat → List DV → DV → Prop} {I : Nat → Heap → Prop} {w0 : World} {L : List Nat} {ms : Ro} {D l : Nat} {rc : Loop} {T : List DV} {tm : Array Value} {nt : Nat} {ρ0 : Rho} {k : Nat}

theorem Bt.later {h : Heap} {ρ : Rho} {m m' : Ro} {W W' : World} (b : Bt I w0 L ms D l rc T tm nt ρ0 k h ρ m W) (e : Evo [] W W') (g : Grows W.heap.size m m') (ro : RoOK m' W') : Bt I w0 L ms D l rc T tm nt ρ0 k h ρ m' W' :=
  ⟨b.i, b.inv.later e g ro, b.evo.after e, b.gr.trans ⟨g.1, fun r hr => g.2 r (Nat.lt_of_lt_of_le hr b.evo.size), g.3⟩, VRL.mono g.1 _ b.slots, g.3 _ _ b.lp, g.3 _ _ b.dm, b.ext⟩

theorem rel_of {m : Ro} {W : World} {ρ2 : Rho} {T2 : List DV} {h2 : Heap} {a2 : Act} (ro : RoOK m W) (hv : VRL ρ2 m T2 a2.tmps.toList) (hh : ∀ b, hget h2 b = none) (hd : a2.defers = []) : Rel W [] m { t := T2, h := h2 } a2 W ρ2 m := by
  refine ⟨hv, ?_, ⟨fun b x hx => ?_, fun b b' x x' p p' hx => ?_, ro.1, ro.2⟩, Evo.refl _ _, Grows.refl _ _⟩
  · rw [hd]; exact Marks.nil _ _
  · rw [hh b] at hx; cases hx
  · rw [hh b] at hx; cases hx

theorem hget_rep (n b : Nat) : hget (List.replicate n none) b = none := by
  unfold hget
  by_cases h : b < n
  · simp [h]
  · simp [List.getElem?_replicate, h]

/-- A region of the iterator. -/
theorem it_region (hT : ∀ t ti, C.T t = some ti → TiOK P t ti) {f nt2 id n : Nat} {ops : Array Oper} {st : St} {T3 : List DV} {a2 : Act} {W : World} {Q : Exit → Act → World → Prop} (hh : ∀ b, hget st.h b = none)
    (hgo : GoO C Pr Ow f nt2 ops.toList ops.toList st fun _ s => ∃ s2, Weaker s s2 ∧ s2.t = T3) (hq : ops.toList.all quietO = true) (hG : ∀ m, Grows w0.heap.size ms m → GlobOK C m)
    (c : Cm I w0 L ms D l rc T tm nt ρ0 k st.t a2 W) (hQ : ∀ a3 W3, Cm I w0 L ms D l rc T tm nt ρ0 k T3 a3 W3 → Q .normal a3 W3) :
    (Code.region id ops false).wpIn Fence.wide n P Q a2 W := by
  obtain ⟨h, ρ, m, b, hd, ρ2, hv⟩ := c
  refine region_in hT (r0 := none) hgo hq (hG m b.gr) (rel_of (RoOK.of b.inv) hv hh hd) ?_
  rintro outs s a3 W3 ρ3 m3 ⟨s2, hw, rfl⟩ r hρ hd3
  have ro := RoOK.of r.inv
  exact hQ _ _ ⟨h, ρ, m3, b.later r.evo r.sub ro, hd3.trans hd, ρ3, r.slots.weaker hw.len hw.slots⟩

/-- The first part of a region of the iterator. -/
theorem it_ops (hT : ∀ t ti, C.T t = some ti → TiOK P t ti) {f nt2 n : Nat} {os l1 l2 : List Oper} {st : St} {T3 : List DV} {a2 : Act} {W : World} {Q : Exit → Act → World → Prop} (hh : ∀ b, hget st.h b = none)
    (hgo : GoO C Pr Ow f nt2 os l1 st fun _ s => ∃ s2, Weaker s s2 ∧ s2.t = T3) (hq : l1.all quietO = true) (hG : ∀ m, Grows w0.heap.size ms m → GlobOK C m)
    (c : Cm I w0 L ms D l rc T tm nt ρ0 k st.t a2 W) (hQ : ∀ a3 W3, Cm I w0 L ms D l rc T tm nt ρ0 k T3 a3 W3 → wpListIn Fence.wide n P os.toArray Q l2 a3 W3) :
    wpListIn Fence.wide n P os.toArray Q (l1 ++ l2) a2 W := by
  obtain ⟨h, ρ, m, b, hd, ρ2, hv⟩ := c
  refine ops_in hT (r0 := none) hgo hq (hG m b.gr) (rel_of (RoOK.of b.inv) hv hh hd) ?_
  rintro outs s a3 W3 ρ3 m3 ⟨s2, hw, rfl⟩ r hρ hd3
  have ro := RoOK.of r.inv
  exact hQ _ _ ⟨h, ρ, m3, b.later r.evo r.sub ro, hd3.trans hd, ρ3, r.slots.weaker hw.len hw.slots⟩
end
end Go.Det.Sea
end

section
set_option linter.unusedVariables false
set_option linter.unusedSimpArgs false
namespace Go.Det.Sea
open Go Go.Det

section
variable {P : Program} {C : Cfg} {Pr Ow : Nat → List DV → DV → Prop} {I : Nat → Heap → Prop} {w0 : World} {L : List Nat} {ms : Ro} {D l : Nat} {T : List DV} {tm : Array Value} {nt : Nat} {ρ0 : Rho} {k : Nat}

/-- What a round does. -/
def Round (C : Cfg) (Pr Ow : Nat → List DV → DV → Prop) (f nt : Nat) (T : List DV) (pi px : Nat) (opsA opsC : Array Oper) (I : Nat → Heap → Prop) (k : Nat) (i : Int) (x : DV) : Prop :=
  ∀ h, I k h → GoO C Pr Ow f nt opsA.toList opsA.toList { t := (T.set pi (.int .i64 i)).set px x, h := h } fun outs1 s1 => ∃ s1', Weaker s1 s1' ∧
    GoO C Pr Ow f nt opsC.toList opsC.toList s1' fun outs2 s2 => (∀ b ∈ outs1.flatMap (·.φ) ++ outs2.flatMap (·.φ), b < nt ∧ b ∉ mentsL T) ∧ ∃ h', (∀ b x, hget h' b = some x → hget s2.h b = some x) ∧ I (k + 1) h'

theorem SubO.put {m m' : Ro} (h : SubO m m') {D : Nat} (y : Obj) (hf : ∀ r x, m.o r = some x → r ≠ D) : SubO m (m'.put D y) := fun r x hx => by rw [Ro.put_other _ _ (hf r x hx)]; exact h r x hx

set_option maxHeartbeats 1000000 in
/-- One round of the loop, from the iterator's side. -/
theorem it_yield (hT : ∀ t ti, C.T t = some ti → TiOK P t ti) (hG : ∀ m, Grows w0.heap.size ms m → GlobOK C m) {f n idA idB idC pi px d0 s1 s2 d1 fn : Nat} {opsA opsC : Array Oper} (hqA : opsA.toList.all quietO = true) (hqC : opsC.toList.all quietO = true)
    (hN : w0.heap.size ≤ l) (hD : D ≠ l) (far : ∀ r x, ms.o r = some x → r < l) {o : Oper} {os rest : List Oper} {ts : Array TypeId} (ho : o.op = .call ⟨.value (.tmp d0), #[.tmp s1, .tmp s2], ts⟩) (hg : o.guard = none) (hd : o.dst = some d1)
    {i : Int} {x : DV} (hx : x.ments = []) (hR : Round C Pr Ow f nt T pi px opsA opsC I k i x)
    {T2 : List DV} (h0 : sget T2 d0 = .fn (.yield l) [] []) (h1 : sget T2 s1 = .int .i64 i) (h2 : sget T2 s2 = x) {a2 : Act} {W : World} {Q : Exit → Act → World → Prop}
    (c : Cm I w0 L ms D l { state := .ready, pending := none, fn := fn, tmps := tm, params := #[pi, px], assign := .region idA opsA false, body := .block idB (.region idC opsC false), defers := D } T tm nt ρ0 k T2 a2 W)
    (hQ : ∀ a3 W3, Cm I w0 L ms D l { state := .ready, pending := none, fn := fn, tmps := tm, params := #[pi, px], assign := .region idA opsA false, body := .block idB (.region idC opsC false), defers := D } T tm nt ρ0 (k + 1) (T2.set d1 (.bool true)) a3 W3 →
      wpListIn Fence.wide n P os.toArray Q rest a3 W3) : wpListIn Fence.wide n P os.toArray Q (o :: rest) a2 W := by
  obtain ⟨h, ρ, m, b, hd2, ρ2, hv⟩ := c
  have hrel : Rel W [] m { t := T2, h := [] } a2 W ρ2 m := rel_of (RoOK.of b.inv) hv (fun b => by simp [hget]) hd2
  have e0 : a2.eval (.tmp d0) = .func (.yield l) #[] #[] := by
    have := hrel.opnd (.tmp d0)
    simp only [opnd] at this
    rw [h0] at this
    simp only [VR, VRL] at this
    obtain ⟨a', c', e, ha, hc⟩ := this
    rw [e]
    congr
    · exact Array.toList_eq_nil_iff.1 ha
    · exact Array.toList_eq_nil_iff.1 hc
  have e1 : a2.eval (.tmp s1) = .int .i64 i := by
    have := hrel.opnd (.tmp s1)
    simp only [opnd] at this
    rw [h1] at this
    simpa only [VR] using this
  have e2 : VR ρ m x (a2.eval (.tmp s2)) := by
    have := hrel.opnd (.tmp s2)
    simp only [opnd] at this
    rw [h2] at this
    exact VR.rho x (by rw [hx]; simp) this
  have hl := (b.inv.oth _ _ b.lp).1
  have hy := run_yield (P := P) (args := #[.int .i64 i, a2.eval (.tmp s2)]) hl rfl
  simp only [wpListIn]
  rw [if_pos (by simp [Region.wanted, hg])]
  refine ⟨fun _ _ => trivial, ?_⟩
  have hrun : (o.semAt Fence.wide.round a2.eval).run P W = .ok (.round l fn ((tm.setIfInBounds pi (.int .i64 i)).setIfInBounds px (a2.eval (.tmp s2))) (.region idA opsA false) (.block idB (.region idC opsC false))) W := by
    rw [Oper.semAt_eq _ _ _ (by intro c hc; rw [ho] at hc; cases hc)]
    unfold execOp
    rw [ho]
    simp only [resolve, e0]
    simp only [e1] at hy ⊢
    simp [Deferred.ofValue, invoke, e1, hy, Array.zip]
  rw [hrun, Oper.uponIn_round]
  refine ⟨fun hh => by simp [Fence.wide] at hh, roundIn_of_wpIn trivial ?_⟩
  have r0 : Rel w0 L m { t := (T.set pi (.int .i64 i)).set px x, h := h } { tmps := (tm.setIfInBounds pi (.int .i64 i)).setIfInBounds px (a2.eval (.tmp s2)), defers := [] } W ρ m := by
    refine ⟨?_, Marks.nil _ _, b.inv, b.evo, Grows.refl _ _⟩
    simp only [Array.toList_setIfInBounds]
    exact VRL.set e2 _ (VRL.set (by simp only [VR]) _ b.slots)
  refine region_in hT (r0 := some l) (hR h b.i) hqA (hG m b.gr) r0 ?_
  rintro outs1 st1 a3 W3 ρ3 m3 ⟨st1', hw, hgo⟩ r3 hρ3 hd3
  have hl3 : m3.o l = some _ := r3.sub.3 _ _ b.lp
  refine ⟨_, run_beginRound (r3.inv.oth _ _ hl3).1 rfl, wpIn_block ?_⟩
  have r3' := (r3.slots.weaker hw.len hw.slots)
  let busy : Loop := { state := .busy, pending := none, fn := fn, tmps := tm, params := #[pi, px], assign := .region idA opsA false, body := .block idB (.region idC opsC false), defers := D }
  have r4 : Rel w0 L (m3.put l (.loop busy)) st1' a3 (W3.putObj l (.loop busy)) ρ3 (m3.put l (.loop busy)) := by
    refine ⟨VRL.mono (m := m3) (m' := m3.put l (.loop busy)) (fun _ _ h => h) _ r3', ?_, (r3.inv.less hw.heap).putO hl3 rfl, r3.evo.putO hN _, Grows.refl _ _⟩
    rw [hd3]; exact Marks.nil _ _
  have hG4 : GlobOK C (m3.put l (.loop busy)) := GlobOK.mono (hG m b.gr) r3.sub.1
  refine region_in hT (r0 := some l) hgo hqC hG4 r4 ?_
  rintro outs2 st2 a5 W5 ρ5 m5 ⟨hφ, h', hh', hI'⟩ r5 hρ5 hd5
  have hl5 : m5.o l = some (.loop busy) := r5.sub.3 _ _ (Ro.put_same _ _ _)
  show ∃ v w', (Instr.endRound l none).run P W5 = .ok v w' ∧ _
  refine ⟨_, _, run_endRound none (r5.inv.oth _ _ hl5).1, ?_⟩
  have hsub : Sub m m5 := r3.sub.1.trans r5.sub.1
  refine hQ _ _ ⟨h', ρ5, m5.put l (.loop { busy with state := .ready, pending := none }), ⟨hI', (r5.inv.less hh').putO hl5 rfl, r5.evo.putO hN _, ⟨b.gr.1.trans hsub, fun r hr => ?_, SubO.put (fun r y hy' => ?_) _ (fun r y hy' => Nat.ne_of_lt (far r y hy'))⟩, ?_, Ro.put_same _ _ _, ?_, fun b' hb' => ?_⟩, ?_, ρ2, ?_⟩
  · exact ((r5.sub.2 r hr).trans (r3.sub.2 r hr)).trans (b.gr.2 r hr)
  · refine r5.sub.3 _ _ ?_
    rw [Ro.put_other _ _ (Nat.ne_of_lt (far r y hy'))]
    exact r3.sub.3 _ _ (b.gr.3 _ _ hy')
  · refine VRL.mono (m := m) (m' := m5.put l _) hsub _ (VRL.rho T (fun b' hb' => ?_) b.slots)
    refine (hρ3 b' fun hin => ?_).trans (hρ5 b' fun hin => ?_)
    · exact (hφ b' (List.mem_append_left _ hin)).2 hb'
    · exact (hφ b' (List.mem_append_right _ hin)).2 hb'
  · rw [Ro.put_other _ _ hD]
    refine r5.sub.3 _ _ ?_
    rw [Ro.put_other _ _ hD]
    exact r3.sub.3 _ _ b.dm
  · rw [← b.ext b' hb']
    refine ((hρ3 b' fun hin => ?_).trans (hρ5 b' fun hin => ?_)).symm
    · have := (hφ b' (List.mem_append_left _ hin)).1; omega
    · have := (hφ b' (List.mem_append_right _ hin)).1; omega
  · rw [hd]; exact hd2
  · rw [hd]
    simp only [Act.put, Array.toList_setIfInBounds]
    refine VRL.mono (m := m) (m' := m5.put l _) hsub _ (VRL.set ?_ _ hv)
    simp only [VR]; rfl
end
end Go.Det.Sea
end

section
set_option linter.unusedVariables false
set_option linter.unusedSimpArgs false
namespace Go.Det.Sea
open Go Go.Det

section
variable {Pr Ow : Nat → List DV → DV → Prop} {I : Nat → Heap → Prop} {w0 : World} {L : List Nat} {ms : Ro} {D l : Nat} {T : List DV} {tm : Array Value} {nt : Nat} {ρ0 : Rho}

def IsS (target s : St) : Prop := s = target
def IsT0 (T : List DV) (s : St) : Prop := s.t = T
theorem it_go {E : Env} (H : EnvOK cfg Pr Ow E) {ks : List Nat} {os l1 : List Oper} {st target : St} (h : vcOps cfg E 127 19 os l1 st (fun outs st => IsS target (keepT ks [] 19 st))) :
    GoO cfg Pr Ow 127 19 os l1 st fun _ s => ∃ s2, Weaker s s2 ∧ s2.t = target.t := by
  obtain ⟨outs, st', h1, h2⟩ := vcOps_ok H h
  exact ⟨outs, st', h1, _, keepT_weaker _ _ _ _, by rw [show keepT ks [] 19 st' = target from h2]⟩
noncomputable def itC (l : Nat) (es : List DV) (i : Int) : St := mkS 19 [(0, .fn (.yield l) [] []), (1, .eptr 1 [.psl 18 es] 0 0), (3, .int .i64 i), (8, .bool (decide (i ≥ (0 : Int))))] [] []
noncomputable def itN (l : Nat) (es : List DV) (i : Int) : St := mkS 19 [(0, .fn (.yield l) [] []), (1, .eptr 1 [.psl 18 es] 0 0), (3, .int .i64 i), (18, .bool false)] [] []
noncomputable def itT0 (l : Nat) (es : List DV) : St := { t := (itH l es ((es.length : Int) - 1)).t, h := [] }
theorem ments_dv (t : Tr) : t.dv.ments = [] := rfl
theorem itC_8 (l : Nat) (es : List DV) (i : Nat) : sget (itC l es i).t 8 = .bool true := by
  have : decide ((i : Int) ≥ (0 : Int)) = true := decide_eq_true (by omega)
  rw [← this]; rfl
theorem E0ok : EnvOK cfg Pr Ow {} := envOK trivial trivial trivial
theorem it1g (l : Nat) (es : List DV) (i : Int) : GoO cfg Pr Ow 127 19 (reg 127 1).toList (reg 127 1).toList (itH l es i) fun _ s => ∃ s2, Weaker s s2 ∧ s2.t = (itC l es i).t :=
  it_go E0ok (by rw [it1v l es i (IsS (itC l es i))]; rfl)
theorem it3g (l : Nat) (es : List DV) (i : Nat) (x : Tr) (h : es[i]? = some x.dv) : GoO cfg Pr Ow 127 19 (reg 127 3).toList ((reg 127 3).toList.take 6) (itH l es i) fun _ s => ∃ s2, Weaker s s2 ∧ s2.t = (itY l es i x.dv).t :=
  it_go (E := { an := [(16, x.dv)] }) (envOK trivial trivial trivial) (by rw [it3v l es i x (IsS (itY l es i x.dv))]; exact obB_of (decide_eq_true (List.getElem?_eq_some_iff.1 h).1) ⟨by simpa using h, rfl⟩)
theorem it7g (l : Nat) (es : List DV) (i : Nat) : GoO cfg Pr Ow 127 19 (reg 127 3).toList ((reg 127 3).toList.drop 7) (itB l es i true) fun _ s => ∃ s2, Weaker s s2 ∧ s2.t = (itN l es i).t :=
  it_go E0ok (by rw [it7v l es i (IsS (itN l es i))]; rfl)
theorem it2g (l : Nat) (es : List DV) (i : Nat) (hi : i ≤ 4000000000) : GoO cfg Pr Ow 127 19 (reg 127 2).toList (reg 127 2).toList (itH l es i) fun _ s => ∃ s2, Weaker s s2 ∧ s2.t = (itH l es ((i : Int) - 1)).t :=
  it_go E0ok (by rw [it2v l es i (IsS (itH l es ((i : Int) - 1)))]; exact obB_of (inR64 (by omega)) rfl)
theorem it0g (l : Nat) (es : List DV) (hl : es.length ≤ 4000000000) : GoO cfg Pr Ow 127 19 (reg 127 0).toList (reg 127 0).toList (itS0 l es) fun _ s => ∃ s2, Weaker s s2 ∧ s2.t = (itH l es ((es.length : Int) - 1)).t :=
  it_go E0ok (target := itT0 l es) (by rw [it0v l es (IsS (itT0 l es))]; exact obB_of (inR64 (by omega)) rfl)
theorem region_l {F : Fence} {n : Nat} {P : Program} {id : Nat} {ops : Array Oper} {Q : Exit → Act → World → Prop} {a : Act} {w : World} (h : wpListIn F n P ops.toList.toArray Q ops.toList a w) : (Code.region id ops false).wpIn F n P Q a w :=
  wpIn_region_list (by rwa [Array.toArray_toList] at h)
theorem Cm.eval {rc : Loop} {k : Nat} {T2 : List DV} {a2 : Act} {W : World} (c : Cm I w0 L ms D l rc T tm nt ρ0 k T2 a2 W) {j : Nat} {b : Bool} (h : sget T2 j = .bool b) : a2.eval (.tmp j) = .bool b := by
  obtain ⟨h0, ρ, m, bt, hd2, ρ2, hv⟩ := c
  have hrel : Rel W [] m { t := T2, h := [] } a2 W ρ2 m := rel_of (RoOK.of bt.inv) hv (fun b => by simp [hget]) hd2
  have := hrel.opnd (.tmp j)
  simp only [opnd] at this
  rw [h] at this
  simpa only [VR] using this
theorem Cm.weak {rc : Loop} {k : Nat} {T2 T3 : List DV} {a2 : Act} {W : World} (c : Cm I w0 L ms D l rc T tm nt ρ0 k T2 a2 W) (hw : Weaker { t := T2, h := [] } { t := T3, h := [] }) : Cm I w0 L ms D l rc T tm nt ρ0 k T3 a2 W := by
  obtain ⟨h0, ρ, m, bt, hd2, ρ2, hv⟩ := c
  exact ⟨h0, ρ, m, bt, hd2, ρ2, hv.weaker hw.len hw.slots⟩
noncomputable def yop : Oper := (reg 127 3).toList.getD 6 default
theorem yop_split : (reg 127 3).toList = (reg 127 3).toList.take 6 ++ (yop :: (reg 127 3).toList.drop 7) := by kernel_rfl
theorem yop_op : yop.op = .call ⟨.value (.tmp 11), #[.tmp 12, .tmp 16], #[3, 48]⟩ := by kernel_rfl
theorem yop_guard : yop.guard = none := by kernel_rfl
theorem yop_dst : yop.dst = some 17 := by kernel_rfl
theorem q0 : (reg 127 0).toList.all quietO = true := by kernel_rfl
theorem q1 : (reg 127 1).toList.all quietO = true := by kernel_rfl
theorem q2 : (reg 127 2).toList.all quietO = true := by kernel_rfl
theorem q3 : ((reg 127 3).toList.take 6).all quietO = true := by kernel_rfl
theorem q7 : ((reg 127 3).toList.drop 7).all quietO = true := by kernel_rfl
theorem keep_self (T2 : List DV) (ks : List Nat) (h : tidyT ks 0 T2 = tidyT ks 0 T2) : Weaker { t := T2, h := [] } { t := tidyT ks 0 T2, h := [] } := by
  have := keepT_weaker ks [] 0 { t := T2, h := [] }
  unfold keepT at this
  simpa [tidyH] using this

abbrev rcOf (fn : Nat) (tm : Array Value) (pi px idA idB idC : Nat) (opsA opsC : Array Oper) (D : Nat) : Loop := { state := .ready, pending := none, fn := fn, tmps := tm, params := #[pi, px], assign := .region idA opsA false, body := .block idB (.region idC opsC false), defers := D }

noncomputable abbrev itBody : Code := .seq (.seq (.region 1 (reg 127 1) false) (.cond (.tmp 8) .skip (.exit 0))) (.seq (.block 1 (.seq (.region 3 (reg 127 3) false) (.cond (.tmp 18) .ret .skip))) (.region 2 (reg 127 2) false))

/-- The region of the iterator with the call of yield. -/
theorem it_yregion {P : Program} {C : Cfg} (hT : ∀ t ti, C.T t = some ti → TiOK P t ti) (hG : ∀ m, Grows w0.heap.size ms m → GlobOK C m) {f f2 nt2 n id idA idB idC pi px d0 s1 s2 d1 fn k : Nat} {opsA opsC ops : Array Oper} (hqA : opsA.toList.all quietO = true) (hqC : opsC.toList.all quietO = true)
    (hN : w0.heap.size ≤ l) (hD : D ≠ l) (far : ∀ r x, ms.o r = some x → r < l) {o : Oper} {l1 l7 : List Oper} (hs : ops.toList = l1 ++ (o :: l7)) {ts : Array TypeId} (ho : o.op = .call ⟨.value (.tmp d0), #[.tmp s1, .tmp s2], ts⟩) (hg : o.guard = none) (hd : o.dst = some d1)
    {i : Int} {x : DV} (hx : x.ments = []) (hR : Round C Pr Ow f nt T pi px opsA opsC I k i x) {st1 st2 : St} {T2 T4 : List DV} (hh1 : ∀ b, hget st1.h b = none) (hh2 : ∀ b, hget st2.h b = none)
    (g1 : GoO C Pr Ow f2 nt2 ops.toList l1 st1 fun _ s => ∃ s2, Weaker s s2 ∧ s2.t = T2) (hq1 : l1.all quietO = true) (h0 : sget T2 d0 = .fn (.yield l) [] []) (h1 : sget T2 s1 = .int .i64 i) (h2 : sget T2 s2 = x)
    (hw : Weaker { t := T2.set d1 (.bool true), h := [] } { t := st2.t, h := [] }) (g2 : GoO C Pr Ow f2 nt2 ops.toList l7 st2 fun _ s => ∃ s2, Weaker s s2 ∧ s2.t = T4) (hq7 : l7.all quietO = true)
    {a2 : Act} {W : World} {Q : Exit → Act → World → Prop} (c : Cm I w0 L ms D l (rcOf fn tm pi px idA idB idC opsA opsC D) T tm nt ρ0 k st1.t a2 W)
    (hQ : ∀ a3 W3, Cm I w0 L ms D l (rcOf fn tm pi px idA idB idC opsA opsC D) T tm nt ρ0 (k + 1) T4 a3 W3 → Q .normal a3 W3) : (Code.region id ops false).wpIn Fence.wide n P Q a2 W := by
  refine region_l ?_
  have key : wpListIn Fence.wide n P ops.toList.toArray Q (l1 ++ (o :: l7)) a2 W := by
    refine it_ops hT hh1 g1 hq1 hG c fun a3 W3 c3 => ?_
    refine it_yield hT hG hqA hqC hN hD far ho hg hd hx hR h0 h1 h2 c3 fun a5 W5 c5 => ?_
    have := it_ops (n := n) (l2 := []) (Q := Q) hT hh2 g2 hq7 hG (c5.weak hw) fun a6 W6 c6 => hQ a6 W6 c6
    simpa using this
  rw [← hs] at key
  exact key

theorem loop127 (hT : ∀ t ti, cfg.T t = some ti → TiOK Go.Proofs.Tryz.prog t ti) (hG : ∀ m, Grows w0.heap.size ms m → GlobOK cfg m) {f n idA idB idC pi px fn : Nat} {opsA opsC : Array Oper} (hqA : opsA.toList.all quietO = true) (hqC : opsC.toList.all quietO = true)
    (hN : w0.heap.size ≤ l) (hD : D ≠ l) (far : ∀ r x, ms.o r = some x → r < l) (kids : List Tr) (hkl : kids.length ≤ 4000000000)
    (hR : ∀ k i, i + k + 1 = kids.length → Round cfg Pr Ow f nt T pi px opsA opsC I k (i : Int) (kids.getD i default).dv) {Q : Exit → Act → World → Prop} :
    ∀ (rem k : Nat) (a2 : Act) (W : World), k + rem = kids.length → Cm I w0 L ms D l (rcOf fn tm pi px idA idB idC opsA opsC D) T tm nt ρ0 k (itH l (Tr.encs kids) ((rem : Int) - 1)).t a2 W →
      (∀ T3 a3 W3, Cm I w0 L ms D l (rcOf fn tm pi px idA idB idC opsA opsC D) T tm nt ρ0 kids.length T3 a3 W3 → Q (.exit 0) a3 W3) →
      Code.roundsIn Fence.wide n Go.Proofs.Tryz.prog itBody Q (rem + 1) a2 W := by
  have hlen : (Tr.encs kids).length = kids.length := by rw [Tr.encs_eq, List.length_map]
  have hh : ∀ (l : Nat) es i b, hget (itH l es i).h b = none := fun l es i b => hget_rep 19 b
  intro rem
  induction rem with
  | zero =>
    intro k a2 W hk c hQ
    rw [roundsIn_succ]
    refine wpIn_seq (wpIn_seq ?_)
    refine it_region hT (st := itH l (Tr.encs kids) (((0 : Nat) : Int) - 1)) (hh _ _ _) (it1g (Pr := Pr) (Ow := Ow) _ _ _) q1 hG c fun a3 W3 c3 => ?_
    refine wpIn_cond_false (c3.eval (by rfl)) (wpIn_exit ?_)
    have : k = kids.length := by omega
    subst this
    exact hQ _ _ _ c3
  | succ i ih =>
    intro k a2 W hk c hQ
    have ei : (((i + 1 : Nat) : Int) - 1) = (i : Int) := by omega
    rw [ei] at c
    rw [roundsIn_succ]
    refine wpIn_seq (wpIn_seq ?_)
    refine it_region hT (st := itH l (Tr.encs kids) (i : Int)) (hh _ _ _) (it1g (Pr := Pr) (Ow := Ow) _ _ _) q1 hG c fun a3 W3 c3 => ?_
    refine wpIn_cond_true (c3.eval (itC_8 _ _ _)) (wpIn_skip ?_)
    have c3' : Cm I w0 L ms D l (rcOf fn tm pi px idA idB idC opsA opsC D) T tm nt ρ0 k (itH l (Tr.encs kids) (i : Int)).t a3 W3 := c3.weak (keep_self _ [0, 1, 3] rfl)
    have hget : (Tr.encs kids)[i]? = some (kids.getD i default).dv := Tr.encs_get (by omega)
    refine wpIn_seq (wpIn_block (wpIn_seq (it_yregion hT hG hqA hqC hN hD far yop_split yop_op yop_guard yop_dst (ments_dv _) (hR k i (by omega)) (st1 := itH l (Tr.encs kids) (i : Int)) (st2 := itB l (Tr.encs kids) (i : Int) true) (hh _ _ _) (fun b => hget_rep 19 b)
      (it3g _ _ i _ hget) q3 rfl rfl rfl (keep_self _ [0, 1, 3, 17] rfl) (it7g _ _ i) q7 c3' fun a6 W6 c6 => ?_)))
    refine wpIn_cond_false (c6.eval (by rfl)) (wpIn_skip ?_)
    have c6' : Cm I w0 L ms D l (rcOf fn tm pi px idA idB idC opsA opsC D) T tm nt ρ0 (k + 1) (itH l (Tr.encs kids) (i : Int)).t a6 W6 := c6.weak (keep_self _ [0, 1, 3] rfl)
    refine it_region hT (st := itH l (Tr.encs kids) (i : Int)) (hh _ _ _) (it2g (Pr := Pr) (Ow := Ow) _ _ i (by omega)) q2 hG c6' fun a7 W7 c7 => ?_
    exact ih (k + 1) a7 W7 (by omega) c7 hQ
end
end Go.Det.Sea
end

section
set_option linter.unusedVariables false
set_option linter.unusedSimpArgs false
namespace Go.Det.Sea
open Go Go.Det

section
variable {Pr Ow : Nat → List DV → DV → Prop}
theorem inBlock_self {id : Nat} {Q : Exit → Act → World → Prop} {a : Act} {w : World} (h : Q .normal a w) : Exit.inBlock id Q (.exit id) a w := by simp only [Exit.inBlock, if_true]; exact h
theorem body127 : Go.Proofs.Tryz.f127.body = some (codeOf cfg 127) := by kernel_rfl
theorem nt127 : Go.Proofs.Tryz.f127.ntmps = 19 := by kernel_rfl
theorem res127 : Go.Proofs.Tryz.f127.results = #[] := by kernel_rfl

set_option maxHeartbeats 1000000 in
/-- A loop over slices.Backward of trees. -/
theorem range127 (hT : ∀ t ti, cfg.T t = some ti → TiOK Go.Proofs.Tryz.prog t ti) {f nt g idA idB idC pi px : Nat} {opsA opsC : Array Oper} (hqA : opsA.toList.all quietO = true) (hqC : opsC.toList.all quietO = true)
    (kids : List Tr) (hkl : kids.length ≤ 4000000000) {I : Nat → Heap → Prop} {T0 T : List DV} {h0 h1 : Heap}
    (hg : sget T0 g = .fn (.func 127) [] [.eptr 1 [.psl 18 (Tr.encs kids)] 0 0]) (hw : Weaker { t := T0, h := h0 } { t := T, h := h1 }) (hI : I 0 h1)
    (hR : ∀ k i, i + k + 1 = kids.length → Round cfg Pr Ow f nt T pi px opsA opsC I k (i : Int) (kids.getD i default).dv)
    {ρ0 : Rho} {w0 : World} {L : List Nat} {m0 : Ro} {a : Act} {w : World} {ρ : Rho} {m : Ro} (hG0 : GlobOK cfg m0) (r : RelX nt ρ0 w0 L m0 { t := T0, h := h0 } a w ρ m) {Q : Exit → Act → World → Prop}
    (hQ : ∀ h a' w' ρ' m', I kids.length h → RelX nt ρ0 w0 L m0 { t := T, h := h } a' w' ρ' m' → Q .normal a' w') :
    (Code.rangeFunc (.tmp g) #[pi, px] (.region idA opsA false) (.block idB (.region idC opsC false))).wp Go.Proofs.Tryz.prog Q a w := by
  refine (wpIn_wide (n := 0)).1 (wpIn_rangeFunc ?_)
  intro fn _
  have hgv := r.toRel.opnd (.tmp g)
  simp only [opnd] at hgv
  rw [hg] at hgv
  simp only [VR, VRL] at hgv
  obtain ⟨a', c', hev, ha', pv, rest, hc', hpv, hrest⟩ := hgv
  have ha2 : a' = #[] := Array.toList_eq_nil_iff.1 ha'
  have hc2 : c' = #[pv] := by
    rw [hrest] at hc'
    cases c' with | mk l => simp at hc'; simp [hc']
  subst ha2 hc2
  let rc : Loop := rcOf fn a.tmps pi px idA idB idC opsA opsC w.heap.size
  let W1 : World := (w.alloc (.deferred (some []))).alloc (.loop rc)
  let m1 : Ro := (m.put w.heap.size (.deferred (some []))).put (w.heap.size + 1) (.loop rc)
  have inv1 : Inv ρ m1 L w0.heap.size h1 W1 := by
    have := ((r.inv.less hw.heap).allocO (y := .deferred (some [])) rfl).allocO (y := .loop rc) rfl
    rw [World.size_alloc] at this
    exact this
  have oldo : ∀ k x, m.o k = some x → k < w.heap.size := fun k x hk => r.inv.oth_lt hk
  have gr1 : Grows w0.heap.size m m1 := ⟨fun _ _ h => h, fun _ _ => rfl, SubO.put (SubO.put (fun _ _ h => h) _ (fun k x hk => Nat.ne_of_lt (oldo k x hk))) _ (fun k x hk => by have := oldo k x hk; omega)⟩
  have bt : Bt I w0 L m w.heap.size (w.heap.size + 1) rc T a.tmps nt ρ0 0 h1 ρ m1 W1 := by
    refine ⟨hI, inv1, (r.evo.alloc _).alloc _, gr1, VRL.mono (m := m) (m' := m1) (fun _ _ h => h) _ (r.slots.weaker hw.len hw.slots), Ro.put_same _ _ _, ?_, r.ext⟩
    rw [Ro.put_other _ _ (by omega)]; exact Ro.put_same _ _ _
  have he : (Instr.enterLoop fn a.tmps #[pi, px] (.region idA opsA false) (.block idB (.region idC opsC false)) Fence.wide.round).run Go.Proofs.Tryz.prog w = .ok (w.heap.size + 1, [{ target := .collected w.heap.size, args := #[] }]) W1 := run_enterLoop_outer _ _ _ _ _
  refine ⟨w.heap.size + 1, [{ target := .collected w.heap.size, args := #[] }], W1, { target := .fn (.func 127) #[pv], args := #[.func (.yield (w.heap.size + 1)) #[] #[]] }, W1, 127,
    #[.func (.yield (w.heap.size + 1)) #[] #[]] ++ #[pv], W1, he, ?_, fun _ _ => trivial, ?_, fun hh => by simp [Fence.wide] at hh, ?_⟩
  · simp only [resolve, hev]
    simp [Deferred.ofValue]
    rfl
  · have hnm : Go.Proofs.Tryz.f127.name ≠ "runtime.NumGoroutine" := of_decide_eq_true (by kernel_rfl)
    simp [invoke, callFunc, Go.Proofs.Tryz.func127, hnm, body127]
  refine callsIn_of_wp Go.Proofs.Tryz.func127 body127 trivial ?_
  rw [code127, nt127]
  have hG : ∀ m', Grows w0.heap.size m m' → GlobOK cfg m' := fun m' gg => hG0.mono (r.sub.1.trans gg.1)
  have c0 : Cm I w0 L m w.heap.size (w.heap.size + 1) rc T a.tmps nt ρ0 0 (itS0 (w.heap.size + 1) (Tr.encs kids)).t { tmps := (#[.func (.yield (w.heap.size + 1)) #[] #[]] ++ #[pv]) ++ Array.replicate (19 - (#[.func (.yield (w.heap.size + 1)) #[] #[]] ++ #[pv] : Array Value).size) undef, defers := [] } W1 := by
    refine ⟨h1, ρ, m1, bt, rfl, ρ, ?_⟩
    have e1 : VR ρ m1 (.fn (.yield (w.heap.size + 1)) [] []) (.func (.yield (w.heap.size + 1)) #[] #[]) := by
      simp only [VR, VRL]; exact ⟨#[], #[], rfl, rfl, rfl⟩
    have e2 : VR ρ m1 (.eptr 1 [.psl 18 (Tr.encs kids)] 0 0) pv := VR.mono (m := m) (m' := m1) (fun _ _ h => h) _ (by simp only [VR]; exact hpv)
    have : VRL ρ m1 ([.fn (.yield (w.heap.size + 1)) [] [], .eptr 1 [.psl 18 (Tr.encs kids)] 0 0] ++ List.replicate 17 (.tup [])) ([.func (.yield (w.heap.size + 1)) #[] #[], pv] ++ List.replicate 17 undef) :=
      VRL.append (VRL.cons e1 (VRL.cons e2 (by simp [VRL]))) (VRL.undef ρ m1 17)
    simpa [itS0] using this
  have hlen : (Tr.encs kids).length = kids.length := by rw [Tr.encs_eq, List.length_map]
  refine wpIn_seq (it_region hT (st := itS0 (w.heap.size + 1) (Tr.encs kids)) (fun b => by simp [itS0, hget]) (it0g (Pr := Pr) (Ow := Ow) _ _ (by omega)) q0 hG c0 fun a3 W3 c3 => ?_)
  rw [hlen] at c3
  refine wpIn_block (wpIn_loop_rounds (kids.length + 1) (loop127 (Pr := Pr) (Ow := Ow) hT hG hqA hqC (by have := r.evo.size; omega) (by omega) (fun k x hk => by have := oldo k x hk; omega) kids hkl hR kids.length 0 a3 W3 (by omega) c3 ?_))
  rintro T3 a4 W4 ⟨h4, ρ4, m4, b4, hd4, ρ5, hv4⟩
  refine inBlock_self ?_
  refine ⟨hd4, _, results_none res127 _ _ _, ?_⟩
  refine ⟨_, _, run_endLoop (b4.inv.oth _ _ b4.lp).1 (by simp), ?_⟩
  refine hQ h4 _ _ ρ4 (m4.put (w.heap.size + 1) _) b4.i ⟨⟨VRL.mono (m := m4) (m' := m4.put (w.heap.size + 1) _) (fun _ _ h => h) _ b4.slots, ⟨?_, ?_⟩, b4.inv.putO b4.lp rfl, b4.evo.putO (by have := r.evo.size; omega) _, ?_⟩, b4.ext⟩
  · intro d hd
    rcases List.mem_cons.1 hd with rfl | hd
    · refine ⟨_, rfl, ?_, r.evo.size⟩
      rw [Ro.put_other _ _ (by omega)]; exact b4.dm
    · obtain ⟨D', rfl, k1, k2⟩ := r.defers.mark d hd
      refine ⟨D', rfl, ?_, k2⟩
      have := oldo _ _ k1
      rw [Ro.put_other _ _ (by omega)]; exact b4.gr.3 _ _ k1
  · refine List.nodup_cons.2 ⟨fun hin => ?_, r.defers.nodup⟩
    obtain ⟨D', e, k1, k2⟩ := r.defers.mark _ hin
    have := oldo _ _ k1
    simp at e
    omega
  · exact r.sub.trans ⟨b4.gr.1, b4.gr.2, SubO.put b4.gr.3 _ (fun k x hk => by have := oldo k x hk; omega)⟩
end
end Go.Det.Sea
end

section
set_option linter.unusedVariables false
set_option linter.unusedSimpArgs false
namespace Go.Proofs
open Go.RowKit Go.Lib
theorem back0 (ad : Option Addr) (n cap : Nat) (w : World) : Calls Tryz.prog 84 #[.slice ad n cap] w fun e w' => e = .returned (.func (.func 127) #[] #[.pointer (some ⟨w.heap.size, 0, none⟩)]) ∧ w' = w.alloc (.cells #[.slice ad n cap] 46) := by
  go_enter Tryz.func84, Tryz.ntmps84
  go_wp2
  go_ret
  exact ⟨rfl, rfl⟩
end Go.Proofs
namespace Go.Det.Sea
open Go Go.Det Go.Proofs Go.RowKit
/-- What slices.Backward hands back. -/
def backV (es : List DV) : DV := .fn (.func 127) [] [.eptr 1 [.psl 18 es] 0 0]
theorem back_ok (es : List DV) : Callable Go.Proofs.Tryz.prog 84 ∧ CallOK Go.Proofs.Tryz.prog cfg 84 [.psl 18 es] [] (backV es) [] := by
  refine ⟨⟨Go.Proofs.Tryz.f84, Go.Proofs.Tryz.func84, by kernel_rfl, of_decide_eq_true (by kernel_rfl)⟩, rfl, rfl, ?_⟩
  intro ρ m w vals blks hG hro hx hext
  have hb : blks = [] := by have := hext.len; simpa using this
  subst hb
  simp only [VRL] at hx
  obtain ⟨v, r, hv, hvr, rfl⟩ := hx
  have hvals : vals = #[v] := by
    cases vals with | mk l => simp at hv; simp [hv]
  subst hvals
  have hvr0 := hvr
  simp only [VR] at hvr
  obtain ⟨a, cap, h1, rfl, h2, _⟩ := hvr
  refine (Go.Proofs.back0 a es.length cap w).mono ?_
  rintro e w' ⟨rfl, rfl⟩
  have hnew : m w.heap.size = none := by
    cases hm : m w.heap.size with
    | none => rfl
    | some c =>
      obtain ⟨el, fr, hc⟩ := hro.1 _ _ hm
      have := (Array.getElem?_eq_some_iff.1 hc).1
      omega
  have hs := sub_seal1 #[.slice a es.length cap] hnew
  have i0 : Inv ρ m [] 0 [] w := ⟨fun b x hb => by simp [hget] at hb, fun b b' x x' p p' hb => by simp [hget] at hb, hro.1, hro.2⟩
  refine ⟨_, seal1 m w.heap.size #[.slice a es.length cap], rfl, ?_, ⟨by simpa using hext.len, by simp, by simp⟩, RoOK.of (i0.allocSealed _ _ _), ⟨hs, fun r hr => ?_, fun _ _ h => h⟩, (Evo.refl [] w).alloc _⟩
  · simp only [backV, VR, VRL]
    refine ⟨#[], #[.pointer (some ⟨w.heap.size, 0, none⟩)], rfl, rfl, _, [], rfl, ⟨w.heap.size, 0, #[.slice a es.length cap], by simp [seal1], by simp [mentsL, DV.ments], ?_, by simp, rfl⟩, rfl⟩
    simp only [VRE]
    exact ⟨⟨.slice a es.length cap, VR.mono hs _ hvr0, rfl, by simp [Value.cells, Value.oneCell'], fun j u hj => by simpa [Value.cells] using hj⟩, trivial⟩
  · show (if r = w.heap.size then some _ else m r) = m r
    rw [if_neg (by omega)]
end Go.Det.Sea
end

section
set_option linter.unusedVariables false
set_option linter.unusedSimpArgs false
namespace Go.Det.Sea
open Go Go.Det

noncomputable def B048 : Code := .block 0 (.rangeFunc (.tmp 33) #[34, 35] (.region 9 (reg 48 9) false) (.block 1 (.region 10 (reg 48 10) false)))
def NoP (_ : Nat) (_ : List DV) (_ : DV) : Prop := False
/-- The loop of expr.walk over a node's kids. -/
def S48 (f nt : Nat) (c : Code) (st : St) (e : Ex) (st' : St) : Prop := f = 48 ∧ nt = 44 ∧ c = B048 ∧ e = .normal ∧ ∃ (kids : List Tr) (T : List DV) (h1 : Heap) (I : Nat → Heap → Prop), kids.length ≤ 4000000000 ∧
  sget st.t 33 = backV (Tr.encs kids) ∧ Weaker st { t := T, h := h1 } ∧ I 0 h1 ∧ (∀ k i, i + k + 1 = kids.length → Round cfg NoP NoP 48 44 T 34 35 (reg 48 9) (reg 48 10) I k (i : Int) (kids.getD i default).dv) ∧ ∀ h, I kids.length h → Weaker { t := T, h := h } st'
noncomputable def cfgS : Cfg := { cfg with sem := S48 }
theorem qA48 : (reg 48 9).toList.all quietO = true := by kernel_rfl
theorem qC48 : (reg 48 10).toList.all quietO = true := by kernel_rfl
theorem globS : cfgS.glob = cfg.glob := rfl
theorem semS : cfgS.sem = S48 := rfl
theorem S48_ok (hT : ∀ t ti, cfg.T t = some ti → TiOK Go.Proofs.Tryz.prog t ti) : ∀ f nt c st e st', cfgS.sem f nt c st e st' → Says Go.Proofs.Tryz.prog cfgS (.code f nt c st e st') := by
  intro f nt c st e st' hs
  rw [semS] at hs
  obtain ⟨rfl, rfl, rfl, rfl, kids, T, h1, I, hkl, hg, hw, hI, hR, hend⟩ := hs
  obtain ⟨T0, h0⟩ := st
  intro ρ0 w0 L m0 a w ρ m hG r
  have hG2 : GlobOK cfg m0 := by
    unfold GlobOK at hG ⊢
    rw [globS] at hG
    exact hG
  have key := range127 (nt := 44) (f := 48) (g := 33) (idA := 9) (idB := 1) (idC := 10) (Q := Exit.inBlock 0 (Post1 44 ρ0 w0 L m0 .normal st')) hT qA48 qC48 kids hkl hg hw hI hR hG2 r fun h a' w' ρ' m' hI' r' => ⟨rfl, ρ', m', r'.weaker (hend h hI')⟩
  exact wp_block key

def rdT (no : Nat) : List DV := (mkS 44 [(3, .rsl 29 19 0 no), (4, .ptr 4 1 0 0), (5, .ptr 5 19 0 0)] [] []).t
def rdH (j n : Nat) (S O : List DV) (t : Tr) (d : Int) : Heap := (mkS 44 [] [(4, .box [.rsl j 19 0 n]), (5, .box (t.cells ++ [.int .i64 d])), (29, .row 19 O), (j, .row 19 S)] []).h
def rdS (j n : Nat) (S O : List DV) (t x : Tr) (d : Int) : St := mkS 44 [(4, .ptr 4 1 0 0), (5, .ptr 5 19 0 0), (7, .ptr 7 18 0 0)] [(4, .box [.rsl j 19 0 n]), (5, .box (t.cells ++ [.int .i64 d])), (7, .box x.cells), (29, .row 19 O), (j, .row 19 S)] []
def rdA (no i : Nat) (x : Tr) (j n : Nat) (S O : List DV) (t : Tr) (d : Int) : St := { t := ((rdT no).set 34 (.int .i64 i)).set 35 x.dv, h := rdH j n S O t d }
theorem rd9_10 (no i : Nat) (n : Nat) (S O : List DV) (t x : Tr) (d : Int) (M : List Nat → St → Prop) : (vcOps cfg {} 48 44 (reg 48 9).toList (reg 48 9).toList (rdA no i x 10 n S O t d) (fun outs st => M (outs.flatMap (·.φ)) (keepT [4, 5, 7] [4, 5, 7, 29, 10] 44 st))) =
    (M [7] (mkS 44 [(4, DV.ptr 4 1 0 0), (5, DV.ptr 5 19 0 0), (7, DV.ptr 7 18 0 0)] [(4, Blk.box [DV.rsl 10 19 0 n]), (5, Blk.box [DV.int IntKind.i64 (Tr.kind t), DV.int IntKind.i64 (Tr.v t).kind, DV.int IntKind.i64 (Tr.v t).m, DV.int IntKind.i64 (Tr.v t).s, DV.str (Tr.v t).txt, DV.bool (Tr.v t).b, DV.int IntKind.i64 (Tr.v t).e, DV.int IntKind.i64 (Tr.a t).row, DV.int IntKind.i64 (Tr.a t).col, DV.bool (Tr.a t).rr, DV.bool (Tr.a t).rc, DV.int IntKind.i64 (Tr.b t).row, DV.int IntKind.i64 (Tr.b t).col, DV.bool (Tr.b t).rr, DV.bool (Tr.b t).rc, DV.int IntKind.i64 (Tr.sheet t), DV.int IntKind.i64 (Tr.op t), DV.psl 18 (Tr.encs (Tr.kids t)), DV.int IntKind.i64 d]), (7, Blk.box (Tr.cells x)), (10, Blk.row 19 S), (29, Blk.row 19 O)] [])) := by kernel_rfl
theorem rd9_43 (no i : Nat) (n : Nat) (S O : List DV) (t x : Tr) (d : Int) (M : List Nat → St → Prop) : (vcOps cfg {} 48 44 (reg 48 9).toList (reg 48 9).toList (rdA no i x 43 n S O t d) (fun outs st => M (outs.flatMap (·.φ)) (keepT [4, 5, 7] [4, 5, 7, 29, 43] 44 st))) =
    (M [7] (mkS 44 [(4, DV.ptr 4 1 0 0), (5, DV.ptr 5 19 0 0), (7, DV.ptr 7 18 0 0)] [(4, Blk.box [DV.rsl 43 19 0 n]), (5, Blk.box [DV.int IntKind.i64 (Tr.kind t), DV.int IntKind.i64 (Tr.v t).kind, DV.int IntKind.i64 (Tr.v t).m, DV.int IntKind.i64 (Tr.v t).s, DV.str (Tr.v t).txt, DV.bool (Tr.v t).b, DV.int IntKind.i64 (Tr.v t).e, DV.int IntKind.i64 (Tr.a t).row, DV.int IntKind.i64 (Tr.a t).col, DV.bool (Tr.a t).rr, DV.bool (Tr.a t).rc, DV.int IntKind.i64 (Tr.b t).row, DV.int IntKind.i64 (Tr.b t).col, DV.bool (Tr.b t).rr, DV.bool (Tr.b t).rc, DV.int IntKind.i64 (Tr.sheet t), DV.int IntKind.i64 (Tr.op t), DV.psl 18 (Tr.encs (Tr.kids t)), DV.int IntKind.i64 d]), (7, Blk.box (Tr.cells x)), (29, Blk.row 19 O), (43, Blk.row 19 S)] [])) := by kernel_rfl
theorem rd10_10 (n : Nat) (S O : List DV) (t x : Tr) (d : Int) (M : List Nat → St → Prop) : (vcOps cfg {} 48 44 (reg 48 10).toList (reg 48 10).toList (rdS 10 n S O t x d) (fun outs st => M (outs.flatMap (·.φ)) (keepT [] [4, 5, 29, 43] 44 st))) =
    (obB (inR IntKind.i64 (d + (1 : Int))) (obB (decide (0 + n ≤ List.length S)) (obB (roomy 160 (n + 1)) (M [10, 43] (mkS 44 [] [(4, Blk.box [DV.rsl 43 19 0 (n + 1)]), (5, Blk.box [DV.int IntKind.i64 (Tr.kind t), DV.int IntKind.i64 (Tr.v t).kind, DV.int IntKind.i64 (Tr.v t).m, DV.int IntKind.i64 (Tr.v t).s, DV.str (Tr.v t).txt, DV.bool (Tr.v t).b, DV.int IntKind.i64 (Tr.v t).e, DV.int IntKind.i64 (Tr.a t).row, DV.int IntKind.i64 (Tr.a t).col, DV.bool (Tr.a t).rr, DV.bool (Tr.a t).rc, DV.int IntKind.i64 (Tr.b t).row, DV.int IntKind.i64 (Tr.b t).col, DV.bool (Tr.b t).rr, DV.bool (Tr.b t).rc, DV.int IntKind.i64 (Tr.sheet t), DV.int IntKind.i64 (Tr.op t), DV.psl 18 (Tr.encs (Tr.kids t)), DV.int IntKind.i64 d]), (29, Blk.row 19 O), (43, Blk.row 19 (List.take n S ++ [DV.agg [DV.int IntKind.i64 (Tr.kind x), DV.int IntKind.i64 (Tr.v x).kind, DV.int IntKind.i64 (Tr.v x).m, DV.int IntKind.i64 (Tr.v x).s, DV.str (Tr.v x).txt, DV.bool (Tr.v x).b, DV.int IntKind.i64 (Tr.v x).e, DV.int IntKind.i64 (Tr.a x).row, DV.int IntKind.i64 (Tr.a x).col, DV.bool (Tr.a x).rr, DV.bool (Tr.a x).rc, DV.int IntKind.i64 (Tr.b x).row, DV.int IntKind.i64 (Tr.b x).col, DV.bool (Tr.b x).rr, DV.bool (Tr.b x).rc, DV.int IntKind.i64 (Tr.sheet x), DV.int IntKind.i64 (Tr.op x), DV.psl 18 (Tr.encs (Tr.kids x)), DV.int IntKind.i64 (d + (1 : Int))]]))] []))))) := by kernel_rfl
theorem rd10_43 (n : Nat) (S O : List DV) (t x : Tr) (d : Int) (M : List Nat → St → Prop) : (vcOps cfg {} 48 44 (reg 48 10).toList (reg 48 10).toList (rdS 43 n S O t x d) (fun outs st => M (outs.flatMap (·.φ)) (keepT [] [4, 5, 29, 43] 44 st))) =
    (obB (inR IntKind.i64 (d + (1 : Int))) (obB (decide (0 + n ≤ List.length S)) (obB (roomy 160 (n + 1)) (M [43, 43] (mkS 44 [] [(4, Blk.box [DV.rsl 43 19 0 (n + 1)]), (5, Blk.box [DV.int IntKind.i64 (Tr.kind t), DV.int IntKind.i64 (Tr.v t).kind, DV.int IntKind.i64 (Tr.v t).m, DV.int IntKind.i64 (Tr.v t).s, DV.str (Tr.v t).txt, DV.bool (Tr.v t).b, DV.int IntKind.i64 (Tr.v t).e, DV.int IntKind.i64 (Tr.a t).row, DV.int IntKind.i64 (Tr.a t).col, DV.bool (Tr.a t).rr, DV.bool (Tr.a t).rc, DV.int IntKind.i64 (Tr.b t).row, DV.int IntKind.i64 (Tr.b t).col, DV.bool (Tr.b t).rr, DV.bool (Tr.b t).rc, DV.int IntKind.i64 (Tr.sheet t), DV.int IntKind.i64 (Tr.op t), DV.psl 18 (Tr.encs (Tr.kids t)), DV.int IntKind.i64 d]), (29, Blk.row 19 O), (43, Blk.row 19 (List.take n S ++ [DV.agg [DV.int IntKind.i64 (Tr.kind x), DV.int IntKind.i64 (Tr.v x).kind, DV.int IntKind.i64 (Tr.v x).m, DV.int IntKind.i64 (Tr.v x).s, DV.str (Tr.v x).txt, DV.bool (Tr.v x).b, DV.int IntKind.i64 (Tr.v x).e, DV.int IntKind.i64 (Tr.a x).row, DV.int IntKind.i64 (Tr.a x).col, DV.bool (Tr.a x).rr, DV.bool (Tr.a x).rc, DV.int IntKind.i64 (Tr.b x).row, DV.int IntKind.i64 (Tr.b x).col, DV.bool (Tr.b x).rr, DV.bool (Tr.b x).rc, DV.int IntKind.i64 (Tr.sheet x), DV.int IntKind.i64 (Tr.op x), DV.psl 18 (Tr.encs (Tr.kids x)), DV.int IntKind.i64 (d + (1 : Int))]]))] []))))) := by kernel_rfl
end Go.Det.Sea
end

section
set_option linter.unusedVariables false
set_option linter.unusedSimpArgs false
namespace Go.Det.Sea
open Go Go.Det

def cutG (G : St → (Ex → St → Prop) → Prop) (ks bs : List Nat) (nt : Nat) : LSpec := fun st k => G (keepT ks bs nt st) k
noncomputable def c48 : Code := match codeOf cfg 48 with
  | .seq _ (.scope c) => c
  | _ => .skip
noncomputable def rest48 : Code := match findLabel c48 0 with
  | some c => c
  | none => .skip
theorem find48 : findLabel c48 0 = some rest48 := by kernel_rfl
theorem code48 : codeOf cfg 48 = .seq (.region 0 (reg 48 0) false) (.scope c48) := by kernel_rfl
noncomputable def tail48 : Code := .seq (.region 7 (reg 48 7) false) (.seq (.seq (.region 8 (reg 48 8) false) B048) (.goto 0))
def st1 (t : Tr) : St := mkS 44 [(1, .ptr 1 18 0 0), (2, .nilsl)] [(1, .box t.cells)] []
def hd (j n : Nat) (S : List DV) (no : Nat) (O : List DV) : St := mkS 44 [(3, .rsl 29 19 0 no), (4, .ptr 4 1 0 0)] [(4, .box [.rsl j 19 0 n]), (29, .row 19 O), (j, .row 19 S)] []
def E48 (G : St → (Ex → St → Prop) → Prop) (j : Nat) (t : Tr) (d : Int) : Env := { cu := [(7, cutG G [3, 4, 5] [4, 5, 29, j] 44)], an := [(20, ndv t d)] }
theorem w0v (t : Tr) (M : St → Prop) : (vcOps cfgS {} 48 44 (reg 48 0).toList (reg 48 0).toList { t := t.dv :: List.replicate 43 (.tup []), h := List.replicate 44 none } (fun outs st => M (keepT [1, 2] [1] 44 st))) =
    (M (mkS 44 [(1, DV.ptr 1 18 0 0), (2, DV.nilsl)] [(1, Blk.box (Tr.cells t))] [])) := by kernel_rfl
theorem w1v (t : Tr) (G : St → (Ex → St → Prop) → Prop) (K : Ex → St → Prop) : (vc cfgS (E48 G 10 t 1) 48 44 0 c48 (st1 t) K) =
    (some (DV.agg [DV.int IntKind.i64 (Tr.kind t), DV.int IntKind.i64 (Tr.v t).kind, DV.int IntKind.i64 (Tr.v t).m, DV.int IntKind.i64 (Tr.v t).s, DV.str (Tr.v t).txt, DV.bool (Tr.v t).b, DV.int IntKind.i64 (Tr.v t).e, DV.int IntKind.i64 (Tr.a t).row, DV.int IntKind.i64 (Tr.a t).col, DV.bool (Tr.a t).rr, DV.bool (Tr.a t).rc, DV.int IntKind.i64 (Tr.b t).row, DV.int IntKind.i64 (Tr.b t).col, DV.bool (Tr.b t).rr, DV.bool (Tr.b t).rc, DV.int IntKind.i64 (Tr.sheet t), DV.int IntKind.i64 (Tr.op t), DV.psl 18 (Tr.encs (Tr.kids t)), DV.int IntKind.i64 (1 : Int)]) = some (DV.agg [DV.int IntKind.i64 (Tr.kind t), DV.int IntKind.i64 (Tr.v t).kind, DV.int IntKind.i64 (Tr.v t).m, DV.int IntKind.i64 (Tr.v t).s, DV.str (Tr.v t).txt, DV.bool (Tr.v t).b, DV.int IntKind.i64 (Tr.v t).e, DV.int IntKind.i64 (Tr.a t).row, DV.int IntKind.i64 (Tr.a t).col, DV.bool (Tr.a t).rr, DV.bool (Tr.a t).rc, DV.int IntKind.i64 (Tr.b t).row, DV.int IntKind.i64 (Tr.b t).col, DV.bool (Tr.b t).rr, DV.bool (Tr.b t).rc, DV.int IntKind.i64 (Tr.sheet t), DV.int IntKind.i64 (Tr.op t), DV.psl 18 (Tr.encs (Tr.kids t)), DV.int IntKind.i64 (1 : Int)]) ∧ G (mkS 44 [(3, DV.nilsl), (4, DV.ptr 4 1 0 0), (5, DV.ptr 5 19 0 0)] [(4, Blk.box [DV.rsl 10 19 0 0]), (5, Blk.box [DV.int IntKind.i64 (Tr.kind t), DV.int IntKind.i64 (Tr.v t).kind, DV.int IntKind.i64 (Tr.v t).m, DV.int IntKind.i64 (Tr.v t).s, DV.str (Tr.v t).txt, DV.bool (Tr.v t).b, DV.int IntKind.i64 (Tr.v t).e, DV.int IntKind.i64 (Tr.a t).row, DV.int IntKind.i64 (Tr.a t).col, DV.bool (Tr.a t).rr, DV.bool (Tr.a t).rc, DV.int IntKind.i64 (Tr.b t).row, DV.int IntKind.i64 (Tr.b t).col, DV.bool (Tr.b t).rr, DV.bool (Tr.b t).rc, DV.int IntKind.i64 (Tr.sheet t), DV.int IntKind.i64 (Tr.op t), DV.psl 18 (Tr.encs (Tr.kids t)), DV.int IntKind.i64 (1 : Int)]), (10, Blk.row 19 [DV.agg [DV.int IntKind.i64 (Tr.kind t), DV.int IntKind.i64 (Tr.v t).kind, DV.int IntKind.i64 (Tr.v t).m, DV.int IntKind.i64 (Tr.v t).s, DV.str (Tr.v t).txt, DV.bool (Tr.v t).b, DV.int IntKind.i64 (Tr.v t).e, DV.int IntKind.i64 (Tr.a t).row, DV.int IntKind.i64 (Tr.a t).col, DV.bool (Tr.a t).rr, DV.bool (Tr.a t).rc, DV.int IntKind.i64 (Tr.b t).row, DV.int IntKind.i64 (Tr.b t).col, DV.bool (Tr.b t).rr, DV.bool (Tr.b t).rc, DV.int IntKind.i64 (Tr.sheet t), DV.int IntKind.i64 (Tr.op t), DV.psl 18 (Tr.encs (Tr.kids t)), DV.int IntKind.i64 (1 : Int)]])] []) K) := by kernel_rfl
theorem w10v (t : Tr) (d : Int) (n : Nat) (S : List DV) (no : Nat) (O : List DV) (G : St → (Ex → St → Prop) → Prop) (K : Ex → St → Prop) : (vc cfgS (E48 G 10 t d) 48 44 0 rest48 (hd 10 n S no O) K) =
    (brB ((↑n : Int) == (0 : Int)) (K Ex.ret (mkS 44 [(2, DV.rsl 29 19 0 no), (3, DV.rsl 29 19 0 no), (4, DV.ptr 4 1 0 0), (11, DV.rsl 10 19 0 n), (12, DV.int IntKind.i64 (↑n : Int)), (13, DV.bool ((↑n : Int) == (0 : Int))), (14, DV.rsl 29 19 0 no)] [(4, Blk.box [DV.rsl 10 19 0 n]), (10, Blk.row 19 S), (29, Blk.row 19 O)] [])) (obB (inR IntKind.i64 ((↑n : Int) - (1 : Int))) (obB (decide ((0 : Int) ≤ (↑n : Int) - (1 : Int))) (obB (decide (Int.toNat ((↑n : Int) - (1 : Int)) < n)) (S[0 + Int.toNat ((↑n : Int) - (1 : Int))]? = some (DV.agg [DV.int IntKind.i64 (Tr.kind t), DV.int IntKind.i64 (Tr.v t).kind, DV.int IntKind.i64 (Tr.v t).m, DV.int IntKind.i64 (Tr.v t).s, DV.str (Tr.v t).txt, DV.bool (Tr.v t).b, DV.int IntKind.i64 (Tr.v t).e, DV.int IntKind.i64 (Tr.a t).row, DV.int IntKind.i64 (Tr.a t).col, DV.bool (Tr.a t).rr, DV.bool (Tr.a t).rc, DV.int IntKind.i64 (Tr.b t).row, DV.int IntKind.i64 (Tr.b t).col, DV.bool (Tr.b t).rr, DV.bool (Tr.b t).rc, DV.int IntKind.i64 (Tr.sheet t), DV.int IntKind.i64 (Tr.op t), DV.psl 18 (Tr.encs (Tr.kids t)), DV.int IntKind.i64 d]) ∧ obB (inR IntKind.i64 ((↑n : Int) - (1 : Int))) (obB (decide ((0 : Int) ≤ (↑n : Int) - (1 : Int))) (obB (decide (Int.toNat ((↑n : Int) - (1 : Int)) ≤ n)) (G (mkS 44 [(3, DV.rsl 29 19 0 no), (4, DV.ptr 4 1 0 0), (5, DV.ptr 5 19 0 0)] [(4, Blk.box [DV.rsl 10 19 0 (Int.toNat ((↑n : Int) - (1 : Int)) - 0)]), (5, Blk.box [DV.int IntKind.i64 (Tr.kind t), DV.int IntKind.i64 (Tr.v t).kind, DV.int IntKind.i64 (Tr.v t).m, DV.int IntKind.i64 (Tr.v t).s, DV.str (Tr.v t).txt, DV.bool (Tr.v t).b, DV.int IntKind.i64 (Tr.v t).e, DV.int IntKind.i64 (Tr.a t).row, DV.int IntKind.i64 (Tr.a t).col, DV.bool (Tr.a t).rr, DV.bool (Tr.a t).rc, DV.int IntKind.i64 (Tr.b t).row, DV.int IntKind.i64 (Tr.b t).col, DV.bool (Tr.b t).rr, DV.bool (Tr.b t).rc, DV.int IntKind.i64 (Tr.sheet t), DV.int IntKind.i64 (Tr.op t), DV.psl 18 (Tr.encs (Tr.kids t)), DV.int IntKind.i64 d]), (10, Blk.row 19 S), (29, Blk.row 19 O)] []) K)))))))) := by kernel_rfl
theorem w43v (t : Tr) (d : Int) (n : Nat) (S : List DV) (no : Nat) (O : List DV) (G : St → (Ex → St → Prop) → Prop) (K : Ex → St → Prop) : (vc cfgS (E48 G 43 t d) 48 44 0 rest48 (hd 43 n S no O) K) =
    (brB ((↑n : Int) == (0 : Int)) (K Ex.ret (mkS 44 [(2, DV.rsl 29 19 0 no), (3, DV.rsl 29 19 0 no), (4, DV.ptr 4 1 0 0), (11, DV.rsl 43 19 0 n), (12, DV.int IntKind.i64 (↑n : Int)), (13, DV.bool ((↑n : Int) == (0 : Int))), (14, DV.rsl 29 19 0 no)] [(4, Blk.box [DV.rsl 43 19 0 n]), (29, Blk.row 19 O), (43, Blk.row 19 S)] [])) (obB (inR IntKind.i64 ((↑n : Int) - (1 : Int))) (obB (decide ((0 : Int) ≤ (↑n : Int) - (1 : Int))) (obB (decide (Int.toNat ((↑n : Int) - (1 : Int)) < n)) (S[0 + Int.toNat ((↑n : Int) - (1 : Int))]? = some (DV.agg [DV.int IntKind.i64 (Tr.kind t), DV.int IntKind.i64 (Tr.v t).kind, DV.int IntKind.i64 (Tr.v t).m, DV.int IntKind.i64 (Tr.v t).s, DV.str (Tr.v t).txt, DV.bool (Tr.v t).b, DV.int IntKind.i64 (Tr.v t).e, DV.int IntKind.i64 (Tr.a t).row, DV.int IntKind.i64 (Tr.a t).col, DV.bool (Tr.a t).rr, DV.bool (Tr.a t).rc, DV.int IntKind.i64 (Tr.b t).row, DV.int IntKind.i64 (Tr.b t).col, DV.bool (Tr.b t).rr, DV.bool (Tr.b t).rc, DV.int IntKind.i64 (Tr.sheet t), DV.int IntKind.i64 (Tr.op t), DV.psl 18 (Tr.encs (Tr.kids t)), DV.int IntKind.i64 d]) ∧ obB (inR IntKind.i64 ((↑n : Int) - (1 : Int))) (obB (decide ((0 : Int) ≤ (↑n : Int) - (1 : Int))) (obB (decide (Int.toNat ((↑n : Int) - (1 : Int)) ≤ n)) (G (mkS 44 [(3, DV.rsl 29 19 0 no), (4, DV.ptr 4 1 0 0), (5, DV.ptr 5 19 0 0)] [(4, Blk.box [DV.rsl 43 19 0 (Int.toNat ((↑n : Int) - (1 : Int)) - 0)]), (5, Blk.box [DV.int IntKind.i64 (Tr.kind t), DV.int IntKind.i64 (Tr.v t).kind, DV.int IntKind.i64 (Tr.v t).m, DV.int IntKind.i64 (Tr.v t).s, DV.str (Tr.v t).txt, DV.bool (Tr.v t).b, DV.int IntKind.i64 (Tr.v t).e, DV.int IntKind.i64 (Tr.a t).row, DV.int IntKind.i64 (Tr.a t).col, DV.bool (Tr.a t).rr, DV.bool (Tr.a t).rc, DV.int IntKind.i64 (Tr.b t).row, DV.int IntKind.i64 (Tr.b t).col, DV.bool (Tr.b t).rr, DV.bool (Tr.b t).rc, DV.int IntKind.i64 (Tr.sheet t), DV.int IntKind.i64 (Tr.op t), DV.psl 18 (Tr.encs (Tr.kids t)), DV.int IntKind.i64 d]), (29, Blk.row 19 O), (43, Blk.row 19 S)] []) K)))))))) := by kernel_rfl
end Go.Det.Sea
end

section
set_option linter.unusedVariables false
set_option linter.unusedSimpArgs false
namespace Go.Det.Sea
open Go Go.Det

def t7n (t : Tr) : St := mkS 44 [(3, .nilsl), (4, .ptr 4 1 0 0), (5, .ptr 5 19 0 0)] [(4, .box [.rsl 10 19 0 0]), (5, .box (t.cells ++ [.int .i64 1])), (10, .row 19 [ndv t 1])] []
def t7 (j n : Nat) (S : List DV) (no : Nat) (O : List DV) (t : Tr) (d : Int) : St := mkS 44 [(3, .rsl 29 19 0 no), (4, .ptr 4 1 0 0), (5, .ptr 5 19 0 0)] [(4, .box [.rsl j 19 0 n]), (5, .box (t.cells ++ [.int .i64 d])), (29, .row 19 O), (j, .row 19 S)] []
def t8 (j n : Nat) (S : List DV) (no : Nat) (O : List DV) (t : Tr) (d : Int) : St := mkS 44 [(3, .rsl 29 19 0 no), (4, .ptr 4 1 0 0), (5, .ptr 5 19 0 0), (33, backV (Tr.encs t.kids))] [(4, .box [.rsl j 19 0 n]), (5, .box (t.cells ++ [.int .i64 d])), (29, .row 19 O), (j, .row 19 S)] []
def E84 (t : Tr) : Env := { cs := [(84, callS [.psl 18 (Tr.encs t.kids)] (.fn (.func 127) [] [.eptr 1 [.psl 18 (Tr.encs t.kids)] 0 0]))] }
theorem r7n (t : Tr) (M : St → Prop) : (vcOps cfgS {} 48 44 (reg 48 7).toList (reg 48 7).toList (t7n t) (fun outs st => M (keepT [3, 4, 5] [4, 5, 10, 29] 44 st))) =
    (M (mkS 44 [(3, DV.rsl 29 19 0 1), (4, DV.ptr 4 1 0 0), (5, DV.ptr 5 19 0 0)] [(4, Blk.box [DV.rsl 10 19 0 0]), (5, Blk.box [DV.int IntKind.i64 (Tr.kind t), DV.int IntKind.i64 (Tr.v t).kind, DV.int IntKind.i64 (Tr.v t).m, DV.int IntKind.i64 (Tr.v t).s, DV.str (Tr.v t).txt, DV.bool (Tr.v t).b, DV.int IntKind.i64 (Tr.v t).e, DV.int IntKind.i64 (Tr.a t).row, DV.int IntKind.i64 (Tr.a t).col, DV.bool (Tr.a t).rr, DV.bool (Tr.a t).rc, DV.int IntKind.i64 (Tr.b t).row, DV.int IntKind.i64 (Tr.b t).col, DV.bool (Tr.b t).rr, DV.bool (Tr.b t).rc, DV.int IntKind.i64 (Tr.sheet t), DV.int IntKind.i64 (Tr.op t), DV.psl 18 (Tr.encs (Tr.kids t)), DV.int IntKind.i64 (1 : Int)]), (10, Blk.row 19 [DV.agg [DV.int IntKind.i64 (Tr.kind t), DV.int IntKind.i64 (Tr.v t).kind, DV.int IntKind.i64 (Tr.v t).m, DV.int IntKind.i64 (Tr.v t).s, DV.str (Tr.v t).txt, DV.bool (Tr.v t).b, DV.int IntKind.i64 (Tr.v t).e, DV.int IntKind.i64 (Tr.a t).row, DV.int IntKind.i64 (Tr.a t).col, DV.bool (Tr.a t).rr, DV.bool (Tr.a t).rc, DV.int IntKind.i64 (Tr.b t).row, DV.int IntKind.i64 (Tr.b t).col, DV.bool (Tr.b t).rr, DV.bool (Tr.b t).rc, DV.int IntKind.i64 (Tr.sheet t), DV.int IntKind.i64 (Tr.op t), DV.psl 18 (Tr.encs (Tr.kids t)), DV.int IntKind.i64 (1 : Int)]]), (29, Blk.row 19 [DV.agg [DV.int IntKind.i64 (Tr.kind t), DV.int IntKind.i64 (Tr.v t).kind, DV.int IntKind.i64 (Tr.v t).m, DV.int IntKind.i64 (Tr.v t).s, DV.str (Tr.v t).txt, DV.bool (Tr.v t).b, DV.int IntKind.i64 (Tr.v t).e, DV.int IntKind.i64 (Tr.a t).row, DV.int IntKind.i64 (Tr.a t).col, DV.bool (Tr.a t).rr, DV.bool (Tr.a t).rc, DV.int IntKind.i64 (Tr.b t).row, DV.int IntKind.i64 (Tr.b t).col, DV.bool (Tr.b t).rr, DV.bool (Tr.b t).rc, DV.int IntKind.i64 (Tr.sheet t), DV.int IntKind.i64 (Tr.op t), DV.psl 18 (Tr.encs (Tr.kids t)), DV.int IntKind.i64 (1 : Int)]])] [])) := by kernel_rfl
theorem r7_10 (n : Nat) (S : List DV) (no : Nat) (O : List DV) (t : Tr) (d : Int) (M : St → Prop) : (vcOps cfgS {} 48 44 (reg 48 7).toList (reg 48 7).toList (t7 10 n S no O t d) (fun outs st => M (keepT [3, 4, 5] [4, 5, 10, 29] 44 st))) =
    (obB (decide (0 + no ≤ List.length O)) (obB (roomy 160 (no + 1)) (M (mkS 44 [(3, DV.rsl 29 19 0 (no + 1)), (4, DV.ptr 4 1 0 0), (5, DV.ptr 5 19 0 0)] [(4, Blk.box [DV.rsl 10 19 0 n]), (5, Blk.box [DV.int IntKind.i64 (Tr.kind t), DV.int IntKind.i64 (Tr.v t).kind, DV.int IntKind.i64 (Tr.v t).m, DV.int IntKind.i64 (Tr.v t).s, DV.str (Tr.v t).txt, DV.bool (Tr.v t).b, DV.int IntKind.i64 (Tr.v t).e, DV.int IntKind.i64 (Tr.a t).row, DV.int IntKind.i64 (Tr.a t).col, DV.bool (Tr.a t).rr, DV.bool (Tr.a t).rc, DV.int IntKind.i64 (Tr.b t).row, DV.int IntKind.i64 (Tr.b t).col, DV.bool (Tr.b t).rr, DV.bool (Tr.b t).rc, DV.int IntKind.i64 (Tr.sheet t), DV.int IntKind.i64 (Tr.op t), DV.psl 18 (Tr.encs (Tr.kids t)), DV.int IntKind.i64 d]), (10, Blk.row 19 S), (29, Blk.row 19 (List.take no O ++ [DV.agg [DV.int IntKind.i64 (Tr.kind t), DV.int IntKind.i64 (Tr.v t).kind, DV.int IntKind.i64 (Tr.v t).m, DV.int IntKind.i64 (Tr.v t).s, DV.str (Tr.v t).txt, DV.bool (Tr.v t).b, DV.int IntKind.i64 (Tr.v t).e, DV.int IntKind.i64 (Tr.a t).row, DV.int IntKind.i64 (Tr.a t).col, DV.bool (Tr.a t).rr, DV.bool (Tr.a t).rc, DV.int IntKind.i64 (Tr.b t).row, DV.int IntKind.i64 (Tr.b t).col, DV.bool (Tr.b t).rr, DV.bool (Tr.b t).rc, DV.int IntKind.i64 (Tr.sheet t), DV.int IntKind.i64 (Tr.op t), DV.psl 18 (Tr.encs (Tr.kids t)), DV.int IntKind.i64 d]]))] [])))) := by kernel_rfl
theorem r7_43 (n : Nat) (S : List DV) (no : Nat) (O : List DV) (t : Tr) (d : Int) (M : St → Prop) : (vcOps cfgS {} 48 44 (reg 48 7).toList (reg 48 7).toList (t7 43 n S no O t d) (fun outs st => M (keepT [3, 4, 5] [4, 5, 29, 43] 44 st))) =
    (obB (decide (0 + no ≤ List.length O)) (obB (roomy 160 (no + 1)) (M (mkS 44 [(3, DV.rsl 29 19 0 (no + 1)), (4, DV.ptr 4 1 0 0), (5, DV.ptr 5 19 0 0)] [(4, Blk.box [DV.rsl 43 19 0 n]), (5, Blk.box [DV.int IntKind.i64 (Tr.kind t), DV.int IntKind.i64 (Tr.v t).kind, DV.int IntKind.i64 (Tr.v t).m, DV.int IntKind.i64 (Tr.v t).s, DV.str (Tr.v t).txt, DV.bool (Tr.v t).b, DV.int IntKind.i64 (Tr.v t).e, DV.int IntKind.i64 (Tr.a t).row, DV.int IntKind.i64 (Tr.a t).col, DV.bool (Tr.a t).rr, DV.bool (Tr.a t).rc, DV.int IntKind.i64 (Tr.b t).row, DV.int IntKind.i64 (Tr.b t).col, DV.bool (Tr.b t).rr, DV.bool (Tr.b t).rc, DV.int IntKind.i64 (Tr.sheet t), DV.int IntKind.i64 (Tr.op t), DV.psl 18 (Tr.encs (Tr.kids t)), DV.int IntKind.i64 d]), (29, Blk.row 19 (List.take no O ++ [DV.agg [DV.int IntKind.i64 (Tr.kind t), DV.int IntKind.i64 (Tr.v t).kind, DV.int IntKind.i64 (Tr.v t).m, DV.int IntKind.i64 (Tr.v t).s, DV.str (Tr.v t).txt, DV.bool (Tr.v t).b, DV.int IntKind.i64 (Tr.v t).e, DV.int IntKind.i64 (Tr.a t).row, DV.int IntKind.i64 (Tr.a t).col, DV.bool (Tr.a t).rr, DV.bool (Tr.a t).rc, DV.int IntKind.i64 (Tr.b t).row, DV.int IntKind.i64 (Tr.b t).col, DV.bool (Tr.b t).rr, DV.bool (Tr.b t).rc, DV.int IntKind.i64 (Tr.sheet t), DV.int IntKind.i64 (Tr.op t), DV.psl 18 (Tr.encs (Tr.kids t)), DV.int IntKind.i64 d]])), (43, Blk.row 19 S)] [])))) := by kernel_rfl
theorem r8_10 (n : Nat) (S : List DV) (no : Nat) (O : List DV) (t : Tr) (d : Int) (M : St → Prop) : (vcOps cfgS (E84 t) 48 44 (reg 48 8).toList (reg 48 8).toList (t7 10 n S no O t d) (fun outs st => M (keepT [3, 4, 5, 33] [4, 5, 10, 29] 44 st))) =
    ([DV.psl 18 (Tr.encs (Tr.kids t))] = [DV.psl 18 (Tr.encs (Tr.kids t))] ∧ M (mkS 44 [(3, DV.rsl 29 19 0 no), (4, DV.ptr 4 1 0 0), (5, DV.ptr 5 19 0 0), (33, DV.fn (Fn.func (127 : FuncId)) [] [DV.eptr 1 [DV.psl 18 (Tr.encs (Tr.kids t))] 0 0])] [(4, Blk.box [DV.rsl 10 19 0 n]), (5, Blk.box [DV.int IntKind.i64 (Tr.kind t), DV.int IntKind.i64 (Tr.v t).kind, DV.int IntKind.i64 (Tr.v t).m, DV.int IntKind.i64 (Tr.v t).s, DV.str (Tr.v t).txt, DV.bool (Tr.v t).b, DV.int IntKind.i64 (Tr.v t).e, DV.int IntKind.i64 (Tr.a t).row, DV.int IntKind.i64 (Tr.a t).col, DV.bool (Tr.a t).rr, DV.bool (Tr.a t).rc, DV.int IntKind.i64 (Tr.b t).row, DV.int IntKind.i64 (Tr.b t).col, DV.bool (Tr.b t).rr, DV.bool (Tr.b t).rc, DV.int IntKind.i64 (Tr.sheet t), DV.int IntKind.i64 (Tr.op t), DV.psl 18 (Tr.encs (Tr.kids t)), DV.int IntKind.i64 d]), (10, Blk.row 19 S), (29, Blk.row 19 O)] [])) := by kernel_rfl
theorem r8_43 (n : Nat) (S : List DV) (no : Nat) (O : List DV) (t : Tr) (d : Int) (M : St → Prop) : (vcOps cfgS (E84 t) 48 44 (reg 48 8).toList (reg 48 8).toList (t7 43 n S no O t d) (fun outs st => M (keepT [3, 4, 5, 33] [4, 5, 29, 43] 44 st))) =
    ([DV.psl 18 (Tr.encs (Tr.kids t))] = [DV.psl 18 (Tr.encs (Tr.kids t))] ∧ M (mkS 44 [(3, DV.rsl 29 19 0 no), (4, DV.ptr 4 1 0 0), (5, DV.ptr 5 19 0 0), (33, DV.fn (Fn.func (127 : FuncId)) [] [DV.eptr 1 [DV.psl 18 (Tr.encs (Tr.kids t))] 0 0])] [(4, Blk.box [DV.rsl 43 19 0 n]), (5, Blk.box [DV.int IntKind.i64 (Tr.kind t), DV.int IntKind.i64 (Tr.v t).kind, DV.int IntKind.i64 (Tr.v t).m, DV.int IntKind.i64 (Tr.v t).s, DV.str (Tr.v t).txt, DV.bool (Tr.v t).b, DV.int IntKind.i64 (Tr.v t).e, DV.int IntKind.i64 (Tr.a t).row, DV.int IntKind.i64 (Tr.a t).col, DV.bool (Tr.a t).rr, DV.bool (Tr.a t).rc, DV.int IntKind.i64 (Tr.b t).row, DV.int IntKind.i64 (Tr.b t).col, DV.bool (Tr.b t).rr, DV.bool (Tr.b t).rc, DV.int IntKind.i64 (Tr.sheet t), DV.int IntKind.i64 (Tr.op t), DV.psl 18 (Tr.encs (Tr.kids t)), DV.int IntKind.i64 d]), (29, Blk.row 19 O), (43, Blk.row 19 S)] [])) := by kernel_rfl
noncomputable def fi48 : Fi := match cfgS.F 48 with
  | some f => f
  | none => ⟨0, [], .skip⟩
theorem retv (no : Nat) (O : List DV) (Φ : DV → List Blk → Prop) : (endsP cfgS fi48 [] Φ .ret (mkS 44 [(2, .rsl 29 19 0 no)] [(29, .row 19 O)] [])) =
    (obB (decide (0 + no ≤ List.length O)) (Φ (DV.psl 19 (List.take no O)) [])) := by kernel_rfl
theorem rests_n : nodupK (rests rest48) = true := by kernel_rfl
theorem rests_7 : look 7 (rests rest48) = some tail48 := by kernel_rfl
theorem restc_n : nodupK (rests c48) = true := by kernel_rfl
theorem restc_7 : look 7 (rests c48) = some tail48 := by kernel_rfl
theorem loops_r : loops 0 rest48 = [] := by kernel_rfl
theorem loops_c : loops 0 c48 = [] := by kernel_rfl
theorem fi48_ok : cfgS.F 48 = some fi48 := by kernel_rfl
theorem fi48_code : fi48.code = .seq (.region 0 (reg 48 0) false) (.scope c48) := by kernel_rfl
theorem fi48_nt : fi48.nt = 44 := by kernel_rfl
end Go.Det.Sea
end

section
set_option linter.unusedVariables false
set_option linter.unusedSimpArgs false
namespace Go.Det.Sea
open Go Go.Det

theorem E0n : EnvOK cfg NoP NoP {} := envOK trivial trivial trivial
def Is2 (φ0 : List Nat) (s0 : St) (φ : List Nat) (s : St) : Prop := φ = φ0 ∧ s = s0
theorem go2 {C : Cfg} {Pr Ow : Nat → List DV → DV → Prop} {E : Env} (H : EnvOK C Pr Ow E) {f nt nt2 : Nat} {os l : List Oper} {st s0 : St} {φ0 ks bs : List Nat} (h : vcOps C E f nt os l st (fun outs st => Is2 φ0 s0 (outs.flatMap (·.φ)) (keepT ks bs nt2 st))) :
    ∃ outs s, Run C Pr Ow (.ops f nt os l st outs s) ∧ outs.flatMap (·.φ) = φ0 ∧ keepT ks bs nt2 s = s0 := by
  obtain ⟨outs, s, h1, h2, h3⟩ := vcOps_ok H h
  exact ⟨outs, s, h1, h2, h3⟩
theorem ments_rdT (no : Nat) : mentsL (rdT no) = [29, 4, 5] := by kernel_rfl
theorem rdS10 (n : Nat) (S O : List DV) (t x : Tr) (d : Int) : rdS 10 n S O t x d = mkS 44 [(4, .ptr 4 1 0 0), (5, .ptr 5 19 0 0), (7, .ptr 7 18 0 0)] [(4, .box [.rsl 10 19 0 n]), (5, .box (t.cells ++ [.int .i64 d])), (7, .box x.cells), (10, .row 19 S), (29, .row 19 O)] [] := by kernel_rfl
theorem rdS43 (n : Nat) (S O : List DV) (t x : Tr) (d : Int) : rdS 43 n S O t x d = mkS 44 [(4, .ptr 4 1 0 0), (5, .ptr 5 19 0 0), (7, .ptr 7 18 0 0)] [(4, .box [.rsl 43 19 0 n]), (5, .box (t.cells ++ [.int .i64 d])), (7, .box x.cells), (29, .row 19 O), (43, .row 19 S)] [] := by kernel_rfl
def rdE (n : Nat) (S O : List DV) (t x : Tr) (d : Int) : St := mkS 44 [] [(4, .box [.rsl 43 19 0 (n + 1)]), (5, .box (t.cells ++ [.int .i64 d])), (29, .row 19 O), (43, .row 19 (S.take n ++ [ndv x (d + 1)]))] []
theorem rdE_h (n : Nat) (S O : List DV) (t x : Tr) (d : Int) : (rdE n S O t x d).h = rdH 43 (n + 1) (S.take n ++ [ndv x (d + 1)]) O t d := by kernel_rfl

theorem round_h {j : Nat} (hj : j = 10 ∨ j = 43) (no n i : Nat) (S O : List DV) (t x : Tr) (d : Int) (hn : n ≤ S.length) (hl : n ≤ 4000000) (hd : -1000000000 ≤ d ∧ d ≤ 1000000000) :
    GoO cfg NoP NoP 48 44 (reg 48 9).toList (reg 48 9).toList (rdA no i x j n S O t d) fun outs1 s1 => ∃ s1', Weaker s1 s1' ∧
      GoO cfg NoP NoP 48 44 (reg 48 10).toList (reg 48 10).toList s1' fun outs2 s2 => (∀ b ∈ outs1.flatMap (·.φ) ++ outs2.flatMap (·.φ), b < 44 ∧ b ∉ mentsL (rdT no)) ∧
        ∃ h', (∀ b x, hget h' b = some x → hget s2.h b = some x) ∧ h' = rdH 43 (n + 1) (S.take n ++ [ndv x (d + 1)]) O t d := by
  have ob : ∀ M : List Nat → St → Prop, (∃ φ, M φ (rdE n S O t x d) ∧ φ = [j, 43]) → obB (inR IntKind.i64 (d + (1 : Int))) (obB (decide (0 + n ≤ List.length S)) (obB (roomy 160 (n + 1)) (M [j, 43] (rdE n S O t x d)))) := by
    rintro M ⟨φ, h, rfl⟩
    exact obB_of (inR64 (by omega)) (obB_of (decide_eq_true (by omega)) (obB_of (roomy_of (by omega) (by omega)) h))
  have fin : ∀ outs1 outs2 : List Out, outs1.flatMap (·.φ) = [7] → outs2.flatMap (·.φ) = [j, 43] → ∀ b ∈ outs1.flatMap (·.φ) ++ outs2.flatMap (·.φ), b < 44 ∧ b ∉ mentsL (rdT no) := by
    intro o1 o2 h1 h2 b hb
    rw [h1, h2] at hb
    rw [ments_rdT]
    rcases hj with rfl | rfl <;> (simp at hb ⊢; omega)
  rcases hj with rfl | rfl
  · obtain ⟨outs1, s1, r1, e1, e2⟩ : ∃ outs s, Run cfg NoP NoP (.ops 48 44 (reg 48 9).toList (reg 48 9).toList (rdA no i x 10 n S O t d) outs s) ∧ outs.flatMap (·.φ) = [7] ∧ keepT [4, 5, 7] [4, 5, 7, 29, 10] 44 s = rdS 10 n S O t x d :=
      go2 E0n (by
        rw [rd9_10 no i n S O t x d (Is2 [7] (rdS 10 n S O t x d))]
        exact ⟨rfl, (rdS10 ..).symm⟩)
    refine ⟨outs1, s1, r1, rdS 10 n S O t x d, e2 ▸ keepT_weaker [4, 5, 7] [4, 5, 7, 29, 10] 44 s1, ?_⟩
    obtain ⟨outs2, s2, r2, e3, e4⟩ : ∃ outs s, Run cfg NoP NoP (.ops 48 44 (reg 48 10).toList (reg 48 10).toList (rdS 10 n S O t x d) outs s) ∧ outs.flatMap (·.φ) = [10, 43] ∧ keepT [] [4, 5, 29, 43] 44 s = rdE n S O t x d :=
      go2 E0n (by
        rw [rd10_10 n S O t x d (Is2 [10, 43] (rdE n S O t x d))]
        exact ob _ ⟨_, ⟨rfl, rfl⟩, rfl⟩)
    exact ⟨outs2, s2, r2, fin _ _ e1 e3, _, (keepT_weaker [] [4, 5, 29, 43] 44 s2).heap, by rw [e4, rdE_h]⟩
  · obtain ⟨outs1, s1, r1, e1, e2⟩ : ∃ outs s, Run cfg NoP NoP (.ops 48 44 (reg 48 9).toList (reg 48 9).toList (rdA no i x 43 n S O t d) outs s) ∧ outs.flatMap (·.φ) = [7] ∧ keepT [4, 5, 7] [4, 5, 7, 29, 43] 44 s = rdS 43 n S O t x d :=
      go2 E0n (by
        rw [rd9_43 no i n S O t x d (Is2 [7] (rdS 43 n S O t x d))]
        exact ⟨rfl, (rdS43 ..).symm⟩)
    refine ⟨outs1, s1, r1, rdS 43 n S O t x d, e2 ▸ keepT_weaker [4, 5, 7] [4, 5, 7, 29, 43] 44 s1, ?_⟩
    obtain ⟨outs2, s2, r2, e3, e4⟩ : ∃ outs s, Run cfg NoP NoP (.ops 48 44 (reg 48 10).toList (reg 48 10).toList (rdS 43 n S O t x d) outs s) ∧ outs.flatMap (·.φ) = [43, 43] ∧ keepT [] [4, 5, 29, 43] 44 s = rdE n S O t x d :=
      go2 E0n (by
        rw [rd10_43 n S O t x d (Is2 [43, 43] (rdE n S O t x d))]
        exact ob _ ⟨_, ⟨rfl, rfl⟩, rfl⟩)
    exact ⟨outs2, s2, r2, fin _ _ e1 e3, _, (keepT_weaker [] [4, 5, 29, 43] 44 s2).heap, by rw [e4, rdE_h]⟩
end Go.Det.Sea
end

section
set_option linter.unusedVariables false
set_option linter.unusedSimpArgs false
namespace Go.Det
mutual
/-- All parts of a tree with their depth, each ahead of its kids, from the left. -/
def Tr.pre : Tr → Int → List (Tr × Int)
  | .mk k v a b s o ks, d => (.mk k v a b s o ks, d) :: Tr.pres ks (d + 1)
def Tr.pres : List Tr → Int → List (Tr × Int)
  | [], _ => []
  | t :: l, d => t.pre d ++ Tr.pres l d
end
theorem Tr.pre_eq (t : Tr) (d : Int) : t.pre d = (t, d) :: Tr.pres t.kids (d + 1) := by cases t; rfl
end Go.Det
namespace Go.Det.Sea
open Go Go.Det
def rem (σ : List (Tr × Int)) : List (Tr × Int) := σ.reverse.flatMap fun p => p.1.pre p.2
theorem pres_eq (l : List Tr) (d : Int) : Tr.pres l d = (l.map fun x => (x, d)).flatMap fun p => p.1.pre p.2 := by
  induction l with
  | nil => rfl
  | cons t l ih => simp [Tr.pres, ih]
theorem rem_push (σ0 : List (Tr × Int)) (kids : List Tr) (d : Int) : rem (σ0 ++ kids.reverse.map fun x => (x, d)) = Tr.pres kids d ++ rem σ0 := by
  unfold rem
  rw [List.reverse_append, List.flatMap_append, ← List.map_reverse, List.reverse_reverse, pres_eq]
theorem rem_pop (σ0 : List (Tr × Int)) (t : Tr) (d : Int) : rem (σ0 ++ [(t, d)]) = (t, d) :: (Tr.pres t.kids (d + 1) ++ rem σ0) := by
  unfold rem
  rw [List.reverse_append]
  simp [Tr.pre_eq]
def tot (σ : List (Tr × Int)) : Nat := (σ.map fun p => p.1.count).sum
theorem tot_append (a b : List (Tr × Int)) : tot (a ++ b) = tot a + tot b := by simp [tot]
theorem tot_rev : ∀ (a : List (Tr × Int)), tot a.reverse = tot a
  | [] => rfl
  | p :: a => by rw [List.reverse_cons, tot_append, tot_rev a]; simp [tot]; omega
theorem tot_map : ∀ (kids : List Tr) (d : Int), tot (kids.map fun x => (x, d)) = Tr.counts kids
  | [], _ => rfl
  | t :: l, d => by
    have := tot_map l d
    simp only [tot, List.map_cons, List.sum_cons, Tr.counts] at this ⊢
    omega
theorem tot_kids (kids : List Tr) (d : Int) : tot (kids.reverse.map fun x => (x, d)) = Tr.counts kids := by
  rw [List.map_reverse, tot_rev, tot_map]
theorem jj {j : Nat} (hj : j = 10 ∨ j = 43) (c : Prop) [Decidable c] : (if c then j else 43) = 10 ∨ (if c then j else 43) = 43 := by
  split
  · exact hj
  · exact .inr rfl
theorem len_tot : ∀ (σ : List (Tr × Int)), σ.length ≤ tot σ
  | [] => Nat.zero_le _
  | p :: σ => by
    have := len_tot σ
    have := Tr.count_eq p.1
    simp only [tot, List.map_cons, List.sum_cons, List.length_cons] at *
    omega
theorem nds_append (a b : List (Tr × Int)) : nds (a ++ b) = nds a ++ nds b := List.map_append ..
theorem take_rev (kids : List Tr) (d : Int) {k i : Nat} (h : i + k + 1 = kids.length) : ((kids.reverse.take (k + 1)).map fun x => (x, d)) = ((kids.reverse.take k).map fun x => (x, d)) ++ [(kids.getD i default, d)] := by
  have hk : k < kids.reverse.length := by simp; omega
  rw [List.take_succ_eq_append_getElem hk, List.map_append]
  congr 1
  simp only [List.map_cons, List.map_nil, List.getElem_reverse]
  have e : kids.length - 1 - k = i := by omega
  simp only [e]
  rw [List.getD_eq_getElem?_getD, List.getElem?_eq_getElem (by omega)]
  rfl

theorem w8_10 (n : Nat) (S : List DV) (no : Nat) (O : List DV) (t : Tr) (d : Int) : keepT [3, 4, 5] [4, 5, 10, 29] 44 (t8 10 n S no O t d) = { t := rdT no, h := rdH 10 n S O t d } := by kernel_rfl
theorem w8_43 (n : Nat) (S : List DV) (no : Nat) (O : List DV) (t : Tr) (d : Int) : keepT [3, 4, 5] [4, 5, 29, 43] 44 (t8 43 n S no O t d) = { t := rdT no, h := rdH 43 n S O t d } := by kernel_rfl
theorem wh_10 (n : Nat) (S : List DV) (no : Nat) (O : List DV) (t : Tr) (d : Int) : keepT [3, 4] [4, 10, 29] 44 { t := rdT no, h := rdH 10 n S O t d } = hd 10 n S no O := by kernel_rfl
theorem wh_43 (n : Nat) (S : List DV) (no : Nat) (O : List DV) (t : Tr) (d : Int) : keepT [3, 4] [4, 29, 43] 44 { t := rdT no, h := rdH 43 n S O t d } = hd 43 n S no O := by kernel_rfl
theorem w8 {j : Nat} (hj : j = 10 ∨ j = 43) (n : Nat) (S : List DV) (no : Nat) (O : List DV) (t : Tr) (d : Int) : Weaker (t8 j n S no O t d) { t := rdT no, h := rdH j n S O t d } := by
  rcases hj with rfl | rfl
  · rw [← w8_10]; exact keepT_weaker _ _ _ _
  · rw [← w8_43]; exact keepT_weaker _ _ _ _
theorem wh {j : Nat} (hj : j = 10 ∨ j = 43) (n : Nat) (S : List DV) (no : Nat) (O : List DV) (t : Tr) (d : Int) : Weaker { t := rdT no, h := rdH j n S O t d } (hd j n S no O) := by
  rcases hj with rfl | rfl
  · rw [← wh_10 n S no O t d]; exact keepT_weaker _ _ _ _
  · rw [← wh_43 n S no O t d]; exact keepT_weaker _ _ _ _
theorem t8_33 {j : Nat} (n : Nat) (S : List DV) (no : Nat) (O : List DV) (t : Tr) (d : Int) : sget (t8 j n S no O t d).t 33 = backV (Tr.encs t.kids) := rfl

/-- The heap behind k rounds. -/
def Rk (j n : Nat) (S : List DV) (σ0 : List (Tr × Int)) (O : List DV) (t : Tr) (d : Int) (k : Nat) : Heap :=
  rdH (if k = 0 then j else 43) (n + k) (if k = 0 then S else nds (σ0 ++ (t.kids.reverse.take k).map fun x => (x, d + 1))) O t d

theorem goS {C : Cfg} {Pr Ow : Nat → List DV → DV → Prop} {E : Env} (H : EnvOK C Pr Ow E) {f nt nt2 : Nat} {os l : List Oper} {st s0 : St} {ks bs : List Nat} (h : vcOps C E f nt os l st (fun outs st => IsS s0 (keepT ks bs nt2 st))) :
    GoO C Pr Ow f nt os l st fun _ s => ∃ s2, Weaker s s2 ∧ s2 = s0 := by
  obtain ⟨outs, s, h1, h2⟩ := vcOps_ok H h
  exact ⟨outs, s, h1, _, keepT_weaker _ _ _ _, h2⟩
section
variable {Pr Ow : Nat → List DV → DV → Prop}
theorem S48_at {j : Nat} (hj : j = 10 ∨ j = 43) {n : Nat} {S : List DV} (no : Nat) (O : List DV) (t : Tr) (d : Int) {σ0 : List (Tr × Int)} (hn : n = σ0.length) (hS : S.take n = nds σ0) (hb : n + t.count ≤ 1000000) (hd1 : 0 ≤ d ∧ d ≤ 1000000) :
    S48 48 44 B048 (t8 j n S no O t d) .normal (hd (if t.kids.length = 0 then j else 43) (n + t.kids.length) (if t.kids.length = 0 then S else nds (σ0 ++ (t.kids.reverse.take t.kids.length).map fun x => (x, d + 1))) no O) := by
  have hkc := kids_count t
  have hSl : n ≤ S.length := by
    have := congrArg List.length hS
    rw [List.length_take, nds_len] at this
    omega
  have hSk : ∀ k, k ≤ t.kids.length → List.take (n + k) (if k = 0 then S else nds (σ0 ++ (t.kids.reverse.take k).map fun x => (x, d + 1))) = nds (σ0 ++ (t.kids.reverse.take k).map fun x => (x, d + 1)) := by
    intro k hk
    by_cases h0 : k = 0
    · subst h0; simp [hS]
    · rw [if_neg h0]
      exact List.take_of_length_le (by rw [nds_len]; simp; omega)
  refine ⟨rfl, rfl, rfl, rfl, t.kids, rdT no, rdH j n S O t d, fun k h => h = Rk j n S σ0 O t d k, by omega, t8_33 .., w8 hj .., rfl, fun k i hik => ?_, fun h hh => ?_⟩
  · rintro h rfl
    have hjk : (if k = 0 then j else 43) = 10 ∨ (if k = 0 then j else 43) = 43 := jj hj _
    have hlen : n + k ≤ (if k = 0 then S else nds (σ0 ++ (t.kids.reverse.take k).map fun x => (x, d + 1))).length := by
      have := congrArg List.length (hSk k (by omega))
      rw [List.length_take, nds_len, List.length_append, List.length_map, List.length_take, List.length_reverse] at this
      omega
    have key := round_h hjk no (n + k) i (if k = 0 then S else nds (σ0 ++ (t.kids.reverse.take k).map fun x => (x, d + 1))) O t (t.kids.getD i default) d hlen (by omega) ⟨by omega, by omega⟩
    rw [hSk k (by omega)] at key
    have e : rdH 43 (n + k + 1) (nds (σ0 ++ (t.kids.reverse.take k).map fun x => (x, d + 1)) ++ [ndv (t.kids.getD i default) (d + 1)]) O t d = Rk j n S σ0 O t d (k + 1) := by
      unfold Rk
      rw [if_neg (by omega), if_neg (by omega), take_rev t.kids (d + 1) hik, ← List.append_assoc, nds_append (σ0 ++ _)]
      rfl
    rw [e] at key
    exact key
  · subst hh
    exact wh (jj hj _) ..

/-- From the call of Backward on. -/
theorem tail8 (hPr : ∀ es, Pr 84 [.psl 18 es] (backV es)) {j : Nat} (hj : j = 10 ∨ j = 43) {n : Nat} {S : List DV} {no : Nat} {O : List DV} {t : Tr} {d : Int} {σ0 : List (Tr × Int)} (hn : n = σ0.length) (hS : S.take n = nds σ0) (hb : n + t.count ≤ 1000000) (hd1 : 0 ≤ d ∧ d ≤ 1000000) {Q : Ex → St → Prop}
    (hQ : ∀ j' S', (j' = 10 ∨ j' = 43) → S'.take (σ0 ++ t.kids.reverse.map fun x => (x, d + 1)).length = nds (σ0 ++ t.kids.reverse.map fun x => (x, d + 1)) → Q (.goto 0) (hd j' (σ0 ++ t.kids.reverse.map fun x => (x, d + 1)).length S' no O)) :
    GoX cfgS Pr Ow 48 44 (.seq (.seq (.region 8 (reg 48 8) false) B048) (.goto 0)) (t7 j n S no O t d) Q := by
  have hE : EnvOK cfgS Pr Ow (E84 t) := envOK ⟨callS_ok fun Φ h => go_prim (hPr _) h, trivial⟩ trivial trivial
  have key : GoO cfgS Pr Ow 48 44 (reg 48 8).toList (reg 48 8).toList (t7 j n S no O t d) fun _ s => ∃ s2, Weaker s s2 ∧ s2 = t8 j n S no O t d := by
    rcases hj with rfl | rfl
    · exact goS hE (ks := [3, 4, 5, 33]) (bs := [4, 5, 10, 29]) (nt2 := 44) (by
        rw [r8_10 n S no O t d (IsS (t8 10 n S no O t d))]
        exact ⟨rfl, by unfold IsS; kernel_rfl⟩)
    · exact goS hE (ks := [3, 4, 5, 33]) (bs := [4, 5, 29, 43]) (nt2 := 44) (by
        rw [r8_43 n S no O t d (IsS (t8 43 n S no O t d))]
        exact ⟨rfl, by unfold IsS; kernel_rfl⟩)
  refine go_seq (go_seq (go_region ?_))
  obtain ⟨outs, s, hr, s2, hw, rfl⟩ := key
  refine ⟨outs, s, hr, ?_⟩
  refine go_weak hw (go_sem (st' := hd (if t.kids.length = 0 then j else 43) (n + t.kids.length) (if t.kids.length = 0 then S else nds (σ0 ++ (t.kids.reverse.take t.kids.length).map fun x => (x, d + 1))) no O) (e := .normal) ?_ ?_)
  · rw [semS]; exact S48_at hj no O t d hn hS hb hd1
  · have e : n + t.kids.length = (σ0 ++ t.kids.reverse.map fun x => (x, d + 1)).length := by simp [hn]
    rw [e]
    refine go_goto (hQ _ _ (jj hj _) ?_)
    by_cases h0 : t.kids.length = 0
    · rw [if_pos h0]
      have : t.kids = [] := List.length_eq_zero_iff.1 h0
      simp [this, ← hn, hS]
    · rw [if_neg h0]
      have : t.kids.reverse.take t.kids.length = t.kids.reverse := List.take_of_length_le (by simp)
      rw [this]
      exact List.take_of_length_le (by rw [nds_len]; exact Nat.le_refl _)
end
end Go.Det.Sea
end

section
set_option linter.unusedVariables false
set_option linter.unusedSimpArgs false
namespace Go.Det.Sea
open Go Go.Det

section
variable {Pr Ow : Nat → List DV → DV → Prop}
theorem ndv_eq (t : Tr) (d : Int) : ndv t d = .agg (t.cells ++ [.int .i64 d]) := rfl
theorem t7e_10 (n : Nat) (S : List DV) (no : Nat) (O : List DV) (t : Tr) (d : Int) : t7 10 n S no O t d = mkS 44 [(3, .rsl 29 19 0 no), (4, .ptr 4 1 0 0), (5, .ptr 5 19 0 0)] [(4, .box [.rsl 10 19 0 n]), (5, .box (t.cells ++ [.int .i64 d])), (10, .row 19 S), (29, .row 19 O)] [] := by kernel_rfl
/-- From the copy to the result on. -/
theorem tail7 (hPr : ∀ es, Pr 84 [.psl 18 es] (backV es)) {j : Nat} (hj : j = 10 ∨ j = 43) {n : Nat} {S : List DV} {ω : List (Tr × Int)} {t : Tr} {d : Int} {σ0 : List (Tr × Int)} (hn : n = σ0.length) (hS : S.take n = nds σ0) (hb : ω.length + n + t.count ≤ 1000000) (hd1 : 0 ≤ d ∧ d ≤ 1000000) {Q : Ex → St → Prop}
    (hQ : ∀ j' S', (j' = 10 ∨ j' = 43) → S'.take (σ0 ++ t.kids.reverse.map fun x => (x, d + 1)).length = nds (σ0 ++ t.kids.reverse.map fun x => (x, d + 1)) → Q (.goto 0) (hd j' (σ0 ++ t.kids.reverse.map fun x => (x, d + 1)).length S' (ω ++ [(t, d)]).length (nds (ω ++ [(t, d)])))) :
    GoX cfgS Pr Ow 48 44 tail48 (t7 j n S ω.length (nds ω) t d) Q := by
  have ob : ∀ M : St → Prop, M (t7 j n S (ω.length + 1) (nds ω ++ [ndv t d]) t d) → obB (decide (0 + ω.length ≤ List.length (nds ω))) (obB (roomy 160 (ω.length + 1)) (M (t7 j n S (ω.length + 1) ((nds ω).take ω.length ++ [ndv t d]) t d))) := by
    intro M h
    refine obB_of (decide_eq_true (by rw [nds_len]; omega)) (obB_of (roomy_of (by omega) (by omega)) ?_)
    rw [List.take_of_length_le (by rw [nds_len]; exact Nat.le_refl _)]
    exact h
  have key : GoO cfgS Pr Ow 48 44 (reg 48 7).toList (reg 48 7).toList (t7 j n S ω.length (nds ω) t d) fun _ s => ∃ s2, Weaker s s2 ∧ s2 = t7 j n S (ω.length + 1) (nds ω ++ [ndv t d]) t d := by
    rcases hj with rfl | rfl
    · exact goS (E := {}) (envOK trivial trivial trivial) (ks := [3, 4, 5]) (bs := [4, 5, 10, 29]) (nt2 := 44) (by
        rw [r7_10 n S ω.length (nds ω) t d (IsS (t7 10 n S (ω.length + 1) (nds ω ++ [ndv t d]) t d))]
        have := ob (IsS (t7 10 n S (ω.length + 1) (nds ω ++ [ndv t d]) t d)) rfl
        rw [t7e_10 n S (ω.length + 1) ((nds ω).take ω.length ++ [ndv t d]) t d] at this
        exact this)
    · exact goS (E := {}) (envOK trivial trivial trivial) (ks := [3, 4, 5]) (bs := [4, 5, 29, 43]) (nt2 := 44) (by
        rw [r7_43 n S ω.length (nds ω) t d (IsS (t7 43 n S (ω.length + 1) (nds ω ++ [ndv t d]) t d))]
        exact ob (IsS (t7 43 n S (ω.length + 1) (nds ω ++ [ndv t d]) t d)) rfl)
  unfold tail48
  refine go_seq (go_region ?_)
  obtain ⟨outs, s, hr, s2, hw, rfl⟩ := key
  refine ⟨outs, s, hr, go_weak hw (tail8 hPr hj hn hS (by omega) hd1 fun j' S' hj' hS' => ?_)⟩
  have := hQ j' S' hj' hS'
  have e1 : (ω ++ [(t, d)]).length = ω.length + 1 := by simp
  rw [nds_append ω, e1] at this
  exact this

def retS (L : List (Tr × Int)) : St := mkS 44 [(2, .rsl 29 19 0 L.length)] [(29, .row 19 (nds L))] []
theorem cut_r {G : St → (Ex → St → Prop) → Prop} {j : Nat} {t : Tr} {d : Int} (hG : ∀ st k, G st k → GoX cfgS Pr Ow 48 44 tail48 st k) : CutsOK cfgS Pr Ow (E48 G j t d) 48 44 (rests rest48) := by
  intro b c sp hm hl st k hs
  have hb : b = 7 ∧ sp = cutG G [3, 4, 5] [4, 5, 29, j] 44 := by
    have := look_mem hl
    simp only [E48, List.mem_singleton, Prod.mk.injEq] at this
    exact this
  obtain ⟨rfl, rfl⟩ := hb
  have hc := look_of_nodup rests_n hm
  rw [rests_7, Option.some.injEq] at hc
  subst hc
  exact go_weak (keepT_weaker _ _ _ _) (hG _ _ hs)
theorem cut_c {G : St → (Ex → St → Prop) → Prop} {j : Nat} {t : Tr} {d : Int} (hG : ∀ st k, G st k → GoX cfgS Pr Ow 48 44 tail48 st k) : CutsOK cfgS Pr Ow (E48 G j t d) 48 44 (rests c48) := by
  intro b c sp hm hl st k hs
  have hb : b = 7 ∧ sp = cutG G [3, 4, 5] [4, 5, 29, j] 44 := by
    have := look_mem hl
    simp only [E48, List.mem_singleton, Prod.mk.injEq] at this
    exact this
  obtain ⟨rfl, rfl⟩ := hb
  have hc := look_of_nodup restc_n hm
  rw [restc_7, Option.some.injEq] at hc
  subst hc
  exact go_weak (keepT_weaker _ _ _ _) (hG _ _ hs)

theorem wret_10 (n : Nat) (S : List DV) (no : Nat) (O : List DV) : keepT [2] [29] 44 (mkS 44 [(2, DV.rsl 29 19 0 no), (3, DV.rsl 29 19 0 no), (4, DV.ptr 4 1 0 0), (11, DV.rsl 10 19 0 n), (12, DV.int IntKind.i64 (↑n : Int)), (13, DV.bool ((↑n : Int) == (0 : Int))), (14, DV.rsl 29 19 0 no)] [(4, Blk.box [DV.rsl 10 19 0 n]), (10, Blk.row 19 S), (29, Blk.row 19 O)] []) = mkS 44 [(2, .rsl 29 19 0 no)] [(29, .row 19 O)] [] := by kernel_rfl
theorem wret_43 (n : Nat) (S : List DV) (no : Nat) (O : List DV) : keepT [2] [29] 44 (mkS 44 [(2, DV.rsl 29 19 0 no), (3, DV.rsl 29 19 0 no), (4, DV.ptr 4 1 0 0), (11, DV.rsl 43 19 0 n), (12, DV.int IntKind.i64 (↑n : Int)), (13, DV.bool ((↑n : Int) == (0 : Int))), (14, DV.rsl 29 19 0 no)] [(4, Blk.box [DV.rsl 43 19 0 n]), (29, Blk.row 19 O), (43, Blk.row 19 S)] []) = mkS 44 [(2, .rsl 29 19 0 no)] [(29, .row 19 O)] [] := by kernel_rfl

/-- What is asked at the end. -/
def Endq (L : List (Tr × Int)) (e : Ex) (s : St) : Prop := e = .ret ∧ Weaker s (retS L)

theorem kid_mem_count {x : Tr} : ∀ {l : List Tr}, x ∈ l → x.count ≤ Tr.counts l
  | t :: l, h => by
    rcases List.mem_cons.1 h with rfl | h
    · simp only [Tr.counts]; omega
    · have := kid_mem_count h
      simp only [Tr.counts]; omega
theorem vc_eq {C : Cfg} {Pr Ow : Nat → List DV → DV → Prop} {E : Env} {f nt bid : Nat} {c : Code} {st : St} {K : Ex → St → Prop} {p : Prop} (H : EnvOK C Pr Ow E) (hL : LoopsOK C Pr Ow E f nt (loops bid c)) (hC : CutsOK C Pr Ow E f nt (rests c)) (e : vc C E f nt bid c st K = p) (h : p) : GoX C Pr Ow f nt c st K :=
  vc_ok H hL hC (e ▸ h)
theorem E48ok (G : St → (Ex → St → Prop) → Prop) (j : Nat) (t : Tr) (d : Int) : EnvOK cfgS Pr Ow (E48 G j t d) := envOK trivial trivial trivial
theorem wg_step {j : Nat} (hj : j = 10 ∨ j = 43) {n : Nat} {S : List DV} {no : Nat} {O : List DV} {t : Tr} {d : Int} {G : St → (Ex → St → Prop) → Prop} {K : Ex → St → Prop} (hn : n ≤ 4000000) (hget : S[n]? = some (ndv t d)) (hG : ∀ st k, G st k → GoX cfgS Pr Ow 48 44 tail48 st k) (fin : G (t7 j n S no O t d) K) :
    GoX cfgS Pr Ow 48 44 rest48 (hd j (n + 1) S no O) K := by
  have eI : (((n + 1 : Nat) : Int) - 1).toNat = n := by omega
  have hbr : ∀ (X Y : Prop), Y → brB ((((n + 1 : Nat) : Int)) == (0 : Int)) X Y := fun X Y hy => brB_of (fun h => by simp at h; omega) (fun _ => hy)
  rcases hj with rfl | rfl
  · refine vc_eq (E48ok G 10 t d) (noLoops rfl) (cut_r hG) (w10v t d (n + 1) S no O G K) (hbr _ _ ?_)
    refine obB_of (inR64 (by omega)) (obB_of (decide_eq_true (by omega)) (obB_of (decide_eq_true (by omega)) ⟨?_, ?_⟩))
    · rw [eI, Nat.zero_add]; exact hget
    · refine obB_of (inR64 (by omega)) (obB_of (decide_eq_true (by omega)) (obB_of (decide_eq_true (by omega)) ?_))
      rw [eI, Nat.sub_zero]
      rw [t7e_10] at fin
      exact fin
  · refine vc_eq (E48ok G 43 t d) (noLoops rfl) (cut_r hG) (w43v t d (n + 1) S no O G K) (hbr _ _ ?_)
    refine obB_of (inR64 (by omega)) (obB_of (decide_eq_true (by omega)) (obB_of (decide_eq_true (by omega)) ⟨?_, ?_⟩))
    · rw [eI, Nat.zero_add]; exact hget
    · refine obB_of (inR64 (by omega)) (obB_of (decide_eq_true (by omega)) (obB_of (decide_eq_true (by omega)) ?_))
      rw [eI, Nat.sub_zero]
      exact fin
theorem wg_end {j : Nat} (hj : j = 10 ∨ j = 43) {S : List DV} {no : Nat} {O : List DV} {K : Ex → St → Prop} (fin : ∀ s, Weaker s (mkS 44 [(2, .rsl 29 19 0 no)] [(29, .row 19 O)] []) → K .ret s) :
    GoX cfgS Pr Ow 48 44 rest48 (hd j 0 S no O) K := by
  have hbr : ∀ (X Y : Prop), X → brB ((((0 : Nat) : Int)) == (0 : Int)) X Y := fun X Y hx => brB_of (fun _ => hx) (fun h => by simp at h)
  rcases hj with rfl | rfl
  · refine vc_eq (E48ok (fun _ _ => False) 10 default 0) (noLoops rfl) (cut_r (fun _ _ h => h.elim)) (w10v default 0 0 S no O (fun _ _ => False) K) (hbr _ _ (fin _ ?_))
    rw [← wret_10 0 S no O]
    exact keepT_weaker _ _ _ _
  · refine vc_eq (E48ok (fun _ _ => False) 43 default 0) (noLoops rfl) (cut_r (fun _ _ h => h.elim)) (w43v default 0 0 S no O (fun _ _ => False) K) (hbr _ _ (fin _ ?_))
    rw [← wret_43 0 S no O]
    exact keepT_weaker _ _ _ _
theorem wend (hPr : ∀ es, Pr 84 [.psl 18 es] (backV es)) (L : List (Tr × Int)) {ω : List (Tr × Int)} {j : Nat} (hj : j = 10 ∨ j = 43) (S : List DV) (hL : ω ++ rem [] = L) : GoS cfgS Pr Ow 48 44 c48 rest48 (hd j ([] : List (Tr × Int)).length S ω.length (nds ω)) (Endq L) := by
  have e : ω = L := by simpa [rem] using hL
  subst e
  exact go_scopeAt (wg_end hj fun s hs => ⟨rfl, hs⟩)
theorem wloop (hPr : ∀ es, Pr 84 [.psl 18 es] (backV es)) (L : List (Tr × Int)) (B : Nat) (hB : B ≤ 900000) :
    ∀ (N : Nat) (σ ω : List (Tr × Int)) (j : Nat) (S : List DV), tot σ ≤ N → (j = 10 ∨ j = 43) → S.take σ.length = nds σ → ω.length + tot σ ≤ B → (∀ p ∈ σ, 0 ≤ p.2 ∧ p.2 + p.1.count ≤ B + 1) → ω ++ rem σ = L →
      GoS cfgS Pr Ow 48 44 c48 rest48 (hd j σ.length S ω.length (nds ω)) (Endq L) := by
  intro N
  induction N with
  | zero =>
    intro σ ω j S hN hj hS hb hdp hL
    have : σ = [] := List.length_eq_zero_iff.1 (by have := len_tot σ; omega)
    subst this
    exact wend hPr L hj S hL
  | succ N ih =>
    intro σ ω j S hN hj hS hb hdp hL
    rcases List.eq_nil_or_concat σ with rfl | ⟨σ0, ⟨t, d⟩, rfl⟩
    · exact wend hPr L hj S hL
    rw [List.concat_eq_append] at *
    have hd0 := hdp (t, d) (by simp)
    have hc := Tr.count_eq t
    have htot : tot (σ0 ++ [(t, d)]) = tot σ0 + t.count := by rw [tot_append]; simp [tot]
    have hln := len_tot σ0
    rw [htot] at hN hb
    simp only at hd0
    have hS0 : S.take σ0.length = nds σ0 := by
      have := congrArg (List.take σ0.length) hS
      rw [List.take_take, nds_append] at this
      have e1 : min σ0.length (σ0 ++ [(t, d)]).length = σ0.length := by simp
      have e2 : List.take σ0.length (nds σ0 ++ nds [(t, d)]) = nds σ0 := by
        rw [← nds_len σ0]; exact List.take_left ..
      rw [e1, e2] at this; exact this
    have hSlen : σ0.length + 1 ≤ S.length := by
      have := congrArg List.length hS
      rw [List.length_take, nds_len] at this
      simp at this; omega
    have hget : S[σ0.length]? = some (ndv t d) := by
      have : (S.take (σ0 ++ [(t, d)]).length)[σ0.length]? = (nds (σ0 ++ [(t, d)]))[σ0.length]? := by rw [hS]
      rw [List.getElem?_take, if_pos (by simp), nds_append, List.getElem?_append_right (by rw [nds_len]; exact Nat.le_refl _), nds_len] at this
      simpa [nds] using this
    refine go_scopeAt ?_
    have fin : GoX cfgS Pr Ow 48 44 tail48 (t7 j σ0.length S ω.length (nds ω) t d) (Ex.scopedX c48 (Endq L) fun rest st1 => GoS cfgS Pr Ow 48 44 c48 rest st1 (Endq L)) := by
      refine tail7 hPr hj rfl hS0 (by omega) ⟨hd0.1, by omega⟩ fun j' S' hj' hS' => ?_
      simp only [Ex.scopedX, find48]
      refine ih (σ0 ++ t.kids.reverse.map fun x => (x, d + 1)) (ω ++ [(t, d)]) j' S' ?_ hj' hS' ?_ ?_ ?_
      · rw [tot_append, tot_kids]; omega
      · rw [tot_append, tot_kids, List.length_append, List.length_singleton]; omega
      · intro p hp
        rcases List.mem_append.1 hp with hp | hp
        · exact hdp p (List.mem_append_left _ hp)
        · obtain ⟨x, hx, rfl⟩ := List.mem_map.1 hp
          have hx' : x ∈ t.kids := List.mem_reverse.1 hx
          have := kid_mem_count hx'
          simp only
          omega
      · rw [rem_push, List.append_assoc, ← hL, rem_pop]
        rfl
    have hlen : (σ0 ++ [(t, d)]).length = σ0.length + 1 := by simp
    rw [hlen]
    exact wg_step (G := fun st k => GoX cfgS Pr Ow 48 44 tail48 st k) hj (by omega) hget (fun _ _ h => h) fin
end
end Go.Det.Sea
end

section
set_option linter.unusedVariables false
set_option linter.unusedSimpArgs false
namespace Go.Det.Sea
open Go Go.Det

theorem ends_eq {C : Cfg} {fi : Fi} {ex : List Blk} {Φ : DV → List Blk → Prop} {e : Ex} {st : St} {p : Prop} (q : endsP C fi ex Φ e st = p) (h : p) : Leaves C fi ex Φ e st := endsP_ok (q ▸ h)
section
variable {Pr Ow : Nat → List DV → DV → Prop}
theorem t7n_in (t : Tr) : GoO cfgS Pr Ow 48 44 (reg 48 7).toList (reg 48 7).toList (t7n t) fun _ s => ∃ s2, Weaker s s2 ∧ s2 = t7 10 0 [ndv t 1] 1 [ndv t 1] t 1 :=
  goS (E := {}) (envOK trivial trivial trivial) (ks := [3, 4, 5]) (bs := [4, 5, 10, 29]) (nt2 := 44) (by
    rw [r7n t (IsS (t7 10 0 [ndv t 1] 1 [ndv t 1] t 1))]
    unfold IsS
    rw [t7e_10]
    rfl)
theorem w0_in (t : Tr) : GoO cfgS Pr Ow 48 44 (reg 48 0).toList (reg 48 0).toList { t := t.dv :: List.replicate 43 (.tup []), h := List.replicate 44 none } fun _ s => ∃ s2, Weaker s s2 ∧ s2 = st1 t :=
  goS (E := {}) (envOK trivial trivial trivial) (ks := [1, 2]) (bs := [1]) (nt2 := 44) (by
    rw [w0v t (IsS (st1 t))]
    rfl)
theorem enter48 (t : Tr) : enterD fi48 [t.dv] [] = { t := t.dv :: List.replicate 43 (.tup []), h := List.replicate 44 none } := by
  unfold enterD
  rw [fi48_nt]
  rfl
/-- expr.walk of a tree. -/
theorem walkS_go (hPr : ∀ es, Pr 84 [.psl 18 es] (backV es)) (t : Tr) (ht : t.count ≤ 900000) (Φ : DV → List Blk → Prop) (h : Φ (.psl 19 (nds (t.pre 1))) []) : GoC cfgS Pr Ow 48 [t.dv] [] Φ := by
  refine go_body fi48_ok ?_
  rw [enter48, fi48_code, fi48_nt]
  have key : GoX cfgS Pr Ow 48 44 (.seq (.region 0 (reg 48 0) false) (.scope c48)) { t := t.dv :: List.replicate 43 (.tup []), h := List.replicate 44 none } (Endq (t.pre 1)) := by
    refine go_seq (go_region ?_)
    obtain ⟨outs, s, hr, s2, hw, rfl⟩ := w0_in (Pr := Pr) (Ow := Ow) t
    refine ⟨outs, s, hr, go_weak hw (go_scope ?_)⟩
    have hd0 : GoX cfgS Pr Ow 48 44 tail48 (t7n t) (Ex.scopedX c48 (Endq (t.pre 1)) fun rest st1 => GoS cfgS Pr Ow 48 44 c48 rest st1 (Endq (t.pre 1))) := by
      unfold tail48
      refine go_seq (go_region ?_)
      obtain ⟨outs, s, hr, s2, hw, rfl⟩ := t7n_in (Pr := Pr) (Ow := Ow) t
      refine ⟨outs, s, hr, go_weak hw (tail8 (n := 0) (σ0 := []) hPr (.inl rfl) rfl (by simp [nds]) (by omega) ⟨by omega, by omega⟩ fun j' S' hj' hS' => ?_)⟩
      simp only [Ex.scopedX, find48]
      have hc := Tr.count_eq t
      have key := wloop (Ow := Ow) hPr (t.pre 1) t.count ht (tot (t.kids.reverse.map fun x => (x, (1 : Int) + 1))) (t.kids.reverse.map fun x => (x, (1 : Int) + 1)) [(t, 1)] j' S' (Nat.le_refl _) hj' (by simpa using hS') (by rw [tot_kids]; simp; omega) (fun p hp => by
        obtain ⟨x, hx, rfl⟩ := List.mem_map.1 hp
        have := kid_mem_count (List.mem_reverse.1 hx)
        simp only
        omega) (by
        have := rem_push [] t.kids ((1 : Int) + 1)
        rw [List.nil_append] at this
        rw [this, Tr.pre_eq]
        simp [rem])
      exact key
    have e : (fun st k => GoX cfgS Pr Ow 48 44 tail48 st k) (t7n t) (Ex.scopedX c48 (Endq (t.pre 1)) fun rest st1 => GoS cfgS Pr Ow 48 44 c48 rest st1 (Endq (t.pre 1))) := hd0
    exact vc_eq (E48ok (fun st k => GoX cfgS Pr Ow 48 44 tail48 st k) 10 t 1) (noLoops rfl) (cut_c fun _ _ h => h) (w1v t (fun st k => GoX cfgS Pr Ow 48 44 tail48 st k) _) ⟨rfl, e⟩
  obtain ⟨e, s, hr, rfl, hw⟩ := key
  refine ⟨.ret, retS (t.pre 1), .weakEnd hr hw, ?_⟩
  exact ends_eq (retv (t.pre 1).length (nds (t.pre 1)) Φ) (obB_of (decide_eq_true (by rw [nds_len]; omega)) (by rw [List.take_of_length_le (by rw [nds_len]; exact Nat.le_refl _)]; exact h))
end
/-- What the seat's own functions do that are known by hand. -/
def prS (g : Nat) (xs : List DV) (r : DV) : Prop := g = 84 ∧ ∃ es, xs = [.psl 18 es] ∧ r = backV es
theorem prS_ok : ∀ g xs r, prS g xs r → Callable Go.Proofs.Tryz.prog g ∧ CallOK Go.Proofs.Tryz.prog cfg g xs [] r [] := by
  rintro g xs r ⟨rfl, es, rfl, rfl⟩
  exact back_ok es
theorem FS : cfgS.F = cfg.F := by kernel_rfl
theorem TS : cfgS.T = cfg.T := by kernel_rfl
theorem callOK_S {g : Nat} {xs : List DV} {ex ex' : List Blk} {r : DV} : CallOK Go.Proofs.Tryz.prog cfgS g xs ex r ex' ↔ CallOK Go.Proofs.Tryz.prog cfg g xs ex r ex' := by
  unfold CallOK GlobOK baseOf
  rw [FS, globS]
theorem cfgS_ok : CfgOK Go.Proofs.Tryz.prog cfgS prS NoP := by
  have b := base_ok (Pr := prS) (Ow := NoP) prS_ok (fun _ _ _ h => h.elim)
  exact ⟨by rw [TS]; exact b.ty, by rw [FS]; exact b.fn, fun g xs r h => ⟨(prS_ok g xs r h).1, callOK_S.2 (prS_ok g xs r h).2⟩, fun _ _ _ h => h.elim, b.mixed, S48_ok b.ty⟩
/-- expr.walk, in the program. -/
theorem walk_ok (t : Tr) (ht : t.count ≤ 900000) : Callable Go.Proofs.Tryz.prog 48 ∧ CallOK Go.Proofs.Tryz.prog cfg 48 [t.dv] [] (.psl 19 (nds (t.pre 1))) [] := by
  have hr : Run cfgS prS NoP (.call 48 [t.dv] [] (.psl 19 (nds (t.pre 1))) []) := GoC.run (walkS_go (fun es => ⟨rfl, es, rfl, rfl⟩) t ht _ ⟨rfl, rfl⟩)
  have := Run.sound cfgS_ok hr
  exact ⟨this.1, callOK_S.1 this.2⟩
end Go.Det.Sea
end

section
set_option linter.unusedVariables false
set_option linter.unusedSimpArgs false
namespace Go.Det.Sea
open Go Go.Det Go.Proofs Go.ChangeShapes Go.WideShapes Go.ChangeAt Go.RowKit

/-! Behind a call that changed no old memory, the arguments read as before. -/
section
variable {H : Type} {enc : TypeId × Value → H} {W W' : World}
theorem laidOut : laidOutB Tryz.prog = true := by kernel_rfl
theorem mapsRow : mapsRowed Tryz.prog = true := by kernel_rfl
theorem slicesB : ((List.range Tryz.prog.types.size).all fun t => match Tryz.prog.underlying t with
  | some (.slice e) => Nat.ble 1 (Tryz.prog.cellsOf e)
  | _ => true) = true := by kernel_rfl
theorem slices_pos {t e : TypeId} (ht : t < Tryz.prog.types.size) (hu : Tryz.prog.underlying t = some (.slice e)) : 0 < Tryz.prog.cellsOf e := by
  have := List.all_eq_true.1 slicesB t (List.mem_range.2 ht)
  rw [hu] at this
  exact Nat.le_of_ble_eq_true this
theorem evo_same (e : Evo [] W W') {p : MemPlace} (hp : p.block < W.heap.size) : W.sameAt W' p := by
  cases p with
  | cell b off => exact World.cell?_of_block (e.keep b hp (by simp))
  | map b => exact e.keep b hp (by simp)
theorem all_stays (e : Evo [] W W') {sp : Nat → Bool} : ∀ {ts : List TypeId} {vs : List Value} {ds : List (DataW H)} {ps : List MemPlace}, (∀ t ∈ ts, t < Tryz.prog.types.size) → DataW.TrodAll enc Tryz.prog W 0 (fun _ => true) true ts vs ds ps →
    (∀ p ∈ ps, p.block < W.heap.size ∧ sp p.block = true) → DataW.TrodAll enc Tryz.prog W' 0 sp true ts vs ds ps
  | [], vs, ds, ps, _, h, _ => by
    obtain ⟨rfl, rfl, rfl⟩ := trodAll_nil h
    exact trodAll_mk0
  | t :: ts, vs, ds, ps, ht, h, hp => by
    obtain ⟨v, vs', d, ds', p, q, rfl, rfl, rfl, ⟨n, h0⟩, hs⟩ := trodAll_cons h
    refine trodAll_cons_mk ⟨n, ?_⟩ (all_stays e (fun t h => ht t (List.mem_cons_of_mem _ h)) hs fun p hp' => hp p (List.mem_append_right _ hp'))
    exact DataW.trod_stays (kids_rows laidOut mapsRow) (fun h1 h2 => slices_pos h1 h2) (fun h => by cases h) (ht t List.mem_cons_self) h0
      (fun p' hp' => evo_same e (hp p' (List.mem_append_left _ hp')).1) fun p' hp' => (hp p' (List.mem_append_left _ hp')).2
theorem evo_kept (e : Evo [] W W') (may : MemPlace → Prop) : W.keptBut W' may := by
  refine ⟨e.os, e.output, fun i hi => ?_⟩
  rw [e.keep i hi (by simp)]
  cases h : W.heap[i]? with
  | none => simp
  | some o => cases o <;> simp
/-- What a law's row asks of a call that answered true. -/
theorem post_evo {f : Func} {s : ChangeSpec} {args : Array Value} {ds gs : List (DataW H)} {before : List MemPlace} (hv : s.vars = []) (hfn : ∀ ds : List (DataW H), ds.length = f.params.size → (s.fn H ds).results = [.lit (.bool true)] ∧ (s.fn H ds).args = ds ∧ (s.fn H ds).vars = [])
    (hres : f.resultTypes = #[4]) (hpt : ∀ t ∈ f.params.toList, t < Tryz.prog.types.size) (hW : DataW.Whole enc Tryz.prog f.params.toList s.vars false W args.toList ds gs before) (hl : ds.length = f.params.size) (e : Evo [] W W') :
    s.post enc Tryz.prog f false true false false W args (.bool true) W' := by
  have hlt := hW.lt
  obtain ⟨p, q, hA, hV, rfl, hz, hn⟩ := id hW
  rw [hv] at hV
  obtain ⟨rfl, rfl⟩ := trodVars_none hV
  obtain ⟨h1, h2, h3⟩ := hfn ds hl
  rw [List.append_nil] at hlt
  refine ⟨ds, [], _, [], p, [], hW, ?_, ?_, ?_, evo_kept e _, fun h => by cases h⟩
  · rw [List.append_nil, h1, hres]
    exact trodAll_mk1 (shut_bool Tryz.underlying4 true)
  · rw [List.append_nil, h2]
    exact all_stays e hpt hA fun p hp => ⟨hlt p hp, by simpa using hlt p hp⟩
  · rw [List.append_nil, h3, hv]
    exact rfl
/-- The world at the start, all cells taken as sealed: what a call of pure values shows. -/
theorem calls_evo {g : Nat} {xs : List DV} {r : DV} {args : Array Value} (hc : CallOK Tryz.prog cfg g xs [] r []) (hx : VRL (fun _ => none) (allM W) xs args.toList) :
    Calls Tryz.prog g args W fun e W' => ∃ v' m', e = .returned v' ∧ VR (fun _ => none) m' r v' ∧ Evo [] W W' := by
  obtain ⟨h1, h2, h3⟩ := hc
  refine (h3 (fun _ => none) (allM W) W args [] (fun g cs h => by cases h) (allM_ok W) hx ⟨rfl, by simp, by simp⟩).mono ?_
  rintro e W' ⟨v', m', rfl, q1, _, _, _, q2⟩
  exact ⟨v', m', rfl, q1, q2⟩
end
end Go.Det.Sea
end

section
set_option linter.unusedVariables false
set_option linter.unusedSimpArgs false
namespace Go.Det.Sea
open Go Go.Det Go.Proofs Go.ChangeShapes Go.WideShapes Go.ChangeAt Go.RowKit Go.Proofs.YtpfjeinhmmmhkaaGreatDoor

theorem own : ownKnob Tryz.prog.godebug = none := by kernel_rfl
/-- The empty formula. -/
def zeroExpr : Value := .agg #[.int .i64 0, .int .i64 0, .int .i64 0, .int .i64 0, .string ⟨#[]⟩, .bool false, .int .i64 0, .int .i64 0, .int .i64 0, .bool false, .bool false, .int .i64 0, .int .i64 0, .bool false, .bool false, .int .i64 0, .int .i64 0, .slice none 0 0]
theorem laid_met (os : Os) (args : Array Value) : laidMetH Tryz.prog Rows.textStripsRow.laid ((World.laidAll Tryz.prog os Rows.textStripsRow.laid).forCall (fun _ _ => 0) ⟨#[], args, []⟩).memory := by
  rw [MakeChecks.laidMetH_plain _ _ _ (by kernel_rfl)]
  exact laidMet_laidAll _ (by kernel_rfl) (by kernel_rfl)
theorem laid_shaped (os : Os) : (World.laidAll Tryz.prog os Rows.textStripsRow.laid).Shaped Tryz.prog := World.shaped_of_ZipB (by kernel_rfl) (by kernel_rfl)
namespace TextStrips
theorem plain (f : FuncId) (fn : Func) (hf : Tryz.pinned.checked.prog.funcNamed "cashbook/cashbooklaw13.TextStrips" = some f) (hfn : Tryz.pinned.checked.prog.funcs[f]? = some fn) :
    true = Tryz.pinned.checked.prog.looks [] ∧ ∀ (j : Nat) t, fn.params[j]? = some t → Tryz.pinned.checked.prog.wantsStandIn t = false := by
  obtain rfl : f = 4 := Option.some.inj ((show Tryz.prog.funcNamed "cashbook/cashbooklaw13.TextStrips" = some 4 by kernel_rfl).symm.trans hf) |>.symm
  obtain rfl : fn = Tryz.f4 := (Option.some.inj (Tryz.func4.symm.trans hfn)).symm
  refine ⟨by kernel_rfl, fun j t ht => ?_⟩
  rw [Tryz.params4] at ht
  obtain rfl : t = 32 := by simpa using Array.mem_of_getElem? ht
  exact (show Tryz.prog.wantsStandIn 32 = false by kernel_rfl)
end TextStrips
end Go.Det.Sea
end

section
set_option linter.unusedVariables false
set_option linter.unusedSimpArgs false
namespace Go.Det.Sea
open Go Go.Det

def rdr (s : List UInt8) (row col at_ e no : Int) : Blk := .box [.str s, .int .i64 row, .int .i64 col, .int .i64 at_, .int .i64 e, .int .i64 no]
theorem vc149 (a b : List UInt8) (Φ : DV → List Blk → Prop) : (vcF cfg E0 149 [.str a, .str b] [] Φ) =
    (obB (decide ((List.brecOn.go b List.length._f).1 ≤ List.length a) || !decide ((↑(List.length a) : Int) ≥ (↑(List.length b) : Int))) (Φ (DV.bool (decide ((↑(List.length a) : Int) ≥ (↑(List.length b) : Int)) && List.drop 0 (List.take (List.brecOn.go b List.length._f).1 a) == b)) [])) := by kernel_rfl
theorem vc58 (n : Int) (Φ : DV → List Blk → Prop) : (vcF cfg E0 58 [.int .i64 n] [] Φ) =
    (brB (decide (n ≤ (2 : Int))) (Φ (DV.int IntKind.i64 (3 : Int)) []) (brB (decide (n ≤ (4 : Int))) (Φ (DV.int IntKind.i64 (4 : Int)) []) (brB (n == (5 : Int)) (Φ (DV.int IntKind.i64 (5 : Int)) []) (brB (n == (6 : Int)) (Φ (DV.int IntKind.i64 (2 : Int)) []) (Φ (DV.int IntKind.i64 (1 : Int)) []))))) := by kernel_rfl
theorem vc59 (Φ : DV → List Blk → Prop) : (vcF cfg E0 59 [] [] Φ) =
    (Φ (DV.psl 1 [DV.str [(43 : UInt8)], DV.str [(45 : UInt8)], DV.str [(42 : UInt8)], DV.str [(47 : UInt8)], DV.str [(94 : UInt8)], DV.str [(38 : UInt8)], DV.str [(61 : UInt8)], DV.str [(60 : UInt8), (62 : UInt8)], DV.str [(60 : UInt8)], DV.str [(60 : UInt8), (61 : UInt8)], DV.str [(62 : UInt8)], DV.str [(62 : UInt8), (61 : UInt8)]]) []) := by kernel_rfl
end Go.Det.Sea
end

section
set_option linter.unusedVariables false
set_option linter.unusedSimpArgs false
namespace Go.Det.Sea
open Go Go.Det

def hp : List UInt8 → List UInt8 → Bool
  | _, [] => true
  | [], _ :: _ => false
  | x :: a, y :: b => Nat.beq x.toNat y.toNat && hp a b
def bindsI (n : Int) : Int := bif decide (n ≤ 2) then 3 else bif decide (n ≤ 4) then 4 else bif n == 5 then 5 else bif n == 6 then 2 else 1
def signL : List (List UInt8) := [[43], [45], [42], [47], [94], [38], [61], [60, 62], [60], [60, 61], [62], [62, 61]]
def hpS : Spec := fun xs ex k => match xs, ex with
  | [.str a, .str b], [] => k (.bool (hp a b)) []
  | _, _ => False
def bindsS : Spec := fun xs ex k => match xs, ex with
  | [.int .i64 n], [] => k (.int .i64 (bindsI n)) []
  | _, _ => False
def signsS : Spec := fun xs ex k => match xs, ex with
  | [], [] => k (.psl 1 [.str [43], .str [45], .str [42], .str [47], .str [94], .str [38], .str [61], .str [60, 62], .str [60], .str [60, 61], .str [62], .str [62, 61]]) []
  | _, _ => False
def blankS (nb : Int) : Spec := fun xs ex k => match xs, ex with
  | [.ptr b n i o], [.box [s, r, c, .int .i64 p, e, no]] => k (.tup []) [.box [s, r, c, .int .i64 nb, e, no]]
  | _, _ => False
def E109 : Env := { cs := [(149, hpS)] }
theorem vc109 (a b : List UInt8) (Φ : DV → List Blk → Prop) : (vcF cfg E109 109 [.str a, .str b] [] Φ) =
    (Φ (DV.bool (hp a b)) []) := by kernel_rfl
-- blanks
def hd36 (s : List UInt8) (row col e no : Int) (n : Nat) : St := mkS 31 [(0, .ptr 31 6 0 0)] [] [rdr s row col n e no]
def F36 (s : List UInt8) (row col e no : Int) (n : Nat) (k : Ex → St → Prop) : Prop := k (.exit 0) (mkS 31 [(0, .ptr 31 6 0 0)] [] [rdr s row col n e no])
def E36 (L : St → Prop) (s : List UInt8) (row col e no : Int) (n : Nat) : Env := { ls := [(0, loopS [0] [] 31 L (F36 s row col e no n))] }
theorem vc36 (s : List UInt8) (row col e no : Int) (n m : Nat) (L : St → Prop) (Φ : DV → List Blk → Prop) : (vcF cfg (E36 L s row col e no m) 36 [.ptr 31 6 0 0] [rdr s row col n e no] Φ) =
    (L (mkS 31 [(0, DV.ptr 31 6 0 0)] [] [Blk.box [DV.str s, DV.int IntKind.i64 row, DV.int IntKind.i64 col, DV.int IntKind.i64 (↑n : Int), DV.int IntKind.i64 e, DV.int IntKind.i64 no]]) ∧ Φ (DV.tup []) [Blk.box [DV.str s, DV.int IntKind.i64 row, DV.int IntKind.i64 col, DV.int IntKind.i64 (↑m : Int), DV.int IntKind.i64 e, DV.int IntKind.i64 no]]) := by kernel_rfl
theorem vc36_1 (s : List UInt8) (row col e no : Int) (n : Nat) (L : St → Prop) (K : Ex → St → Prop) : (vcB cfg { } 36 0 (hd36 s row col e no n) (bodyK L [0] [] [0] [] 31 K)) =
    (brB (decide ((↑n : Int) < (↑(List.length s) : Int))) (obB (decide (n < List.length s)) (brB ((↑(UInt8.toNat (List.getD s n (0 : UInt8))) : Int) == (32 : Int)) (obB (inR IntKind.i64 ((↑n : Int) + (1 : Int))) (L (mkS 31 [(0, DV.ptr 31 6 0 0)] [] [Blk.box [DV.str s, DV.int IntKind.i64 row, DV.int IntKind.i64 col, DV.int IntKind.i64 ((↑n : Int) + (1 : Int)), DV.int IntKind.i64 e, DV.int IntKind.i64 no]]))) (K (Ex.exit 0) (mkS 31 [(0, DV.ptr 31 6 0 0)] [] [Blk.box [DV.str s, DV.int IntKind.i64 row, DV.int IntKind.i64 col, DV.int IntKind.i64 (↑n : Int), DV.int IntKind.i64 e, DV.int IntKind.i64 no]])))) (K (Ex.exit 0) (mkS 31 [(0, DV.ptr 31 6 0 0)] [] [Blk.box [DV.str s, DV.int IntKind.i64 row, DV.int IntKind.i64 col, DV.int IntKind.i64 (↑n : Int), DV.int IntKind.i64 e, DV.int IntKind.i64 no]]))) := by kernel_rfl
end Go.Det.Sea
end

section
set_option linter.unusedVariables false
set_option linter.unusedSimpArgs false
namespace Go.Det.Sea
open Go Go.Det

def signD : DV := .psl 1 [.str [43], .str [45], .str [42], .str [47], .str [94], .str [38], .str [61], .str [60, 62], .str [60], .str [60, 61], .str [62], .str [62, 61]]
def hd73 (s : List UInt8) (row col e no : Int) (n : Nat) (bind : Int) (rest : List UInt8) (best i : Nat) : St :=
  mkS 70 [(0, .ptr 70 6 0 0), (1, .int .i64 bind), (5, .str rest), (6, .int .i64 best), (20, .psl 1 [.str [43], .str [45], .str [42], .str [47], .str [94], .str [38], .str [61], .str [60, 62], .str [60], .str [60, 61], .str [62], .str [62, 61]]), (21, .int .i64 12), (22, .int .i64 i)] [] [rdr s row col n e no]
def F73 (s : List UInt8) (row col e no : Int) (n : Nat) (bind : Int) (best : Nat) (k : Ex → St → Prop) : Prop := k (.exit 0) (mkS 70 [(0, .ptr 70 6 0 0), (1, .int .i64 bind), (6, .int .i64 best)] [] [rdr s row col n e no])
def blankQ (s : List UInt8) (row col e no : Int) (p n : Nat) : Spec := fun xs ex k => (xs = [.ptr 31 6 0 0] ∧ ex = [rdr s row col p e no]) ∧ k (.tup []) [rdr s row col n e no]
def E73 (L : St → Prop) (s : List UInt8) (row col e no : Int) (p n : Nat) (bind : Int) (best : Nat) (h : List UInt8) : Env := { cs := [(36, blankQ s row col e no p n), (59, signsS), (58, bindsS)], ls := [(0, loopS [0, 1, 5, 6, 20, 21, 22] [] 70 L (F73 s row col e no n bind best))], an := [(64, .str h)], sp := [7, 10] }
def E73b (g h : List UInt8) : Env := { cs := [(59, signsS), (109, hpS)], an := [(26, .str g), (40, .str h)], sp := [7] }
theorem vc73 (s : List UInt8) (row col e no : Int) (p n : Nat) (bind : Int) (best : Nat) (h : List UInt8) (L : St → Prop) (Φ : DV → List Blk → Prop) : (vcF cfg (E73 L s row col e no p n bind best h) 73 [.ptr 70 6 0 0, .int .i64 bind] [rdr s row col p e no] Φ) =
    (([DV.ptr 31 6 0 0] = [DV.ptr 31 6 0 0] ∧ [Blk.box [DV.str s, DV.int IntKind.i64 row, DV.int IntKind.i64 col, DV.int IntKind.i64 (↑p : Int), DV.int IntKind.i64 e, DV.int IntKind.i64 no]] = [Blk.box [DV.str s, DV.int IntKind.i64 row, DV.int IntKind.i64 col, DV.int IntKind.i64 (↑p : Int), DV.int IntKind.i64 e, DV.int IntKind.i64 no]]) ∧ obB (decide (n ≤ List.length s)) (L (mkS 70 [(0, DV.ptr 70 6 0 0), (1, DV.int IntKind.i64 bind), (5, DV.str (List.drop n (List.take (List.length s) s))), (6, DV.int IntKind.i64 (0 : Int)), (20, DV.psl 1 [DV.str [(43 : UInt8)], DV.str [(45 : UInt8)], DV.str [(42 : UInt8)], DV.str [(47 : UInt8)], DV.str [(94 : UInt8)], DV.str [(38 : UInt8)], DV.str [(61 : UInt8)], DV.str [(60 : UInt8), (62 : UInt8)], DV.str [(60 : UInt8)], DV.str [(60 : UInt8), (61 : UInt8)], DV.str [(62 : UInt8)], DV.str [(62 : UInt8), (61 : UInt8)]]), (21, DV.int IntKind.i64 (12 : Int)), (22, DV.int IntKind.i64 (0 : Int))] [] [Blk.box [DV.str s, DV.int IntKind.i64 row, DV.int IntKind.i64 col, DV.int IntKind.i64 (↑n : Int), DV.int IntKind.i64 e, DV.int IntKind.i64 no]]) ∧ brB ((↑best : Int) == (0 : Int)) (Φ (DV.int IntKind.i64 (0 : Int)) [Blk.box [DV.str s, DV.int IntKind.i64 row, DV.int IntKind.i64 col, DV.int IntKind.i64 (↑n : Int), DV.int IntKind.i64 e, DV.int IntKind.i64 no]]) (brB (bindsI (↑best : Int) != bind) (Φ (DV.int IntKind.i64 (0 : Int)) [Blk.box [DV.str s, DV.int IntKind.i64 row, DV.int IntKind.i64 col, DV.int IntKind.i64 (↑n : Int), DV.int IntKind.i64 e, DV.int IntKind.i64 no]]) (obB (inR IntKind.i64 ((↑best : Int) - (1 : Int))) (obB (decide ((0 : Int) ≤ (↑best : Int) - (1 : Int))) (obB (decide (Int.toNat ((↑best : Int) - (1 : Int)) < 12)) ([DV.str [(43 : UInt8)], DV.str [(45 : UInt8)], DV.str [(42 : UInt8)], DV.str [(47 : UInt8)], DV.str [(94 : UInt8)], DV.str [(38 : UInt8)], DV.str [(61 : UInt8)], DV.str [(60 : UInt8), (62 : UInt8)], DV.str [(60 : UInt8)], DV.str [(60 : UInt8), (61 : UInt8)], DV.str [(62 : UInt8)], DV.str [(62 : UInt8), (61 : UInt8)]][Int.toNat ((↑best : Int) - (1 : Int))]? = some (DV.str h) ∧ obB (inR IntKind.i64 ((↑n : Int) + (↑(List.length h) : Int))) (Φ (DV.int IntKind.i64 (↑best : Int)) [Blk.box [DV.str s, DV.int IntKind.i64 row, DV.int IntKind.i64 col, DV.int IntKind.i64 ((↑n : Int) + (↑(List.length h) : Int)), DV.int IntKind.i64 e, DV.int IntKind.i64 no]])))))))) := by kernel_rfl
theorem vc73_1 (s : List UInt8) (row col e no : Int) (n : Nat) (bind : Int) (rest : List UInt8) (best i : Nat) (g h : List UInt8) (L : St → Prop) (K : Ex → St → Prop) : (vcB cfg (E73b g h) 73 0 (hd73 s row col e no n bind rest best i) (bodyK L [0, 1, 5, 6, 20, 21, 22] [] [0, 1, 6] [] 70 K)) =
    (brB (decide ((↑i : Int) < (12 : Int))) (obB (decide (i < 12)) ([DV.str [(43 : UInt8)], DV.str [(45 : UInt8)], DV.str [(42 : UInt8)], DV.str [(47 : UInt8)], DV.str [(94 : UInt8)], DV.str [(38 : UInt8)], DV.str [(61 : UInt8)], DV.str [(60 : UInt8), (62 : UInt8)], DV.str [(60 : UInt8)], DV.str [(60 : UInt8), (61 : UInt8)], DV.str [(62 : UInt8)], DV.str [(62 : UInt8), (61 : UInt8)]][Int.toNat (↑i : Int)]? = some (DV.str g) ∧ brB (hp rest g) (brB ((↑best : Int) == (0 : Int)) (obB (inR IntKind.i64 ((↑i : Int) + (1 : Int))) (obB (inR IntKind.i64 ((↑i : Int) + (1 : Int))) (L (mkS 70 [(0, DV.ptr 70 6 0 0), (1, DV.int IntKind.i64 bind), (5, DV.str rest), (6, DV.int IntKind.i64 ((↑i : Int) + (1 : Int))), (20, DV.psl 1 [DV.str [(43 : UInt8)], DV.str [(45 : UInt8)], DV.str [(42 : UInt8)], DV.str [(47 : UInt8)], DV.str [(94 : UInt8)], DV.str [(38 : UInt8)], DV.str [(61 : UInt8)], DV.str [(60 : UInt8), (62 : UInt8)], DV.str [(60 : UInt8)], DV.str [(60 : UInt8), (61 : UInt8)], DV.str [(62 : UInt8)], DV.str [(62 : UInt8), (61 : UInt8)]]), (21, DV.int IntKind.i64 (12 : Int)), (22, DV.int IntKind.i64 ((↑i : Int) + (1 : Int)))] [] [Blk.box [DV.str s, DV.int IntKind.i64 row, DV.int IntKind.i64 col, DV.int IntKind.i64 (↑n : Int), DV.int IntKind.i64 e, DV.int IntKind.i64 no]])))) (obB (inR IntKind.i64 ((↑best : Int) - (1 : Int))) (obB (decide ((0 : Int) ≤ (↑best : Int) - (1 : Int))) (obB (decide (Int.toNat ((↑best : Int) - (1 : Int)) < 12)) ([DV.str [(43 : UInt8)], DV.str [(45 : UInt8)], DV.str [(42 : UInt8)], DV.str [(47 : UInt8)], DV.str [(94 : UInt8)], DV.str [(38 : UInt8)], DV.str [(61 : UInt8)], DV.str [(60 : UInt8), (62 : UInt8)], DV.str [(60 : UInt8)], DV.str [(60 : UInt8), (61 : UInt8)], DV.str [(62 : UInt8)], DV.str [(62 : UInt8), (61 : UInt8)]][Int.toNat ((↑best : Int) - (1 : Int))]? = some (DV.str h) ∧ brB (decide ((↑(List.length g) : Int) > (↑(List.length h) : Int))) (obB (inR IntKind.i64 ((↑i : Int) + (1 : Int))) (obB (inR IntKind.i64 ((↑i : Int) + (1 : Int))) (L (mkS 70 [(0, DV.ptr 70 6 0 0), (1, DV.int IntKind.i64 bind), (5, DV.str rest), (6, DV.int IntKind.i64 ((↑i : Int) + (1 : Int))), (20, DV.psl 1 [DV.str [(43 : UInt8)], DV.str [(45 : UInt8)], DV.str [(42 : UInt8)], DV.str [(47 : UInt8)], DV.str [(94 : UInt8)], DV.str [(38 : UInt8)], DV.str [(61 : UInt8)], DV.str [(60 : UInt8), (62 : UInt8)], DV.str [(60 : UInt8)], DV.str [(60 : UInt8), (61 : UInt8)], DV.str [(62 : UInt8)], DV.str [(62 : UInt8), (61 : UInt8)]]), (21, DV.int IntKind.i64 (12 : Int)), (22, DV.int IntKind.i64 ((↑i : Int) + (1 : Int)))] [] [Blk.box [DV.str s, DV.int IntKind.i64 row, DV.int IntKind.i64 col, DV.int IntKind.i64 (↑n : Int), DV.int IntKind.i64 e, DV.int IntKind.i64 no]])))) (obB (inR IntKind.i64 ((↑i : Int) + (1 : Int))) (L (mkS 70 [(0, DV.ptr 70 6 0 0), (1, DV.int IntKind.i64 bind), (5, DV.str rest), (6, DV.int IntKind.i64 (↑best : Int)), (20, DV.psl 1 [DV.str [(43 : UInt8)], DV.str [(45 : UInt8)], DV.str [(42 : UInt8)], DV.str [(47 : UInt8)], DV.str [(94 : UInt8)], DV.str [(38 : UInt8)], DV.str [(61 : UInt8)], DV.str [(60 : UInt8), (62 : UInt8)], DV.str [(60 : UInt8)], DV.str [(60 : UInt8), (61 : UInt8)], DV.str [(62 : UInt8)], DV.str [(62 : UInt8), (61 : UInt8)]]), (21, DV.int IntKind.i64 (12 : Int)), (22, DV.int IntKind.i64 ((↑i : Int) + (1 : Int)))] [] [Blk.box [DV.str s, DV.int IntKind.i64 row, DV.int IntKind.i64 col, DV.int IntKind.i64 (↑n : Int), DV.int IntKind.i64 e, DV.int IntKind.i64 no]])))))))) (obB (inR IntKind.i64 ((↑i : Int) + (1 : Int))) (L (mkS 70 [(0, DV.ptr 70 6 0 0), (1, DV.int IntKind.i64 bind), (5, DV.str rest), (6, DV.int IntKind.i64 (↑best : Int)), (20, DV.psl 1 [DV.str [(43 : UInt8)], DV.str [(45 : UInt8)], DV.str [(42 : UInt8)], DV.str [(47 : UInt8)], DV.str [(94 : UInt8)], DV.str [(38 : UInt8)], DV.str [(61 : UInt8)], DV.str [(60 : UInt8), (62 : UInt8)], DV.str [(60 : UInt8)], DV.str [(60 : UInt8), (61 : UInt8)], DV.str [(62 : UInt8)], DV.str [(62 : UInt8), (61 : UInt8)]]), (21, DV.int IntKind.i64 (12 : Int)), (22, DV.int IntKind.i64 ((↑i : Int) + (1 : Int)))] [] [Blk.box [DV.str s, DV.int IntKind.i64 row, DV.int IntKind.i64 col, DV.int IntKind.i64 (↑n : Int), DV.int IntKind.i64 e, DV.int IntKind.i64 no]]))))) (K (Ex.exit 0) (mkS 70 [(0, DV.ptr 70 6 0 0), (1, DV.int IntKind.i64 bind), (6, DV.int IntKind.i64 (↑best : Int))] [] [Blk.box [DV.str s, DV.int IntKind.i64 row, DV.int IntKind.i64 col, DV.int IntKind.i64 (↑n : Int), DV.int IntKind.i64 e, DV.int IntKind.i64 no]]))) := by kernel_rfl
end Go.Det.Sea
end

section
set_option linter.unusedVariables false
set_option linter.unusedSimpArgs false
namespace Go.Det

/-! Runs with nothing unknown, worked out from the front. -/
section
variable (C : Cfg) (call : Nat → Spec) (f nt : Nat)
def xDo (st : St) (o : Oper) (k : Out → Prop) : Prop :=
  match o.op with
  | .call ⟨.value x, as1, _⟩ =>
    match calleeOf (opnd st.t x) with
    | some (g, first, cap) =>
      callInP C st.h g (first ++ as1.toList.map (opnd st.t) ++ cap) (fun xs' ex back =>
        deepT xs' fun xs' => match C.own g with
        | true =>
          match C.scal g, C.prim g with
          | false, some p => onS (p xs') fun r => onS (back r []) fun out => obB (phiOK nt out) (k out)
          | _, _ => False
        | false => call g xs' ex fun r ex' => onS (back r ex') fun out => obB (phiOK nt out) (k out)) o.dst
    | none => False
  | op => onS (act C f st.t st.h o.dst op) fun out => obB (phiOK nt out) (k out)
def xOps (os : List Oper) : List Oper → St → (List Out → St → Prop) → Prop
  | [], st, k => k [] st
  | o :: l, st, k =>
    match wants os st.t o with
    | some true => xDo C call f nt st o fun out => deepOut out fun out => applyK st o.dst out fun st' => xOps os l st' fun outs st2 => k (out :: outs) st2
    | some false => applyK st o.dst { v := .tup [] } fun st' => xOps os l st' fun outs st2 => k ({ v := .tup [] } :: outs) st2
    | none => False
def xCode : Nat → Code → St → (Ex → St → Prop) → Prop
  | 0, _, _, _ => False
  | n + 1, c, st, k =>
    match c with
    | .skip => k .normal st
    | .label _ => k .normal st
    | .region _ ops draw => xOps C call f nt ops.toList ops.toList st fun outs st' => bif draw then obB (drawOK ops.toList st outs) (k .normal st') else k .normal st'
    | .seq x y => xCode n x st (Ex.on k fun st1 => xCode n y st1 k)
    | .cond c x y => (match opnd st.t c with
      | .bool true => xCode n x st k
      | .bool false => xCode n y st k
      | _ => False)
    | .block id c => xCode n c st (Ex.blocked id k)
    | .loop c => xCode n c st (Ex.on k fun st1 => xCode n (.loop c) st1 k)
    | .exit id => k (.exit id) st
    | .goto l => k (.goto l) st
    | .ret => k .ret st
    | _ => False
end
def xCall (C : Cfg) (N : Nat) : Nat → Nat → Spec
  | 0, _, _, _, _ => False
  | d + 1, g, xs, ex, k =>
    match C.prim g with
    | some p => (match C.own g, ex with
      | false, [] => onS (p xs) fun r => k r []
      | _, _ => False)
    | none => match C.F g with
      | some fi => xCode C (xCall C N d) g fi.nt N fi.code (enterD fi xs ex) (endsP C fi ex k)
      | none => False

section
variable {C : Cfg} {Pr Ow : Nat → List DV → DV → Prop} {call : Nat → Spec} {f nt : Nat}
def PrimsOK' (C : Cfg) (Pr Ow : Nat → List DV → DV → Prop) : Prop := ∀ g p xs r, C.prim g = some p → p xs = some r → (C.own g = false → Pr g xs r) ∧ (C.own g = true → Ow g xs r)
def CallOK' (C : Cfg) (Pr Ow : Nat → List DV → DV → Prop) (call : Nat → Spec) : Prop := ∀ g, C.own g = false → SpecOK C Pr Ow g (call g)

theorem xOps_ok (hp : PrimsOK' C Pr Ow) (hc : CallOK' C Pr Ow call) {os : List Oper} : ∀ {l : List Oper} {st : St} {K : List Out → St → Prop}, xOps C call f nt os l st K → GoO C Pr Ow f nt os l st K
  | [], st, K, h => go_nil h
  | o :: l, st, K, h => by
    simp only [xOps] at h
    split at h
    · rename_i hw
      unfold xDo at h
      split at h
      · rename_i x as1 ts ho
        split at h
        · rename_i g first cap hx
          obtain ⟨xs', ex, e1, h⟩ := callInP_ok h
          rw [deepT_eq] at h
          split at h
          · rename_i hown
            split at h
            · rename_i p hsc hpr
              obtain ⟨r, hr, h⟩ := onS_ok h
              obtain ⟨out, h3, h4⟩ := onS_ok h
              obtain ⟨h5, h6⟩ := obB_ok h4
              rw [deepOut_eq, applyK_eq] at h6
              exact go_callOwn hw ho hx rfl e1 hown hsc ((hp g p xs' r hpr hr).2 hown) h3 h5 rfl (xOps_ok hp hc h6)
            · exact h.elim
          · rename_i hown
            refine go_call hw ho hx rfl e1 hown (hc g hown _ _ _ h) fun r ex' h2 => ?_
            obtain ⟨out, h3, h4⟩ := onS_ok h2
            obtain ⟨h5, h6⟩ := obB_ok h4
            rw [deepOut_eq, applyK_eq] at h6
            exact ⟨out, h3, h5, xOps_ok hp hc h6⟩
        · exact h.elim
      · obtain ⟨out, h1, h2⟩ := onS_ok h
        obtain ⟨h3, h4⟩ := obB_ok h2
        rw [deepOut_eq, applyK_eq] at h4
        exact go_act hw h1 h3 rfl (xOps_ok hp hc h4)
    · rename_i hw
      rw [applyK_eq] at h
      exact go_pass hw rfl (xOps_ok hp hc h)
    · exact h.elim

theorem xCode_ok (hp : PrimsOK' C Pr Ow) (hc : CallOK' C Pr Ow call) : ∀ {n : Nat} {c : Code} {st : St} {K : Ex → St → Prop}, xCode C call f nt n c st K → GoX C Pr Ow f nt c st K ∧ ∀ c', c = .loop c' → GoL C Pr Ow f nt c' st K
  | 0, c, st, K, h => h.elim
  | n + 1, c, st, K, h => by
    unfold xCode at h
    split at h
    · exact ⟨go_skip h, fun c' e => by cases e⟩
    · exact ⟨go_label h, fun c' e => by cases e⟩
    · rename_i id ops draw
      refine ⟨?_, fun c' e => by cases e⟩
      have := xOps_ok hp hc h
      cases draw with
      | false => exact go_region this
      | true =>
        refine go_draw ?_
        obtain ⟨outs, st', a, b⟩ := this
        exact ⟨outs, st', a, obB_ok b⟩
    · rename_i x y
      refine ⟨go_seq ((xCode_ok hp hc h).1.mono fun e st' hq => ?_), fun c' e => by cases e⟩
      cases e with
      | normal => exact (xCode_ok hp hc hq).1
      | exit id => exact hq
      | goto l => exact hq
      | ret => exact hq
    · rename_i c x y
      refine ⟨?_, fun c' e => by cases e⟩
      split at h
      · rename_i hb; exact go_condT hb (xCode_ok hp hc h).1
      · rename_i hb; exact go_condF hb (xCode_ok hp hc h).1
      · exact h.elim
    · exact ⟨go_block (xCode_ok hp hc h).1, fun c' e => by cases e⟩
    · rename_i c1
      have hl : GoL C Pr Ow f nt c1 st K := by
        refine go_round ((xCode_ok hp hc h).1.mono fun e st' hq => ?_)
        cases e with
        | normal => exact (xCode_ok hp hc hq).2 _ rfl
        | exit id => exact hq
        | goto l => exact hq
        | ret => exact hq
      exact ⟨go_loop hl, fun c' e => by cases e; exact hl⟩
    · exact ⟨go_exit h, fun c' e => by cases e⟩
    · exact ⟨go_goto h, fun c' e => by cases e⟩
    · exact ⟨go_ret h, fun c' e => by cases e⟩
    · exact h.elim

theorem xCall_ok (hp : PrimsOK' C Pr Ow) {N : Nat} : ∀ {d : Nat}, CallOK' C Pr Ow (xCall C N d)
  | 0 => fun g _ xs ex k h => h.elim
  | d + 1 => fun g hown xs ex k h => by
    unfold xCall at h
    split at h
    · rename_i p hpr
      split at h
      · obtain ⟨r, hr, h⟩ := onS_ok h
        exact go_prim ((hp g p xs r hpr hr).1 hown) h
      · exact h.elim
    · split at h
      · rename_i fi hf
        exact go_body hf ((xCode_ok hp (xCall_ok hp) h).1.mono fun e st hq => endsP_ok hq)
      · exact h.elim
    termination_by d => d
end
end Go.Det
end
