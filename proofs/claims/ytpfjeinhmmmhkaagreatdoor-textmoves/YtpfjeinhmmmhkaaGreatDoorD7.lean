/- TextMovesCardSaid: part 7 of the texts behind it: Tre1, Fn1, Own1, Own2, Det14, Wk1, Wk2, Wk3, Wk4, Wk5, Wk6, Fn2, Fn3, Tre2, Fn4, Fn5, Fn6, Fn7, Fn8, Fn9, Fn10, Wk7, Wk8, Wk9, Wk10. No premise of its own. -/
import Derived.Test.YtpfjeinhmmmhkaaGreatDoorD6
import Derived.Deep.LoopGhost
import Derived.WalkKit
import Derived.Lib.Walk
import Derived.Lib.SliceRun
import Derived.Shelf.RegionOpenPlain
import Derived.RangeFuncIn
import Derived.RangeFuncRecord
import Derived.TacticsIn
import Derived.LoopNIn
import Derived.RangeFuncNested
set_option linter.all false
section
namespace Go.Det
structure Vl where
  kind : Int
  m : Int
  s : Int
  txt : List UInt8
  b : Bool
  e : Int
structure Rf where
  row : Int
  col : Int
  rr : Bool
  rc : Bool
inductive Tr where
  | mk (kind : Int) (v : Vl) (a b : Rf) (sheet op : Int) (kids : List Tr)
instance : Inhabited Tr := ⟨.mk 0 ⟨0, 0, 0, [], false, 0⟩ ⟨0, 0, false, false⟩ ⟨0, 0, false, false⟩ 0 0 []⟩
namespace Tr
def kind : Tr -> Int | .mk k _ _ _ _ _ _ => k
def v : Tr -> Vl | .mk _ v _ _ _ _ _ => v
def a : Tr -> Rf | .mk _ _ a _ _ _ _ => a
def b : Tr -> Rf | .mk _ _ _ b _ _ _ => b
def sheet : Tr -> Int | .mk _ _ _ _ s _ _ => s
def op : Tr -> Int | .mk _ _ _ _ _ o _ => o
def kids : Tr -> List Tr | .mk _ _ _ _ _ _ l => l
end Tr
def Vl.cells (v : Vl) : List DV := [.int .i64 v.kind, .int .i64 v.m, .int .i64 v.s, .str v.txt, .bool v.b, .int .i64 v.e]
def Rf.cells (r : Rf) : List DV := [.int .i64 r.row, .int .i64 r.col, .bool r.rr, .bool r.rc]
def Vl.dv (v : Vl) : DV := .agg v.cells
def Rf.dv (r : Rf) : DV := .agg r.cells
def Tr.cellsK (t : Tr) (ks : DV) : List DV :=
  [.int .i64 t.kind, .int .i64 t.v.kind, .int .i64 t.v.m, .int .i64 t.v.s, .str t.v.txt, .bool t.v.b, .int .i64 t.v.e,
   .int .i64 t.a.row, .int .i64 t.a.col, .bool t.a.rr, .bool t.a.rc, .int .i64 t.b.row, .int .i64 t.b.col, .bool t.b.rr, .bool t.b.rc, .int .i64 t.sheet, .int .i64 t.op, ks]
mutual
def Tr.enc : Tr -> DV
  | .mk k v a b s o ks => .agg (Tr.cellsK (.mk k v a b s o []) (.psl 18 (Tr.encs ks)))
def Tr.encs : List Tr -> List DV
  | [] => []
  | t :: l => t.enc :: Tr.encs l
end
def Tr.cells (t : Tr) : List DV := t.cellsK (.psl 18 (Tr.encs t.kids))
def Tr.dv (t : Tr) : DV := .agg t.cells
theorem Tr.enc_eq (t : Tr) : t.enc = t.dv := by cases t; rfl
theorem Tr.encs_eq : ∀ l : List Tr, Tr.encs l = l.map Tr.enc
  | [] => rfl
  | t :: l => by simp [Tr.encs, Tr.encs_eq l]
theorem Tr.encs_get {l : List Tr} {i : Nat} (h : i < l.length) : (Tr.encs l)[i]? = some ((l.getD i default).dv) := by
  rw [Tr.encs_eq]
  simp [List.getElem?_eq_getElem h, List.getD_eq_getElem?_getD, Tr.enc_eq]
theorem Tr.encs_len (l : List Tr) : (Tr.encs l).length = l.length := by simp [Tr.encs_eq]
def zeroE : List DV := [.int .i64 0, .int .i64 0, .int .i64 0, .int .i64 0, .str [], .bool false, .int .i64 0, .int .i64 0, .int .i64 0, .bool false, .bool false, .int .i64 0, .int .i64 0, .bool false, .bool false, .int .i64 0, .int .i64 0, .nilsl]
mutual
def Tr.count : Tr -> Nat
  | .mk _ _ _ _ _ _ ks => 1 + Tr.counts ks
def Tr.counts : List Tr -> Nat
  | [] => 0
  | t :: l => t.count + Tr.counts l
end
theorem Tr.count_eq (t : Tr) : t.count = 1 + Tr.counts t.kids := by cases t; rfl
theorem Tr.len_counts : ∀ l : List Tr, l.length <= Tr.counts l
  | [] => Nat.le_refl 0
  | t :: l => by
    have := Tr.len_counts l
    have := Tr.count_eq t
    simp only [List.length_cons, Tr.counts]; omega
def kid (t : Tr) (i : Nat) : Tr := t.kids.getD i default
theorem Tr.counts_get : ∀ (l : List Tr) (i : Nat), i < l.length -> (l.getD i default).count <= Tr.counts l
  | [], _, h => by simp at h
  | t :: l, 0, _ => by simp [Tr.counts]
  | t :: l, i + 1, h => by
    have := Tr.counts_get l i (by simpa using h)
    simp only [List.getD_cons_succ, Tr.counts]; omega
theorem kid_count {t : Tr} {i : Nat} (h : i < t.kids.length) : (kid t i).count < t.count := by
  have := Tr.counts_get t.kids i h
  rw [Tr.count_eq t]
  unfold kid; omega
theorem kids_count (t : Tr) : t.kids.length < t.count := by
  have := Tr.len_counts t.kids
  rw [Tr.count_eq t]; omega
theorem encs_kid {t : Tr} {i : Nat} (h : i < t.kids.length) : (Tr.encs t.kids)[i]? = some (kid t i).dv := Tr.encs_get h
theorem Tr.encs_take (l : List Tr) (i : Nat) : Tr.encs (l.take i) = (Tr.encs l).take i := by rw [Tr.encs_eq, Tr.encs_eq, List.map_take]
theorem encs_snoc {t : Tr} {i : Nat} (h : i < t.kids.length) : Tr.encs (t.kids.take i) ++ [(kid t i).dv] = Tr.encs (t.kids.take (i + 1)) := by
  rw [List.take_add_one, List.getElem?_eq_getElem h, Tr.encs_eq, Tr.encs_eq, List.map_append]
  simp only [Option.toList_some, List.map_cons, List.map_nil, Tr.enc_eq]
  congr 3
  unfold kid
  rw [List.getD_eq_getElem?_getD, List.getElem?_eq_getElem h]; rfl
theorem wk_nil (n : Nat) : WkV .nilsl (.psl n []) := by
  refine ⟨rfl, fun ρ m v h => ?_⟩
  simp only [VR] at h ⊢
  subst h
  exact ⟨none, 0, Nat.le_refl _, rfl, rfl, .inl trivial⟩
theorem wk_agg {l l' : List DV} (hl : WkL l l') (hm : mentsL l' = []) : WkV (.agg l) (.agg l') := by
  refine ⟨by simpa [DV.ments] using hm, fun ρ m v h => ?_⟩
  simp only [VR] at h ⊢
  obtain ⟨vs, h1, h2, h3⟩ := h
  exact ⟨vs, h1, hl.vrl h2, h3⟩
theorem wk_cells (t : Tr) (n : Nat) : WkV (.agg (t.cellsK .nilsl)) (.agg (t.cellsK (.psl n []))) := by
  refine wk_agg ?_ ?_
  · simp only [Tr.cellsK, WkL, true_or, true_and]
    exact ⟨.inr (wk_nil n), trivial⟩
  · simp [Tr.cellsK, mentsL, DV.ments]
theorem take_encs (l : List Tr) (i : Nat) : (Tr.encs (l.take i)).take i = Tr.encs (l.take i) := by rw [← Tr.encs_take, List.take_take, Nat.min_self]
theorem encs_all (l : List Tr) : Tr.encs (l.take l.length) = Tr.encs l := by rw [List.take_length]
theorem take_all_encs (l : List Tr) : (Tr.encs l).take l.length = Tr.encs l := by rw [← Tr.encs_len, List.take_length]
theorem cast_succ (i : Nat) : ((i + 1 : Nat) : Int) = (i : Int) + 1 := rfl
theorem Tr.counts_append : ∀ l m : List Tr, Tr.counts (l ++ m) = Tr.counts l + Tr.counts m
  | [], m => by simp [Tr.counts]
  | t :: l, m => by simp only [List.cons_append, Tr.counts, Tr.counts_append l m]; omega
theorem counts_take {t : Tr} {i : Nat} (h : i < t.kids.length) : Tr.counts (t.kids.take (i + 1)) = Tr.counts (t.kids.take i) + (kid t i).count := by
  rw [List.take_add_one, List.getElem?_eq_getElem h, Tr.counts_append]
  simp only [Option.toList_some, Tr.counts, Nat.add_zero]
  unfold kid
  rw [List.getD_eq_getElem?_getD, List.getElem?_eq_getElem h]; rfl
theorem counts_all (t : Tr) : 1 + Tr.counts (t.kids.take t.kids.length) = t.count := by rw [List.take_length, Tr.count_eq]
theorem counts_le (t : Tr) (i : Nat) : i <= t.kids.length -> i <= Tr.counts (t.kids.take i) := by
  intro h
  have := Tr.len_counts (t.kids.take i)
  rw [List.length_take] at this
  omega
mutual
def shortT : Tr -> Prop
  | .mk _ v _ _ _ _ ks => v.txt.length <= 3000 /\ shortTs ks
def shortTs : List Tr -> Prop
  | [] => True
  | t :: l => shortT t /\ shortTs l
end
theorem shortT_eq (t : Tr) : shortT t ↔ t.v.txt.length <= 3000 /\ shortTs t.kids := by cases t; rfl
theorem shortTs_mem : ∀ {l : List Tr} {t : Tr}, shortTs l -> t ∈ l -> shortT t
  | [], _, _, h => by simp at h
  | x :: l, t, hc, h => by
    rcases List.mem_cons.1 h with rfl | h
    · exact hc.1
    · exact shortTs_mem hc.2 h
theorem shortTs_of : ∀ {l : List Tr}, (∀ t ∈ l, shortT t) -> shortTs l
  | [], _ => trivial
  | x :: l, h => ⟨h x List.mem_cons_self, shortTs_of fun t ht => h t (List.mem_cons_of_mem _ ht)⟩
theorem take_mem_snoc {t x : Tr} {i : Nat} (hi : i < t.kids.length) (hx : x ∈ t.kids.take (i + 1)) : x ∈ t.kids.take i \/ x = kid t i := by
  rw [List.take_add_one, List.getElem?_eq_getElem hi] at hx
  simp only [Option.toList_some, List.mem_append, List.mem_singleton] at hx
  refine hx.imp id fun h => ?_
  rw [h]; unfold kid
  rw [List.getD_eq_getElem?_getD, List.getElem?_eq_getElem hi]; rfl
theorem shortTs_take {t : Tr} {i : Nat} (hi : i < t.kids.length) (h : shortTs (t.kids.take i)) (hk : shortT (kid t i)) : shortTs (t.kids.take (i + 1)) := shortTs_of fun x hx => by
  rcases take_mem_snoc hi hx with hx | rfl
  · exact shortTs_mem h hx
  · exact hk
end Go.Det
end

section
namespace Go.Det.Sea
open Go Go.Det
def areas (t : Tr) : DV := .agg (t.a.cells ++ t.b.cells)
def hd11_0 (t : Tr) : St := mkS 37 [(1, .ptr 1 18 0 0), (2, .ptr 2 18 0 0), (3, .ptr 3 18 0 0), (4, .int .i64 0)] [(1, .box t.cells), (2, .box zeroE), (3, .box (t.cellsK .nilsl))] []
def hd11_1 (t : Tr) (i : Nat) : St := mkS 37 [(1, .ptr 1 18 0 0), (2, .ptr 2 18 0 0), (3, .ptr 3 18 0 0), (4, .int .i64 i)] [(1, .box t.cells), (2, .box zeroE), (3, .box (t.cellsK (.rsl 34 18 0 i))), (34, .row 18 (Tr.encs (t.kids.take i)))] []
def ex11_0 (t : Tr) : St := mkS 37 [(1, .ptr 1 18 0 0), (2, .ptr 2 18 0 0), (3, .ptr 3 18 0 0)] [(1, .box t.cells), (2, .box zeroE), (3, .box (t.cellsK .nilsl))] []
def ex11_1 (t : Tr) (i : Nat) : St := mkS 37 [(1, .ptr 1 18 0 0), (2, .ptr 2 18 0 0), (3, .ptr 3 18 0 0)] [(1, .box t.cells), (2, .box zeroE), (3, .box (t.cellsK (.rsl 34 18 0 i))), (34, .row 18 (Tr.encs (t.kids.take i)))] []
def F11 (t : Tr) (k : Ex -> St -> Prop) : Prop := brB (t.kids.isEmpty) (k (.exit 0) (ex11_0 t)) (k (.exit 0) (ex11_1 t t.kids.length))
def E11b (g : Nat) (t : Tr) (i : Nat) : Env := { ss := [(32, g, callG (i < t.kids.length) [(kid t i).dv] (kid t i).dv)], an := [(31, (kid t i).dv)] }
def E11 (gv ga : Nat) (t : Tr) (L : St -> Prop) : Env := { ss := [(9, gv, callS [t.v.dv] t.v.dv), (12, ga, callS [areas t] (areas t))], ls := [(0, loopS [1, 2, 3, 4] [1, 2, 3, 34] 37 L (F11 t))] }
theorem vc11 (t : Tr) (L : St -> Prop) (Φ : DV -> List Blk -> Prop) : (vcF cfg (E11 31 32 t L) 11 [t.dv] [] Φ) =
    ([Vl.dv (Tr.v t)] = [Vl.dv (Tr.v t)] /\ [DV.agg [DV.int .i64 (Tr.a t).row, DV.int .i64 (Tr.a t).col, DV.bool (Tr.a t).rr, DV.bool (Tr.a t).rc, DV.int .i64 (Tr.b t).row, DV.int .i64 (Tr.b t).col, DV.bool (Tr.b t).rr, DV.bool (Tr.b t).rc]] = [DV.agg [DV.int .i64 (Tr.a t).row, DV.int .i64 (Tr.a t).col, DV.bool (Tr.a t).rr, DV.bool (Tr.a t).rc, DV.int .i64 (Tr.b t).row, DV.int .i64 (Tr.b t).col, DV.bool (Tr.b t).rr, DV.bool (Tr.b t).rc]] /\ L (mkS 37 [(1, DV.ptr 1 18 0 0), (2, DV.ptr 2 18 0 0), (3, DV.ptr 3 18 0 0), (4, DV.int .i64 0)] [(1, Blk.box (Tr.cells t)), (2, Blk.box zeroE), (3, Blk.box (Tr.cellsK t DV.nilsl))] []) /\ brB (List.isEmpty (Tr.kids t)) (Φ (DV.agg (Tr.cellsK t DV.nilsl)) []) (obB (decide (0 + List.length (Tr.kids t) <= List.length (Tr.encs (List.take (List.length (Tr.kids t)) (Tr.kids t))))) (Φ (DV.agg (Tr.cellsK t (DV.psl 18 (List.take (List.length (Tr.kids t)) (Tr.encs (List.take (List.length (Tr.kids t)) (Tr.kids t))))))) []))) := by kernel_rfl
theorem vc11_0 (t : Tr) (L : St -> Prop) (K : Ex -> St -> Prop) : (vcB cfg (E11b 11 t 0) 11 0 (hd11_0 t) (bodyK L [1, 2, 3, 4] [1, 2, 3, 34] [1, 2, 3] [1, 2, 3, 34] 37 K)) =
    (brB (decide ((0 : Int) < (↑(List.length (Tr.encs (Tr.kids t))) : Int))) (obB (decide (0 < List.length (Tr.encs (Tr.kids t)))) ((Tr.encs (Tr.kids t))[Int.toNat (0 : Int)]? = some (Tr.dv (kid t 0)) /\ 0 < List.length (Tr.kids t) /\ [Tr.dv (kid t 0)] = [Tr.dv (kid t 0)] /\ L (mkS 37 [(1, DV.ptr 1 18 0 0), (2, DV.ptr 2 18 0 0), (3, DV.ptr 3 18 0 0), (4, DV.int .i64 1)] [(1, Blk.box (Tr.cells t)), (2, Blk.box zeroE), (3, Blk.box (Tr.cellsK t (DV.rsl 34 18 0 1))), (34, Blk.row 18 [Tr.dv (kid t 0)])] []))) (K (Ex.exit 0) (mkS 37 [(1, DV.ptr 1 18 0 0), (2, DV.ptr 2 18 0 0), (3, DV.ptr 3 18 0 0)] [(1, Blk.box (Tr.cells t)), (2, Blk.box zeroE), (3, Blk.box (Tr.cellsK t DV.nilsl))] []))) := by kernel_rfl
theorem vc11_1 (t : Tr) (i : Nat) (L : St -> Prop) (K : Ex -> St -> Prop) : (vcB cfg (E11b 11 t i) 11 0 (hd11_1 t i) (bodyK L [1, 2, 3, 4] [1, 2, 3, 34] [1, 2, 3] [1, 2, 3, 34] 37 K)) =
    (brB (decide ((↑i : Int) < (↑(List.length (Tr.encs (Tr.kids t))) : Int))) (obB (decide (i < List.length (Tr.encs (Tr.kids t)))) ((Tr.encs (Tr.kids t))[Int.toNat (↑i : Int)]? = some (Tr.dv (kid t i)) /\ i < List.length (Tr.kids t) /\ [Tr.dv (kid t i)] = [Tr.dv (kid t i)] /\ obB (decide (0 + i <= List.length (Tr.encs (List.take i (Tr.kids t))))) (obB (roomy 152 (i + 1)) (obB (inR .i64 ((↑i : Int) + 1)) (L (mkS 37 [(1, DV.ptr 1 18 0 0), (2, DV.ptr 2 18 0 0), (3, DV.ptr 3 18 0 0), (4, DV.int .i64 ((↑i : Int) + 1))] [(1, Blk.box (Tr.cells t)), (2, Blk.box zeroE), (3, Blk.box (Tr.cellsK t (DV.rsl 34 18 0 (i + 1)))), (34, Blk.row 18 (List.take i (Tr.encs (List.take i (Tr.kids t))) ++ [Tr.dv (kid t i)]))] [])))))) (K (Ex.exit 0) (mkS 37 [(1, DV.ptr 1 18 0 0), (2, DV.ptr 2 18 0 0), (3, DV.ptr 3 18 0 0)] [(1, Blk.box (Tr.cells t)), (2, Blk.box zeroE), (3, Blk.box (Tr.cellsK t (DV.rsl 34 18 0 i))), (34, Blk.row 18 (Tr.encs (List.take i (Tr.kids t))))] []))) := by kernel_rfl
def E31 (g : Nat) (v : Vl) : Env := { cs := [(g, callS [.agg [.int .i64 v.m, .int .i64 v.s]] (.agg [.int .i64 v.m, .int .i64 v.s]))] }
def E0 : Env := {}
def E32 (g : Nat) (a b : Rf) : Env := { ss := [(5, g, callS [a.dv] a.dv), (8, g, callS [b.dv] b.dv)] }
theorem vc31 (v : Vl) (Φ : DV -> List Blk -> Prop) : (vcF cfg (E31 62 v) 31 [v.dv] [] Φ) =
    ([DV.agg [DV.int .i64 v.m, DV.int .i64 v.s]] = [DV.agg [DV.int .i64 v.m, DV.int .i64 v.s]] /\ Φ (Vl.dv v) []) := by kernel_rfl
theorem vc62 (m s : Int) (Φ : DV -> List Blk -> Prop) : (vcF cfg E0 62 [.agg [.int .i64 m, .int .i64 s]] [] Φ) =
    (Φ (DV.agg [DV.int .i64 m, DV.int .i64 s]) []) := by kernel_rfl
theorem vc32 (a b : Rf) (Φ : DV -> List Blk -> Prop) : (vcF cfg (E32 63 a b) 32 [.agg (a.cells ++ b.cells)] [] Φ) =
    ([Rf.dv a] = [Rf.dv a] /\ [Rf.dv b] = [Rf.dv b] /\ Φ (DV.agg [DV.int .i64 a.row, DV.int .i64 a.col, DV.bool a.rr, DV.bool a.rc, DV.int .i64 b.row, DV.int .i64 b.col, DV.bool b.rr, DV.bool b.rc]) []) := by kernel_rfl
theorem vc63 (a : Rf) (Φ : DV -> List Blk -> Prop) : (vcF cfg E0 63 [a.dv] [] Φ) =
    (Φ (Rf.dv a) []) := by kernel_rfl
section
variable {Pr Ow : Nat -> List DV -> DV -> Prop}
theorem E0_ok : EnvOK cfg Pr Ow E0 := envOK trivial trivial trivial
theorem nt11 : ntOf cfg 11 = 37 := by kernel_rfl
theorem nd11 : nodupK (loops 0 (codeOf cfg 11)) = true := by kernel_rfl
theorem f62_ok (m s : Int) : SpecOK cfg Pr Ow 62 (callS [.agg [.int .i64 m, .int .i64 s]] (.agg [.int .i64 m, .int .i64 s])) := callS_ok fun Φ h =>
  fn_of0 E0_ok rfl (by rw [vc62]; exact h)
theorem f31_ok (v : Vl) : SpecOK cfg Pr Ow 31 (callS [v.dv] v.dv) := callS_ok fun Φ h =>
  fn_of0 (E := E31 62 v) (envOK ⟨f62_ok _ _, trivial⟩ trivial trivial) rfl (by rw [vc31]; exact ⟨rfl, h⟩)
theorem f63_ok (a : Rf) : SpecOK cfg Pr Ow 63 (callS [a.dv] a.dv) := callS_ok fun Φ h =>
  fn_of0 E0_ok rfl (by rw [vc63]; exact h)
theorem f32_ok (t : Tr) : SpecOK cfg Pr Ow 32 (callS [areas t] (areas t)) := callS_ok fun Φ h =>
  fn_of0 (E := E32 63 t.a t.b) (envOK trivial ⟨f63_ok _, f63_ok _, trivial⟩ trivial) rfl (by unfold areas; rw [vc32]; exact ⟨rfl, rfl, h⟩)
theorem loop11_1 {t : Tr} (hn : t.count <= 1000000) (ih : ∀ i, i < t.kids.length -> ∀ Φ : DV -> List Blk -> Prop, Φ (kid t i).dv [] -> GoC cfg Pr Ow 11 [(kid t i).dv] [] Φ) {K : Ex -> St -> Prop} (hK : K (.exit 0) (ex11_1 t t.kids.length)) :
    ∀ i, i <= t.kids.length -> GoL cfg Pr Ow 11 37 (bodyOf cfg 11 0) (hd11_1 t i) K := by
  have hc := kids_count t
  refine count_loop (E := fun i => E11b 11 t i) (ks := [1, 2, 3, 4]) (bs := [1, 2, 3, 34]) (ks2 := [1, 2, 3]) (bs2 := [1, 2, 3, 34]) nt11 (fun i _ => envOK trivial ⟨callG_ok (ih i), trivial⟩ trivial) (fun _ => ⟨rfl, rfl⟩) ?_
  intro i hi L hL
  rw [vc11_1]
  refine brB_of (fun h => ?_) (fun h => ?_)
  · have hlt : i < t.kids.length := by simpa [Tr.encs_len] using h
    simp only [obB_iff, decide_eq_true_eq, Tr.encs_len, List.length_take]
    refine ⟨hlt, encs_kid hlt, hlt, trivial, by omega, roomy_of (by omega) (by omega), inR64 (by omega), ?_⟩
    rw [take_encs, encs_snoc hlt, ← cast_succ]
    exact hL hlt
  · simp only [decide_eq_false_iff_not, Tr.encs_len] at h
    obtain rfl : i = t.kids.length := by omega
    exact hK
theorem loop11_0 {t : Tr} (hn : t.count <= 1000000) (ih : ∀ i, i < t.kids.length -> ∀ Φ : DV -> List Blk -> Prop, Φ (kid t i).dv [] -> GoC cfg Pr Ow 11 [(kid t i).dv] [] Φ) {K : Ex -> St -> Prop} (hK : F11 t K) :
    GoL cfg Pr Ow 11 37 (bodyOf cfg 11 0) (hd11_0 t) K := by
  have hc := kids_count t
  unfold F11 at hK
  rw [brB_iff] at hK
  refine round_of (E := E11b 11 t 0) (L := fun st => 0 < t.kids.length /\ st = hd11_1 t 1) (ks := [1, 2, 3, 4]) (bs := [1, 2, 3, 34]) (ks2 := [1, 2, 3]) (bs2 := [1, 2, 3, 34]) (envOK trivial ⟨callG_ok (ih 0), trivial⟩ trivial) nt11 rfl ?_ ?_
  · rw [vc11_0]
    refine brB_of (fun h => ?_) (fun h => ?_)
    · have hlt : 0 < t.kids.length := by simpa [Tr.encs_len] using h
      simp only [obB_iff, decide_eq_true_eq, Tr.encs_len]
      refine ⟨hlt, encs_kid hlt, hlt, trivial, hlt, ?_⟩
      have := encs_snoc hlt
      simp only [List.take_zero, Tr.encs, List.nil_append] at this
      rw [this]; rfl
    · simp only [decide_eq_false_iff_not, Tr.encs_len] at h
      exact hK.1 (by rw [List.isEmpty_iff, ← List.length_eq_zero_iff]; omega)
  · rintro _ ⟨h0, rfl⟩
    refine loop11_1 hn ih (hK.2 ?_) 1 h0
    cases hk : t.kids with
    | nil => rw [hk] at h0; simp at h0
    | cons _ _ => rfl
theorem to_go : ∀ (t : Tr), t.count <= 1000000 -> ∀ Φ : DV -> List Blk -> Prop, Φ t.dv [] -> GoC cfg Pr Ow 11 [t.dv] [] Φ := by
  intro t
  induction hm : t.count using Nat.strongRecOn generalizing t with
  | _ m ih =>
    subst hm
    intro hn Φ hΦ
    have ih' : ∀ i, i < t.kids.length -> ∀ Φ : DV -> List Blk -> Prop, Φ (kid t i).dv [] -> GoC cfg Pr Ow 11 [(kid t i).dv] [] Φ := fun i hi =>
      ih _ (kid_count hi) (kid t i) rfl (by have := kid_count hi; omega)
    refine go_wk (WkL.refl _) (fn_of (E := E11 31 32 t fun st => st = hd11_0 t) (envOK trivial ⟨f31_ok _, f32_ok _, trivial⟩ trivial) nt11 nd11 ?_ ?_)
    · intro b sp hl st k hs
      simp only [E11, look] at hl
      cases hb : Nat.beq b 0 with
      | false => rw [hb] at hl; simp at hl
      | true =>
        obtain rfl := Nat.eq_of_beq_eq_true hb
        simp only [Nat.beq_refl, cond_true, Option.some.injEq] at hl
        subst hl
        exact loopS_ok (fun st hst k hk => by subst hst; exact loop11_0 hn ih' hk) hs
    · rw [vc11]
      refine ⟨rfl, rfl, rfl, brB_of (fun h => ?_) (fun h => ?_)⟩
      · refine ⟨_, .inr (wk_cells t 18), ?_⟩
        have : t.kids = [] := by simpa using h
        have hd : t.dv = .agg (t.cellsK (.psl 18 [])) := by unfold Tr.dv Tr.cells; rw [this]; rfl
        rwa [← hd]
      · simp only [obB_iff, decide_eq_true_eq, Tr.encs_len, List.length_take, encs_all, take_all_encs]
        exact ⟨by omega, _, .inl rfl, hΦ⟩
end
end Go.Det.Sea
end

section
namespace Go.Det.Sea
open Go Go.Det
theorem vc43 (x : DV) (es : List DV) (R : DV -> Option Blk -> Prop) : (vcO cfg E0 43 [.psl 18 (x :: es)] R) =
    (obB (roomy 152 (0 + List.length (x :: es))) (R (DV.rsl 7 18 0 (0 + List.length (x :: es))) (some (Blk.row (Ti.mk (Td.st [(0, (3 : TypeId)), (1, (42 : TypeId)), (7, (45 : TypeId)), (15, (3 : TypeId)), (16, (3 : TypeId)), (17, (46 : TypeId))]) 18 152 [DV.int .i64 0, DV.int .i64 0, DV.int .i64 0, DV.int .i64 0, DV.str [], DV.bool false, DV.int .i64 0, DV.int .i64 0, DV.int .i64 0, DV.bool false, DV.bool false, DV.int .i64 0, DV.int .i64 0, DV.bool false, DV.bool false, DV.int .i64 0, DV.int .i64 0, DV.nilsl]).size (List.take 0 (List.drop 0 []) ++ x :: es))))) := by kernel_rfl
theorem mixed_ok : (Go.Proofs.Tryz.prog).follows .mixedOrders = true := by kernel_rfl
theorem cfgT : cfg.T = tys := by kernel_rfl
theorem cfgF : cfg.F = fiOf Go.Proofs.Tryz.prog := by kernel_rfl
theorem base_ok {Pr Ow : Nat -> List DV -> DV -> Prop} (hp : ∀ g xs r, Pr g xs r -> Callable Go.Proofs.Tryz.prog g /\ CallOK Go.Proofs.Tryz.prog cfg g xs [] r []) (ho : ∀ g xs r, Ow g xs r -> Callable Go.Proofs.Tryz.prog g /\ OwnOK Go.Proofs.Tryz.prog cfg g xs r) : CfgOK Go.Proofs.Tryz.prog cfg Pr Ow := by
  refine ⟨?_, ?_, hp, ho, mixed_ok, fun _ _ _ _ _ _ h => (show False from h).elim⟩
  · rw [cfgT]; exact tys_ok
  · rw [cfgF]; exact fun _ _ h => fiOf_ok h
theorem clone_cons (x : DV) (es : List DV) (h : es.length <= 1000000) : Callable Go.Proofs.Tryz.prog 43 /\ OwnOK Go.Proofs.Tryz.prog cfg 43 [.psl 18 (x :: es)] (.psl 18 (x :: es)) := by
  refine own_fn (base_ok (Pr := fun _ _ _ => False) (Ow := fun _ _ _ => False) (fun _ _ _ h => h.elim) (fun _ _ _ h => h.elim)) E0_ok (g := 43) rfl rfl ?_
  rw [vc43]
  refine obB_of (roomy_of (by simp; omega) (by simp; omega)) ⟨⟨7, by simp⟩, rfl⟩
end Go.Det.Sea
end

section
namespace Go.Proofs
open Go.RowKit Go.Lib
theorem clone0_nil (cap : Nat) (w : World) : Calls Tryz.prog 43 #[.slice none 0 cap] w fun e w' => e = .returned (.slice none 0 0) /\ w' = w := by
  have q22 : ∀ (w : World) (a : Option Addr) (n c n' c' : Nat), (binOp .eql 46 (.slice a n c) (.slice none n' c')).run Tryz.prog w = .ok (.bool a.isNone) w := fun w a n c n' c' => Lib.run_eql_slice_nil w _ _ a n c n' c' Tryz.underlying46
  go_enter Tryz.func43, Tryz.ntmps43
  go_wp2
  go_ret
  exact ⟨rfl, rfl⟩
theorem info48 : (Tryz.prog.info? 48).map (fun i => (i.zero, i.size, i.bytes)) = some (some (.agg #[.int .i64 0, .int .i64 0, .int .i64 0, .int .i64 0, .string ⟨#[]⟩, .bool false, .int .i64 0, .int .i64 0, .int .i64 0, .bool false, .bool false, .int .i64 0, .int .i64 0, .bool false, .bool false, .int .i64 0, .int .i64 0, .slice none 0 0]), 18, 152) := by kernel_rfl
set_option maxHeartbeats 2000000 in
set_option maxRecDepth 100000 in
theorem clone0_some (ad : Addr) (cap : Nat) (w : World) : Calls Tryz.prog 43 #[.slice (some ad) 0 cap] w fun e w' => ∃ v', e = .returned v' /\ w'.ownsRow w.heap.size 48 18 v' 0 [] /\ Below w.heap.size w w' := by
  obtain ⟨i0, hi, hz0, hz1, hz2⟩ := info_parts info48
  have t46 := Tryz.underlying46
  have q22 : ∀ (w : World) (a : Option Addr) (n c n' c' : Nat), (binOp .eql 46 (.slice a n c) (.slice none n' c')).run Tryz.prog w = .ok (.bool a.isNone) w := fun w a n c n' c' => Lib.run_eql_slice_nil w _ _ a n c n' c' Tryz.underlying46
  have u46 : ∀ w, Sem.run Tryz.prog (underlying 46) w = .ok (TypeDesc.slice 48) w := run_underlying t46
  go_enter Tryz.func43, Tryz.ntmps43
  go_wp2_with (at_builtin; refine wpList_append_own _ rfl _ _ 46 rfl w.heap.size 48 i0 _ 18 152 t46 hi hz0 hz1 hz2 rfl (by decide) _ _ _ rfl (World.ownsRow_made w #[] 0 (Nat.le_refl _) (Nat.zero_le _) rfl) ad 0 cap [] rfl ?qc1 ?qc2 ?qc3 ?qc4 ?qc5 ?qc6 ?_)
  case qc1 => rfl
  case qc2 => intro j u hj; simp at hj
  case qc3 => intro u hu; simp at hu
  case qc4 => unfold maxLen; omega
  case qc5 => omega
  case qc6 => simp
  intro v' w1 hown hgrow hnil
  go_wp2
  go_ret
  refine ⟨v', rfl, by simpa using hown, ?_⟩
  exact ((Below.refl _ w).alloc (Nat.le_refl _) _).grown hgrow (by simp) (by intro k hk; simp [Value.ownBlock] at hk; omega)
end Go.Proofs
namespace Go.Det.Sea
open Go Go.Det Go.Proofs Go.RowKit
theorem evo_below {w w' : World} (h : Below w.heap.size w w') : Evo [] w w' := ⟨h.os, h.tape, h.output, h.size, fun r hr _ => h.block r hr⟩
theorem ro_below {m : Ro} {w w' : World} (hr : RoOK m w) (h : Below w.heap.size w w') : RoOK m w' := by
  refine ⟨fun r c hc => ?_, fun r x hx => ?_⟩
  · obtain ⟨el, fr, h1⟩ := hr.1 r c hc
    exact ⟨el, fr, by rw [h.block r (Array.getElem?_eq_some_iff.1 h1).1]; exact h1⟩
  · obtain ⟨h1, h2⟩ := hr.2 r x hx
    exact ⟨by rw [h.block r (Array.getElem?_eq_some_iff.1 h1).1]; exact h1, h2⟩
theorem clone_nil : Callable Go.Proofs.Tryz.prog 43 /\ OwnOK Go.Proofs.Tryz.prog cfg 43 [.psl 18 []] (.psl 18 []) := by
  refine ⟨⟨Go.Proofs.Tryz.f43, Go.Proofs.Tryz.func43, by kernel_rfl, of_decide_eq_true (by kernel_rfl)⟩, rfl, ?_⟩
  intro ρ m w vals hG hro hx
  simp only [VRL] at hx
  obtain ⟨v, r, hv, hvr, rfl⟩ := hx
  have hvals : vals = #[v] := by
    cases vals with | mk l => simp at hv; simp [hv]
  subst hvals
  simp only [VR] at hvr
  obtain ⟨a, cap, h1, rfl, h2, _⟩ := hvr
  cases a with
  | none =>
    refine (Go.Proofs.clone0_nil cap w).mono ?_
    rintro e w' ⟨rfl, rfl⟩
    refine ⟨_, m, rfl, hro, Grows.refl _ _, Evo.refl _ _, ?_⟩
    simp only [VR]
    exact ⟨none, 0, Nat.le_refl _, rfl, rfl, .inl trivial⟩
  | some ad =>
    refine (Go.Proofs.clone0_some ad cap w).mono ?_
    rintro e w' ⟨v', rfl, hown, hb⟩
    refine ⟨_, m, rfl, ro_below hro hb, Grows.refl _ _, evo_below hb, ?_⟩
    simp only [VR]
    obtain ⟨_, hown⟩ := hown
    rcases hown with ⟨rfl, _⟩ | ⟨g, cap', cur, rfl, _⟩
    · exact ⟨none, 0, Nat.le_refl _, rfl, rfl, .inl trivial⟩
    · exact ⟨_, cap', Nat.zero_le _, rfl, rfl, .inl trivial⟩
def owS (g : Nat) (xs : List DV) (r : DV) : Prop := g = 43 /\ ∃ es : List DV, es.length <= 1000000 /\ xs = [.psl 18 es] /\ r = .psl 18 es
theorem owS_ok : ∀ g xs r, owS g xs r -> Callable Go.Proofs.Tryz.prog g /\ OwnOK Go.Proofs.Tryz.prog cfg g xs r := by
  rintro g xs r ⟨rfl, es, hl, rfl, rfl⟩
  cases es with
  | nil => exact clone_nil
  | cons x es => exact clone_cons x es (by simp at hl; omega)
end Go.Det.Sea
end

section
namespace Go.Det
def FR (r : Option Nat) : Fence := { Fence.wide with round := r }
def quietO (o : Oper) : Bool := match o.op with
  | .call ⟨.value _, _, _⟩ => false
  | .defer _ => false
  | _ => true
section
variable {P : Program} {C : Cfg} {Pr Ow : Nat -> List DV -> DV -> Prop}
theorem step_actR (hT : ∀ t ti, C.T t = some ti -> TiOK P t ti) {r0 : Option Nat} {n f : Nat} {os : List Oper} {o : Oper} {st : St} {out : Out} (hw : wants os st.t o = some true) (ha : act C f st.t st.h o.dst o.op = some out) (hq : quietO o = true)
    {w0 : World} {L : List Nat} {m0 : Ro} {a : Act} {w : World} {ρ : Rho} {m : Ro} (hG : GlobOK C m0) (r : Rel w0 L m0 st a w ρ m) {K : Act -> World -> Prop} {Q : Exit -> Act -> World -> Prop}
    (hK : ∀ a' w' ρ' m', Rel w0 L m0 (apply st o.dst out) a' w' ρ' m' -> (∀ b, b ∉ out.φ -> ρ b = ρ' b) -> a'.defers = a.defers -> K a' w') :
    Region.wanted o (yielded os.toArray a.tmps) = true /\ o.wpIn (FR r0) n P a w K Q := by
  refine ⟨wanted_eq r hw, fun _ _ => trivial, ?_⟩
  obtain ⟨nx, v', w', ρ', m', h1, h2, h3⟩ := act_ok hT r hG ha
  rw [Oper.semAt_eq _ _ _ (by intro c hc; simp [quietO, hc] at hq), h1]
  rcases h2 with rfl | ⟨rfl, rfl⟩
  · rw [Oper.uponIn_value]; exact hK _ _ _ _ (r.apply h3 _) h3.rho (by cases o.dst <;> rfl)
  · rw [Oper.uponIn_skip]; exact hK _ _ _ _ (r.apply h3 _) h3.rho (by cases o.dst <;> rfl)
def InR (P : Program) (C : Cfg) (r0 : Option Nat) (n : Nat) : J -> Prop
  | .ops f nt os l st outs st' => l.all quietO = true -> ∀ (l2 : List Oper) w0 L m0 a w ρ m Q, GlobOK C m0 -> Rel w0 L m0 st a w ρ m -> 
      (∀ a' w' ρ' m', Rel w0 L m0 st' a' w' ρ' m' -> (∀ b, b ∉ outs.flatMap (·.φ) -> ρ b = ρ' b) -> a'.defers = a.defers -> wpListIn (FR r0) n P os.toArray Q l2 a' w') -> 
      wpListIn (FR r0) n P os.toArray Q (l ++ l2) a w
  | _ => True
theorem runInR (hT : ∀ t ti, C.T t = some ti -> TiOK P t ti) {r0 : Option Nat} {n : Nat} : ∀ {j : J}, Run C Pr Ow j -> InR P C r0 n j := by
  intro j h
  induction h with
  | nil =>
    intro _ l2 w0 L m0 a w ρ m Q hG r hQ
    exact hQ a w ρ m r (fun _ _ => rfl) rfl
  | act hw ha hφ h1 i1 =>
    intro hq l2 w0 L m0 a w ρ m Q hG r hQ
    simp only [List.all_cons, Bool.and_eq_true] at hq
    have := step_actR hT (r0 := r0) (n := n) (Q := Q) hw ha hq.1 hG r (K := wpListIn (FR r0) n P _ Q (_ ++ l2)) fun a' w' ρ' m' r' hρ hd => i1 hq.2 l2 w0 L m0 a' w' ρ' m' Q hG r' fun a2 w2 ρ2 m2 r2 hρ2 hd2 =>
      hQ a2 w2 ρ2 m2 r2 (fun b hb => by
        simp only [List.flatMap_cons, List.mem_append, not_or] at hb
        exact (hρ b hb.1).trans (hρ2 b hb.2)) (hd2.trans hd)
    rw [List.cons_append]
    simp only [wpListIn]
    rw [if_pos this.1]
    exact this.2
  | pass hw h1 i1 =>
    intro hq l2 w0 L m0 a w ρ m Q hG r hQ
    simp only [List.all_cons, Bool.and_eq_true] at hq
    have hu : VR ρ m (.tup []) undef := by simp only [VR, VRL, undef]; exact ⟨#[], rfl, rfl⟩
    rw [List.cons_append]
    simp only [wpListIn]
    rw [if_neg (by rw [wanted_eq r hw]; simp)]
    refine ⟨fun _ _ => trivial, i1 hq.2 l2 w0 L m0 _ w ρ m Q hG (r.apply (post_same r.inv r.evo hu) _) fun a2 w2 ρ2 m2 r2 hρ2 hd2 => hQ a2 w2 ρ2 m2 r2 (fun b hb => ?_) (hd2.trans ?_)⟩
    · simp only [List.flatMap_cons, List.mem_append, not_or] at hb
      exact hρ2 b hb.2
    · unfold Act.put; split <;> rfl
  | callF hw ho hx e1 hown h1 e2 hφ h2 i1 i2 =>
    intro hq
    simp only [List.all_cons, Bool.and_eq_true] at hq
    simp [quietO, ho] at hq
  | callOwn hw ho hx e1 hown hsc how e2 hφ h2 i2 =>
    intro hq
    simp only [List.all_cons, Bool.and_eq_true] at hq
    simp [quietO, ho] at hq
  | _ => trivial
theorem ops_in (hT : ∀ t ti, C.T t = some ti -> TiOK P t ti) {r0 : Option Nat} {n f nt : Nat} {os l l2 : List Oper} {st : St} {K : List Out -> St -> Prop} (h : GoO C Pr Ow f nt os l st K) (hq : l.all quietO = true)
    {w0 : World} {L : List Nat} {m0 : Ro} {a : Act} {w : World} {ρ : Rho} {m : Ro} {Q : Exit -> Act -> World -> Prop} (hG : GlobOK C m0) (r : Rel w0 L m0 st a w ρ m)
    (hQ : ∀ outs st' a' w' ρ' m', K outs st' -> Rel w0 L m0 st' a' w' ρ' m' -> (∀ b, b ∉ outs.flatMap (·.φ) -> ρ b = ρ' b) -> a'.defers = a.defers -> wpListIn (FR r0) n P os.toArray Q l2 a' w') :
    wpListIn (FR r0) n P os.toArray Q (l ++ l2) a w := by
  obtain ⟨outs, st', h1, h2⟩ := h
  exact runInR hT h1 hq l2 w0 L m0 a w ρ m Q hG r fun a' w' ρ' m' r' hρ hd => hQ outs st' a' w' ρ' m' h2 r' hρ hd
theorem region_in (hT : ∀ t ti, C.T t = some ti -> TiOK P t ti) {r0 : Option Nat} {n f nt id : Nat} {ops : Array Oper} {st : St} {K : List Out -> St -> Prop} (h : GoO C Pr Ow f nt ops.toList ops.toList st K) (hq : ops.toList.all quietO = true)
    {w0 : World} {L : List Nat} {m0 : Ro} {a : Act} {w : World} {ρ : Rho} {m : Ro} {Q : Exit -> Act -> World -> Prop} (hG : GlobOK C m0) (r : Rel w0 L m0 st a w ρ m)
    (hQ : ∀ outs st' a' w' ρ' m', K outs st' -> Rel w0 L m0 st' a' w' ρ' m' -> (∀ b, b ∉ outs.flatMap (·.φ) -> ρ b = ρ' b) -> a'.defers = a.defers -> Q .normal a' w') :
    (Code.region id ops false).wpIn (FR r0) n P Q a w := by
  refine wpIn_region_list ?_
  have := ops_in hT (r0 := r0) (n := n) (l2 := []) h hq hG r (Q := Q) hQ
  simpa using this
def Ro.put (m : Ro) (D : Nat) (y : Obj) : Ro := ⟨m.c, fun r => if r = D then some y else m.o r⟩
theorem Ro.put_same (m : Ro) (D : Nat) (y : Obj) : (m.put D y).o D = some y := by simp [Ro.put]
theorem Ro.put_other (m : Ro) {D r : Nat} (y : Obj) (h : r ≠ D) : (m.put D y).o r = m.o r := by simp [Ro.put, h]
theorem RoOK.of {ρ : Rho} {m : Ro} {L : List Nat} {N : Nat} {h : Heap} {w : World} (i : Inv ρ m L N h w) : RoOK m w := ⟨i.ro, i.oth⟩
theorem Inv.putO {ρ : Rho} {m : Ro} {L : List Nat} {N : Nat} {h : Heap} {w : World} {D : Nat} {x y : Obj} (i : Inv ρ m L N h w) (hD : m.o D = some x) (hy : isCellsO y = false) : Inv ρ (m.put D y) L N h (w.putObj D y) := by
  have far : ∀ {p : Loc} {b : Blk}, BR ρ m w p b -> (w.putObj D y).heap[p.blk]? = w.heap[p.blk]? := fun hB => World.putObj_heap_other (fun e => i.oth_ne hB hD e.symm)
  refine ⟨fun b z hz => ?_, i.inj, fun r c hc => ?_, fun r z hz => ?_⟩
  · obtain ⟨p, h1, h2, h3⟩ := i.blk b z hz
    have := BR.step (m := m) (m' := m.put D y) (fun _ _ h => h) [] (fun _ _ => rfl) (far h2) h2
    rw [Blk.forget_nil] at this
    exact ⟨p, h1, this, h3⟩
  · obtain ⟨el, fr, hh⟩ := i.ro r c hc
    refine ⟨el, fr, (World.putObj_heap_other ?_).trans hh⟩
    rintro rfl
    obtain ⟨k1, k2⟩ := i.oth _ _ hD
    rw [hh] at k1; cases k1; simp [isCellsO] at k2
  · replace hz : (if r = D then some y else m.o r) = some z := hz
    by_cases e : r = D
    · rw [if_pos e, Option.some.injEq] at hz; subst e hz
      exact ⟨World.putObj_heap_same (i.oth_lt hD), hy⟩
    · rw [if_neg e] at hz
      obtain ⟨k1, k2⟩ := i.oth _ _ hz
      exact ⟨(World.putObj_heap_other e).trans k1, k2⟩
theorem Inv.allocO {ρ : Rho} {m : Ro} {L : List Nat} {N : Nat} {h : Heap} {w : World} (i : Inv ρ m L N h w) {y : Obj} (hy : isCellsO y = false) : Inv ρ (m.put w.heap.size y) L N h (w.alloc y) := by
  refine ⟨fun b z hz => ?_, i.inj, fun r c hc => ?_, fun r z hz => ?_⟩
  · obtain ⟨p, h1, h2, h3⟩ := i.blk b z hz
    have := BR.step (m := m) (m' := m.put w.heap.size y) (fun _ _ h => h) [] (fun _ _ => rfl) (alloc_get_lt w y h2.lt) h2
    rw [Blk.forget_nil] at this
    exact ⟨p, h1, this, h3⟩
  · obtain ⟨el, fr, hh⟩ := i.ro r c hc
    exact ⟨el, fr, (alloc_get_lt w y (i.ro_lt hc)).trans hh⟩
  · replace hz : (if r = w.heap.size then some y else m.o r) = some z := hz
    by_cases e : r = w.heap.size
    · rw [if_pos e, Option.some.injEq] at hz; subst e hz
      exact ⟨alloc_get_new w _, hy⟩
    · rw [if_neg e] at hz
      obtain ⟨k1, k2⟩ := i.oth _ _ hz
      exact ⟨(alloc_get_lt w y (i.oth_lt hz)).trans k1, k2⟩
theorem Inv.later {ρ : Rho} {m m' : Ro} {L : List Nat} {N : Nat} {h : Heap} {w w' : World} (i : Inv ρ m L N h w) (e : Evo [] w w') (g : Grows w.heap.size m m') (ro : RoOK m' w') : Inv ρ m' L N h w' := by
  refine ⟨fun b z hz => ?_, i.inj, ro.1, ro.2⟩
  obtain ⟨p, h1, h2, h3, h4⟩ := i.blk b z hz
  have := BR.step g.1 [] (fun _ _ => rfl) (e.keep p.blk h2.lt (by simp)) h2
  rw [Blk.forget_nil] at this
  exact ⟨p, h1, this, (g.2 _ h2.lt).trans h3, h4⟩
theorem Evo.putO {L : List Nat} {w0 w : World} {D : Nat} (e : Evo L w0 w) (hD : w0.heap.size <= D) (y : Obj) : Evo L w0 (w.putObj D y) :=
  ⟨e.os, e.tape, e.output, by simpa using e.size, fun r hr hL => (World.putObj_heap_other (by omega)).trans (e.keep r hr hL)⟩
theorem Evo.after {L : List Nat} {w0 w w' : World} (e : Evo L w0 w) (k : Evo [] w w') : Evo L w0 w' :=
  ⟨k.os.trans e.os, k.tape.trans e.tape, k.output.trans e.output, Nat.le_trans e.size k.size, fun r hr hL => (k.keep r (Nat.lt_of_lt_of_le hr e.size) (by simp)).trans (e.keep r hr hL)⟩
end
end Go.Det
end

section
namespace Go.Det.Sea
open Go Go.Det
def regOf (i : Nat) : Code -> Option (Array Oper)
  | .region id ops _ => bif Nat.beq id i then some ops else none
  | .seq a b => match regOf i a with
    | some x => some x
    | none => regOf i b
  | .cond _ a b => match regOf i a with
    | some x => some x
    | none => regOf i b
  | .block _ a => regOf i a
  | .loop a => regOf i a
  | .scope a => regOf i a
  | .rangeFunc _ _ a b => match regOf i a with
    | some x => some x
    | none => regOf i b
  | _ => none
noncomputable def reg (g i : Nat) : Array Oper := match regOf i (codeOf cfg g) with
  | some x => x
  | none => #[]
def itS0 (l : Nat) (es : List DV) : St := { t := [.fn (.yield l) [] [], .eptr 1 [.psl 18 es] 0 0] ++ List.replicate 17 (.tup []), h := [] }
def itH (l : Nat) (es : List DV) (i : Int) : St := mkS 19 [(0, .fn (.yield l) [] []), (1, .eptr 1 [.psl 18 es] 0 0), (3, .int .i64 i)] [] []
def itY (l : Nat) (es : List DV) (i : Int) (x : DV) : St := mkS 19 [(0, .fn (.yield l) [] []), (1, .eptr 1 [.psl 18 es] 0 0), (3, .int .i64 i), (11, .fn (.yield l) [] []), (12, .int .i64 i), (16, x)] [] []
def itB (l : Nat) (es : List DV) (i : Int) (b : Bool) : St := mkS 19 [(0, .fn (.yield l) [] []), (1, .eptr 1 [.psl 18 es] 0 0), (3, .int .i64 i), (17, .bool b)] [] []
theorem it0v (l : Nat) (es : List DV) (M : St -> Prop) : (vcOps cfg {} 127 19 (reg 127 0).toList (reg 127 0).toList (itS0 l es) (fun outs st => M (keepT [0, 1, 3] [] 19 st))) =
    (obB (inR .i64 ((↑(List.length es) : Int) - 1)) (M (St.mk [DV.fn (Fn.yield l) [] [], DV.eptr 1 [DV.psl 18 es] 0 0, DV.unk, DV.int .i64 ((↑(List.length es) : Int) - 1), DV.unk, DV.unk, DV.unk, DV.unk, DV.unk, DV.unk, DV.unk, DV.unk, DV.unk, DV.unk, DV.unk, DV.unk, DV.unk, DV.unk, DV.unk] []))) := by kernel_rfl
theorem it1v (l : Nat) (es : List DV) (i : Int) (M : St -> Prop) : (vcOps cfg {} 127 19 (reg 127 1).toList (reg 127 1).toList (itH l es i) (fun outs st => M (keepT [0, 1, 3, 8] [] 19 st))) =
    (M (mkS 19 [(0, DV.fn (Fn.yield l) [] []), (1, DV.eptr 1 [DV.psl 18 es] 0 0), (3, DV.int .i64 i), (8, DV.bool (decide (i ≥ (0 : Int))))] [] [])) := by kernel_rfl
theorem it3v (l : Nat) (es : List DV) (i : Nat) (x : Tr) (M : St -> Prop) : (vcOps cfg { an := [(16, x.dv)] } 127 19 (reg 127 3).toList ((reg 127 3).toList.take 6) (itH l es i) (fun outs st => M (keepT [0, 1, 3, 11, 12, 16] [] 19 st))) =
    (obB (decide (i < List.length es)) (es[Int.toNat (↑i : Int)]? = some (Tr.dv x) /\ M (mkS 19 [(0, DV.fn (Fn.yield l) [] []), (1, DV.eptr 1 [DV.psl 18 es] 0 0), (3, DV.int .i64 i), (11, DV.fn (Fn.yield l) [] []), (12, DV.int .i64 i), (16, Tr.dv x)] [] []))) := by kernel_rfl
theorem it7v (l : Nat) (es : List DV) (i : Nat) (M : St -> Prop) : (vcOps cfg {} 127 19 (reg 127 3).toList ((reg 127 3).toList.drop 7) (itB l es i true) (fun outs st => M (keepT [0, 1, 3, 18] [] 19 st))) =
    (M (mkS 19 [(0, DV.fn (Fn.yield l) [] []), (1, DV.eptr 1 [DV.psl 18 es] 0 0), (3, DV.int .i64 i), (18, DV.bool false)] [] [])) := by kernel_rfl
theorem it2v (l : Nat) (es : List DV) (i : Nat) (M : St -> Prop) : (vcOps cfg {} 127 19 (reg 127 2).toList (reg 127 2).toList (itH l es i) (fun outs st => M (keepT [0, 1, 3] [] 19 st))) =
    (obB (inR .i64 ((↑i : Int) - 1)) (M (mkS 19 [(0, DV.fn (Fn.yield l) [] []), (1, DV.eptr 1 [DV.psl 18 es] 0 0), (3, DV.int .i64 ((↑i : Int) - 1))] [] []))) := by kernel_rfl
theorem code127 : codeOf cfg 127 = .seq (.region 0 (reg 127 0) false) (.block 0 (.loop (.seq (.seq (.region 1 (reg 127 1) false) (.cond (.tmp 8) .skip (.exit 0)))
    (.seq (.block 1 (.seq (.region 3 (reg 127 3) false) (.cond (.tmp 18) .ret .skip))) (.region 2 (reg 127 2) false))))) := by kernel_rfl
end Go.Det.Sea
end

section
namespace Go.Det.Sea
open Go Go.Det
structure Bt (I : Nat -> Heap -> Prop) (w0 : World) (L : List Nat) (ms : Ro) (D l : Nat) (rc : Loop) (T : List DV) (tm : Array Value) (nt : Nat) (ρ0 : Rho) (k : Nat) (h : Heap) (ρ : Rho) (m : Ro) (W : World) : Prop where
  i : I k h
  inv : Inv ρ m L w0.heap.size h W
  evo : Evo L w0 W
  gr : Grows w0.heap.size ms m
  slots : VRL ρ m T tm.toList
  lp : m.o l = some (.loop rc)
  dm : m.o D = some (.deferred (some []))
  ext : ∀ b, nt <= b -> ρ b = ρ0 b
def Cm (I : Nat -> Heap -> Prop) (w0 : World) (L : List Nat) (ms : Ro) (D l : Nat) (rc : Loop) (T : List DV) (tm : Array Value) (nt : Nat) (ρ0 : Rho) (k : Nat) (T2 : List DV) (a2 : Act) (W : World) : Prop :=
  ∃ h ρ m, Bt I w0 L ms D l rc T tm nt ρ0 k h ρ m W /\ a2.defers = [] /\ ∃ ρ2, VRL ρ2 m T2 a2.tmps.toList
section
variable {P : Program} {C : Cfg} {Pr Ow : Nat -> List DV -> DV -> Prop} {I : Nat -> Heap -> Prop} {w0 : World} {L : List Nat} {ms : Ro} {D l : Nat} {rc : Loop} {T : List DV} {tm : Array Value} {nt : Nat} {ρ0 : Rho} {k : Nat}
theorem Bt.later {h : Heap} {ρ : Rho} {m m' : Ro} {W W' : World} (b : Bt I w0 L ms D l rc T tm nt ρ0 k h ρ m W) (e : Evo [] W W') (g : Grows W.heap.size m m') (ro : RoOK m' W') : Bt I w0 L ms D l rc T tm nt ρ0 k h ρ m' W' :=
  ⟨b.i, b.inv.later e g ro, b.evo.after e, b.gr.trans ⟨g.1, fun r hr => g.2 r (Nat.lt_of_lt_of_le hr b.evo.size), g.3⟩, VRL.mono g.1 _ b.slots, g.3 _ _ b.lp, g.3 _ _ b.dm, b.ext⟩
theorem rel_of {m : Ro} {W : World} {ρ2 : Rho} {T2 : List DV} {h2 : Heap} {a2 : Act} (ro : RoOK m W) (hv : VRL ρ2 m T2 a2.tmps.toList) (hh : ∀ b, hget h2 b = none) (hd : a2.defers = []) : Rel W [] m { t := T2, h := h2 } a2 W ρ2 m := by
  refine ⟨hv, ?_, ⟨fun b x hx => ?_, fun b b' x x' p p' hx => ?_, ro.1, ro.2⟩, Evo.refl _ _, Grows.refl _ _⟩
  · rw [hd]; exact Marks.nil _ _
  · rw [hh b] at hx; cases hx
  · rw [hh b] at hx; cases hx
theorem hget_rep (n b : Nat) : hget (List.replicate n none) b = none := by
  unfold hget
  by_cases h : b < n
  · simp [h]
  · simp [List.getElem?_replicate, h]
theorem it_region (hT : ∀ t ti, C.T t = some ti -> TiOK P t ti) {f nt2 id n : Nat} {ops : Array Oper} {st : St} {T3 : List DV} {a2 : Act} {W : World} {Q : Exit -> Act -> World -> Prop} (hh : ∀ b, hget st.h b = none)
    (hgo : GoO C Pr Ow f nt2 ops.toList ops.toList st fun _ s => ∃ s2, Weaker s s2 /\ s2.t = T3) (hq : ops.toList.all quietO = true) (hG : ∀ m, Grows w0.heap.size ms m -> GlobOK C m)
    (c : Cm I w0 L ms D l rc T tm nt ρ0 k st.t a2 W) (hQ : ∀ a3 W3, Cm I w0 L ms D l rc T tm nt ρ0 k T3 a3 W3 -> Q .normal a3 W3) :
    (Code.region id ops false).wpIn Fence.wide n P Q a2 W := by
  obtain ⟨h, ρ, m, b, hd, ρ2, hv⟩ := c
  refine region_in hT (r0 := none) hgo hq (hG m b.gr) (rel_of (RoOK.of b.inv) hv hh hd) ?_
  rintro outs s a3 W3 ρ3 m3 ⟨s2, hw, rfl⟩ r hρ hd3
  have ro := RoOK.of r.inv
  exact hQ _ _ ⟨h, ρ, m3, b.later r.evo r.sub ro, hd3.trans hd, ρ3, r.slots.weaker hw.len hw.slots⟩
theorem it_ops (hT : ∀ t ti, C.T t = some ti -> TiOK P t ti) {f nt2 n : Nat} {os l1 l2 : List Oper} {st : St} {T3 : List DV} {a2 : Act} {W : World} {Q : Exit -> Act -> World -> Prop} (hh : ∀ b, hget st.h b = none)
    (hgo : GoO C Pr Ow f nt2 os l1 st fun _ s => ∃ s2, Weaker s s2 /\ s2.t = T3) (hq : l1.all quietO = true) (hG : ∀ m, Grows w0.heap.size ms m -> GlobOK C m)
    (c : Cm I w0 L ms D l rc T tm nt ρ0 k st.t a2 W) (hQ : ∀ a3 W3, Cm I w0 L ms D l rc T tm nt ρ0 k T3 a3 W3 -> wpListIn Fence.wide n P os.toArray Q l2 a3 W3) :
    wpListIn Fence.wide n P os.toArray Q (l1 ++ l2) a2 W := by
  obtain ⟨h, ρ, m, b, hd, ρ2, hv⟩ := c
  refine ops_in hT (r0 := none) hgo hq (hG m b.gr) (rel_of (RoOK.of b.inv) hv hh hd) ?_
  rintro outs s a3 W3 ρ3 m3 ⟨s2, hw, rfl⟩ r hρ hd3
  have ro := RoOK.of r.inv
  exact hQ _ _ ⟨h, ρ, m3, b.later r.evo r.sub ro, hd3.trans hd, ρ3, r.slots.weaker hw.len hw.slots⟩
end
end Go.Det.Sea
end

section
namespace Go.Det.Sea
open Go Go.Det
section
variable {P : Program} {C : Cfg} {Pr Ow : Nat -> List DV -> DV -> Prop} {I : Nat -> Heap -> Prop} {w0 : World} {L : List Nat} {ms : Ro} {D l : Nat} {T : List DV} {tm : Array Value} {nt : Nat} {ρ0 : Rho} {k : Nat}
def Round (C : Cfg) (Pr Ow : Nat -> List DV -> DV -> Prop) (f nt : Nat) (T : List DV) (pi px : Nat) (opsA opsC : Array Oper) (I : Nat -> Heap -> Prop) (k : Nat) (i : Int) (x : DV) : Prop :=
  ∀ h, I k h -> GoO C Pr Ow f nt opsA.toList opsA.toList { t := (T.set pi (.int .i64 i)).set px x, h := h } fun outs1 s1 => ∃ s1', Weaker s1 s1' /\
    GoO C Pr Ow f nt opsC.toList opsC.toList s1' fun outs2 s2 => (∀ b ∈ outs1.flatMap (·.φ) ++ outs2.flatMap (·.φ), b < nt /\ b ∉ mentsL T) /\ ∃ h', (∀ b x, hget h' b = some x -> hget s2.h b = some x) /\ I (k + 1) h'
theorem SubO.put {m m' : Ro} (h : SubO m m') {D : Nat} (y : Obj) (hf : ∀ r x, m.o r = some x -> r ≠ D) : SubO m (m'.put D y) := fun r x hx => by rw [Ro.put_other _ _ (hf r x hx)]; exact h r x hx
set_option maxHeartbeats 1000000 in
theorem it_yield (hT : ∀ t ti, C.T t = some ti -> TiOK P t ti) (hG : ∀ m, Grows w0.heap.size ms m -> GlobOK C m) {f n idA idB idC pi px d0 s1 s2 d1 fn : Nat} {opsA opsC : Array Oper} (hqA : opsA.toList.all quietO = true) (hqC : opsC.toList.all quietO = true)
    (hN : w0.heap.size <= l) (hD : D ≠ l) (far : ∀ r x, ms.o r = some x -> r < l) {o : Oper} {os rest : List Oper} {ts : Array TypeId} (ho : o.op = .call ⟨.value (.tmp d0), #[.tmp s1, .tmp s2], ts⟩) (hg : o.guard = none) (hd : o.dst = some d1)
    {i : Int} {x : DV} (hx : x.ments = []) (hR : Round C Pr Ow f nt T pi px opsA opsC I k i x)
    {T2 : List DV} (h0 : sget T2 d0 = .fn (.yield l) [] []) (h1 : sget T2 s1 = .int .i64 i) (h2 : sget T2 s2 = x) {a2 : Act} {W : World} {Q : Exit -> Act -> World -> Prop}
    (c : Cm I w0 L ms D l { state := .ready, pending := none, fn := fn, tmps := tm, params := #[pi, px], assign := .region idA opsA false, body := .block idB (.region idC opsC false), defers := D } T tm nt ρ0 k T2 a2 W)
    (hQ : ∀ a3 W3, Cm I w0 L ms D l { state := .ready, pending := none, fn := fn, tmps := tm, params := #[pi, px], assign := .region idA opsA false, body := .block idB (.region idC opsC false), defers := D } T tm nt ρ0 (k + 1) (T2.set d1 (.bool true)) a3 W3 -> 
      wpListIn Fence.wide n P os.toArray Q rest a3 W3) : wpListIn Fence.wide n P os.toArray Q (o :: rest) a2 W := by
  obtain ⟨h, ρ, m, b, hd2, ρ2, hv⟩ := c
  have hrel : Rel W [] m { t := T2, h := [] } a2 W ρ2 m := rel_of (RoOK.of b.inv) hv (fun b => by simp [hget]) hd2
  have e0 : a2.eval (.tmp d0) = .func (.yield l) #[] #[] := by
    have := hrel.opnd (.tmp d0)
    simp only [opnd] at this
    rw [h0] at this
    simp only [VR, VRL] at this
    obtain ⟨a', c', e, ha, hc⟩ := this
    rw [e]
    congr
    · exact Array.toList_eq_nil_iff.1 ha
    · exact Array.toList_eq_nil_iff.1 hc
  have e1 : a2.eval (.tmp s1) = .int .i64 i := by
    have := hrel.opnd (.tmp s1)
    simp only [opnd] at this
    rw [h1] at this
    simpa only [VR] using this
  have e2 : VR ρ m x (a2.eval (.tmp s2)) := by
    have := hrel.opnd (.tmp s2)
    simp only [opnd] at this
    rw [h2] at this
    exact VR.rho x (by rw [hx]; simp) this
  have hl := (b.inv.oth _ _ b.lp).1
  have hy := run_yield (P := P) (args := #[.int .i64 i, a2.eval (.tmp s2)]) hl rfl
  simp only [wpListIn]
  rw [if_pos (by simp [Region.wanted, hg])]
  refine ⟨fun _ _ => trivial, ?_⟩
  have hrun : (o.semAt Fence.wide.round a2.eval).run P W = .ok (.round l fn ((tm.setIfInBounds pi (.int .i64 i)).setIfInBounds px (a2.eval (.tmp s2))) (.region idA opsA false) (.block idB (.region idC opsC false))) W := by
    rw [Oper.semAt_eq _ _ _ (by intro c hc; rw [ho] at hc; cases hc)]
    unfold execOp
    rw [ho]
    simp only [resolve, e0]
    simp only [e1] at hy ⊢
    simp [Deferred.ofValue, invoke, e1, hy, Array.zip]
  rw [hrun, Oper.uponIn_round]
  refine ⟨fun hh => by simp [Fence.wide] at hh, roundIn_of_wpIn trivial ?_⟩
  have r0 : Rel w0 L m { t := (T.set pi (.int .i64 i)).set px x, h := h } { tmps := (tm.setIfInBounds pi (.int .i64 i)).setIfInBounds px (a2.eval (.tmp s2)), defers := [] } W ρ m := by
    refine ⟨?_, Marks.nil _ _, b.inv, b.evo, Grows.refl _ _⟩
    simp only [Array.toList_setIfInBounds]
    exact VRL.set e2 _ (VRL.set (by simp only [VR]) _ b.slots)
  refine region_in hT (r0 := some l) (hR h b.i) hqA (hG m b.gr) r0 ?_
  rintro outs1 st1 a3 W3 ρ3 m3 ⟨st1', hw, hgo⟩ r3 hρ3 hd3
  have hl3 : m3.o l = some _ := r3.sub.3 _ _ b.lp
  refine ⟨_, run_beginRound (r3.inv.oth _ _ hl3).1 rfl, wpIn_block ?_⟩
  have r3' := (r3.slots.weaker hw.len hw.slots)
  let busy : Loop := { state := .busy, pending := none, fn := fn, tmps := tm, params := #[pi, px], assign := .region idA opsA false, body := .block idB (.region idC opsC false), defers := D }
  have r4 : Rel w0 L (m3.put l (.loop busy)) st1' a3 (W3.putObj l (.loop busy)) ρ3 (m3.put l (.loop busy)) := by
    refine ⟨VRL.mono (m := m3) (m' := m3.put l (.loop busy)) (fun _ _ h => h) _ r3', ?_, (r3.inv.less hw.heap).putO hl3 rfl, r3.evo.putO hN _, Grows.refl _ _⟩
    rw [hd3]; exact Marks.nil _ _
  have hG4 : GlobOK C (m3.put l (.loop busy)) := GlobOK.mono (hG m b.gr) r3.sub.1
  refine region_in hT (r0 := some l) hgo hqC hG4 r4 ?_
  rintro outs2 st2 a5 W5 ρ5 m5 ⟨hφ, h', hh', hI'⟩ r5 hρ5 hd5
  have hl5 : m5.o l = some (.loop busy) := r5.sub.3 _ _ (Ro.put_same _ _ _)
  show ∃ v w', (Instr.endRound l none).run P W5 = .ok v w' /\ _
  refine ⟨_, _, run_endRound none (r5.inv.oth _ _ hl5).1, ?_⟩
  have hsub : Sub m m5 := r3.sub.1.trans r5.sub.1
  refine hQ _ _ ⟨h', ρ5, m5.put l (.loop { busy with state := .ready, pending := none }), ⟨hI', (r5.inv.less hh').putO hl5 rfl, r5.evo.putO hN _, ⟨b.gr.1.trans hsub, fun r hr => ?_, SubO.put (fun r y hy' => ?_) _ (fun r y hy' => Nat.ne_of_lt (far r y hy'))⟩, ?_, Ro.put_same _ _ _, ?_, fun b' hb' => ?_⟩, ?_, ρ2, ?_⟩
  · exact ((r5.sub.2 r hr).trans (r3.sub.2 r hr)).trans (b.gr.2 r hr)
  · refine r5.sub.3 _ _ ?_
    rw [Ro.put_other _ _ (Nat.ne_of_lt (far r y hy'))]
    exact r3.sub.3 _ _ (b.gr.3 _ _ hy')
  · refine VRL.mono (m := m) (m' := m5.put l _) hsub _ (VRL.rho T (fun b' hb' => ?_) b.slots)
    refine (hρ3 b' fun hin => ?_).trans (hρ5 b' fun hin => ?_)
    · exact (hφ b' (List.mem_append_left _ hin)).2 hb'
    · exact (hφ b' (List.mem_append_right _ hin)).2 hb'
  · rw [Ro.put_other _ _ hD]
    refine r5.sub.3 _ _ ?_
    rw [Ro.put_other _ _ hD]
    exact r3.sub.3 _ _ b.dm
  · rw [← b.ext b' hb']
    refine ((hρ3 b' fun hin => ?_).trans (hρ5 b' fun hin => ?_)).symm
    · have := (hφ b' (List.mem_append_left _ hin)).1; omega
    · have := (hφ b' (List.mem_append_right _ hin)).1; omega
  · rw [hd]; exact hd2
  · rw [hd]
    simp only [Act.put, Array.toList_setIfInBounds]
    refine VRL.mono (m := m) (m' := m5.put l _) hsub _ (VRL.set ?_ _ hv)
    simp only [VR]; rfl
end
end Go.Det.Sea
end

section
namespace Go.Det.Sea
open Go Go.Det
section
variable {Pr Ow : Nat -> List DV -> DV -> Prop} {I : Nat -> Heap -> Prop} {w0 : World} {L : List Nat} {ms : Ro} {D l : Nat} {T : List DV} {tm : Array Value} {nt : Nat} {ρ0 : Rho}
def IsS (target s : St) : Prop := s = target
theorem it_go {E : Env} (H : EnvOK cfg Pr Ow E) {ks : List Nat} {os l1 : List Oper} {st target : St} (h : vcOps cfg E 127 19 os l1 st (fun outs st => IsS target (keepT ks [] 19 st))) :
    GoO cfg Pr Ow 127 19 os l1 st fun _ s => ∃ s2, Weaker s s2 /\ s2.t = target.t := by
  obtain ⟨outs, st', h1, h2⟩ := vcOps_ok H h
  exact ⟨outs, st', h1, _, keepT_weaker _ _ _ _, by rw [show keepT ks [] 19 st' = target from h2]⟩
noncomputable def itC (l : Nat) (es : List DV) (i : Int) : St := mkS 19 [(0, .fn (.yield l) [] []), (1, .eptr 1 [.psl 18 es] 0 0), (3, .int .i64 i), (8, .bool (decide (i ≥ (0 : Int))))] [] []
noncomputable def itN (l : Nat) (es : List DV) (i : Int) : St := mkS 19 [(0, .fn (.yield l) [] []), (1, .eptr 1 [.psl 18 es] 0 0), (3, .int .i64 i), (18, .bool false)] [] []
noncomputable def itT0 (l : Nat) (es : List DV) : St := { t := (itH l es ((es.length : Int) - 1)).t, h := [] }
theorem ments_dv (t : Tr) : t.dv.ments = [] := rfl
theorem itC_8 (l : Nat) (es : List DV) (i : Nat) : sget (itC l es i).t 8 = .bool true := by
  have : decide ((i : Int) ≥ 0) = true := decide_eq_true (by omega)
  rw [← this]; rfl
theorem E0ok : EnvOK cfg Pr Ow {} := envOK trivial trivial trivial
theorem it1g (l : Nat) (es : List DV) (i : Int) : GoO cfg Pr Ow 127 19 (reg 127 1).toList (reg 127 1).toList (itH l es i) fun _ s => ∃ s2, Weaker s s2 /\ s2.t = (itC l es i).t :=
  it_go E0ok (by rw [it1v l es i (IsS (itC l es i))]; rfl)
theorem it3g (l : Nat) (es : List DV) (i : Nat) (x : Tr) (h : es[i]? = some x.dv) : GoO cfg Pr Ow 127 19 (reg 127 3).toList ((reg 127 3).toList.take 6) (itH l es i) fun _ s => ∃ s2, Weaker s s2 /\ s2.t = (itY l es i x.dv).t :=
  it_go (E := { an := [(16, x.dv)] }) (envOK trivial trivial trivial) (by rw [it3v l es i x (IsS (itY l es i x.dv))]; exact obB_of (decide_eq_true (List.getElem?_eq_some_iff.1 h).1) ⟨by simpa using h, rfl⟩)
theorem it7g (l : Nat) (es : List DV) (i : Nat) : GoO cfg Pr Ow 127 19 (reg 127 3).toList ((reg 127 3).toList.drop 7) (itB l es i true) fun _ s => ∃ s2, Weaker s s2 /\ s2.t = (itN l es i).t :=
  it_go E0ok (by rw [it7v l es i (IsS (itN l es i))]; rfl)
theorem it2g (l : Nat) (es : List DV) (i : Nat) (hi : i <= 4000000000) : GoO cfg Pr Ow 127 19 (reg 127 2).toList (reg 127 2).toList (itH l es i) fun _ s => ∃ s2, Weaker s s2 /\ s2.t = (itH l es ((i : Int) - 1)).t :=
  it_go E0ok (by rw [it2v l es i (IsS (itH l es ((i : Int) - 1)))]; exact obB_of (inR64 (by omega)) rfl)
theorem it0g (l : Nat) (es : List DV) (hl : es.length <= 4000000000) : GoO cfg Pr Ow 127 19 (reg 127 0).toList (reg 127 0).toList (itS0 l es) fun _ s => ∃ s2, Weaker s s2 /\ s2.t = (itH l es ((es.length : Int) - 1)).t :=
  it_go E0ok (target := itT0 l es) (by rw [it0v l es (IsS (itT0 l es))]; exact obB_of (inR64 (by omega)) rfl)
theorem region_l {F : Fence} {n : Nat} {P : Program} {id : Nat} {ops : Array Oper} {Q : Exit -> Act -> World -> Prop} {a : Act} {w : World} (h : wpListIn F n P ops.toList.toArray Q ops.toList a w) : (Code.region id ops false).wpIn F n P Q a w :=
  wpIn_region_list (by rwa [Array.toArray_toList] at h)
theorem Cm.eval {rc : Loop} {k : Nat} {T2 : List DV} {a2 : Act} {W : World} (c : Cm I w0 L ms D l rc T tm nt ρ0 k T2 a2 W) {j : Nat} {b : Bool} (h : sget T2 j = .bool b) : a2.eval (.tmp j) = .bool b := by
  obtain ⟨h0, ρ, m, bt, hd2, ρ2, hv⟩ := c
  have hrel : Rel W [] m { t := T2, h := [] } a2 W ρ2 m := rel_of (RoOK.of bt.inv) hv (fun b => by simp [hget]) hd2
  have := hrel.opnd (.tmp j)
  simp only [opnd] at this
  rw [h] at this
  simpa only [VR] using this
theorem Cm.weak {rc : Loop} {k : Nat} {T2 T3 : List DV} {a2 : Act} {W : World} (c : Cm I w0 L ms D l rc T tm nt ρ0 k T2 a2 W) (hw : Weaker { t := T2, h := [] } { t := T3, h := [] }) : Cm I w0 L ms D l rc T tm nt ρ0 k T3 a2 W := by
  obtain ⟨h0, ρ, m, bt, hd2, ρ2, hv⟩ := c
  exact ⟨h0, ρ, m, bt, hd2, ρ2, hv.weaker hw.len hw.slots⟩
noncomputable def yop : Oper := (reg 127 3).toList.getD 6 default
theorem yop_split : (reg 127 3).toList = (reg 127 3).toList.take 6 ++ (yop :: (reg 127 3).toList.drop 7) := by kernel_rfl
theorem yop_op : yop.op = .call ⟨.value (.tmp 11), #[.tmp 12, .tmp 16], #[3, 48]⟩ := by kernel_rfl
theorem yop_guard : yop.guard = none := by kernel_rfl
theorem yop_dst : yop.dst = some 17 := by kernel_rfl
theorem q0 : (reg 127 0).toList.all quietO = true := by kernel_rfl
theorem q1 : (reg 127 1).toList.all quietO = true := by kernel_rfl
theorem q2 : (reg 127 2).toList.all quietO = true := by kernel_rfl
theorem q3 : ((reg 127 3).toList.take 6).all quietO = true := by kernel_rfl
theorem q7 : ((reg 127 3).toList.drop 7).all quietO = true := by kernel_rfl
theorem keep_self (T2 : List DV) (ks : List Nat) (h : tidyT ks 0 T2 = tidyT ks 0 T2) : Weaker { t := T2, h := [] } { t := tidyT ks 0 T2, h := [] } := by
  have := keepT_weaker ks [] 0 { t := T2, h := [] }
  unfold keepT at this
  simpa [tidyH] using this
abbrev rcOf (fn : Nat) (tm : Array Value) (pi px idA idB idC : Nat) (opsA opsC : Array Oper) (D : Nat) : Loop := { state := .ready, pending := none, fn := fn, tmps := tm, params := #[pi, px], assign := .region idA opsA false, body := .block idB (.region idC opsC false), defers := D }
noncomputable abbrev itBody : Code := .seq (.seq (.region 1 (reg 127 1) false) (.cond (.tmp 8) .skip (.exit 0))) (.seq (.block 1 (.seq (.region 3 (reg 127 3) false) (.cond (.tmp 18) .ret .skip))) (.region 2 (reg 127 2) false))
theorem it_yregion {P : Program} {C : Cfg} (hT : ∀ t ti, C.T t = some ti -> TiOK P t ti) (hG : ∀ m, Grows w0.heap.size ms m -> GlobOK C m) {f f2 nt2 n id idA idB idC pi px d0 s1 s2 d1 fn k : Nat} {opsA opsC ops : Array Oper} (hqA : opsA.toList.all quietO = true) (hqC : opsC.toList.all quietO = true)
    (hN : w0.heap.size <= l) (hD : D ≠ l) (far : ∀ r x, ms.o r = some x -> r < l) {o : Oper} {l1 l7 : List Oper} (hs : ops.toList = l1 ++ (o :: l7)) {ts : Array TypeId} (ho : o.op = .call ⟨.value (.tmp d0), #[.tmp s1, .tmp s2], ts⟩) (hg : o.guard = none) (hd : o.dst = some d1)
    {i : Int} {x : DV} (hx : x.ments = []) (hR : Round C Pr Ow f nt T pi px opsA opsC I k i x) {st1 st2 : St} {T2 T4 : List DV} (hh1 : ∀ b, hget st1.h b = none) (hh2 : ∀ b, hget st2.h b = none)
    (g1 : GoO C Pr Ow f2 nt2 ops.toList l1 st1 fun _ s => ∃ s2, Weaker s s2 /\ s2.t = T2) (hq1 : l1.all quietO = true) (h0 : sget T2 d0 = .fn (.yield l) [] []) (h1 : sget T2 s1 = .int .i64 i) (h2 : sget T2 s2 = x)
    (hw : Weaker { t := T2.set d1 (.bool true), h := [] } { t := st2.t, h := [] }) (g2 : GoO C Pr Ow f2 nt2 ops.toList l7 st2 fun _ s => ∃ s2, Weaker s s2 /\ s2.t = T4) (hq7 : l7.all quietO = true)
    {a2 : Act} {W : World} {Q : Exit -> Act -> World -> Prop} (c : Cm I w0 L ms D l (rcOf fn tm pi px idA idB idC opsA opsC D) T tm nt ρ0 k st1.t a2 W)
    (hQ : ∀ a3 W3, Cm I w0 L ms D l (rcOf fn tm pi px idA idB idC opsA opsC D) T tm nt ρ0 (k + 1) T4 a3 W3 -> Q .normal a3 W3) : (Code.region id ops false).wpIn Fence.wide n P Q a2 W := by
  refine region_l ?_
  have key : wpListIn Fence.wide n P ops.toList.toArray Q (l1 ++ (o :: l7)) a2 W := by
    refine it_ops hT hh1 g1 hq1 hG c fun a3 W3 c3 => ?_
    refine it_yield hT hG hqA hqC hN hD far ho hg hd hx hR h0 h1 h2 c3 fun a5 W5 c5 => ?_
    have := it_ops (n := n) (l2 := []) (Q := Q) hT hh2 g2 hq7 hG (c5.weak hw) fun a6 W6 c6 => hQ a6 W6 c6
    simpa using this
  rw [← hs] at key
  exact key
theorem loop127 (hT : ∀ t ti, cfg.T t = some ti -> TiOK Go.Proofs.Tryz.prog t ti) (hG : ∀ m, Grows w0.heap.size ms m -> GlobOK cfg m) {f n idA idB idC pi px fn : Nat} {opsA opsC : Array Oper} (hqA : opsA.toList.all quietO = true) (hqC : opsC.toList.all quietO = true)
    (hN : w0.heap.size <= l) (hD : D ≠ l) (far : ∀ r x, ms.o r = some x -> r < l) (kids : List Tr) (hkl : kids.length <= 4000000000)
    (hR : ∀ k i, i + k + 1 = kids.length -> Round cfg Pr Ow f nt T pi px opsA opsC I k (i : Int) (kids.getD i default).dv) {Q : Exit -> Act -> World -> Prop} :
    ∀ (rem k : Nat) (a2 : Act) (W : World), k + rem = kids.length -> Cm I w0 L ms D l (rcOf fn tm pi px idA idB idC opsA opsC D) T tm nt ρ0 k (itH l (Tr.encs kids) ((rem : Int) - 1)).t a2 W -> 
      (∀ T3 a3 W3, Cm I w0 L ms D l (rcOf fn tm pi px idA idB idC opsA opsC D) T tm nt ρ0 kids.length T3 a3 W3 -> Q (.exit 0) a3 W3) -> 
      Code.roundsIn Fence.wide n Go.Proofs.Tryz.prog itBody Q (rem + 1) a2 W := by
  have hlen : (Tr.encs kids).length = kids.length := by rw [Tr.encs_eq, List.length_map]
  have hh : ∀ (l : Nat) es i b, hget (itH l es i).h b = none := fun l es i b => hget_rep 19 b
  intro rem
  induction rem with
  | zero =>
    intro k a2 W hk c hQ
    rw [roundsIn_succ]
    refine wpIn_seq (wpIn_seq ?_)
    refine it_region hT (st := itH l (Tr.encs kids) (((0 : Nat) : Int) - 1)) (hh _ _ _) (it1g (Pr := Pr) (Ow := Ow) _ _ _) q1 hG c fun a3 W3 c3 => ?_
    refine wpIn_cond_false (c3.eval (by rfl)) (wpIn_exit ?_)
    have : k = kids.length := by omega
    subst this
    exact hQ _ _ _ c3
  | succ i ih =>
    intro k a2 W hk c hQ
    have ei : (((i + 1 : Nat) : Int) - 1) = (i : Int) := by omega
    rw [ei] at c
    rw [roundsIn_succ]
    refine wpIn_seq (wpIn_seq ?_)
    refine it_region hT (st := itH l (Tr.encs kids) (i : Int)) (hh _ _ _) (it1g (Pr := Pr) (Ow := Ow) _ _ _) q1 hG c fun a3 W3 c3 => ?_
    refine wpIn_cond_true (c3.eval (itC_8 _ _ _)) (wpIn_skip ?_)
    have c3' : Cm I w0 L ms D l (rcOf fn tm pi px idA idB idC opsA opsC D) T tm nt ρ0 k (itH l (Tr.encs kids) (i : Int)).t a3 W3 := c3.weak (keep_self _ [0, 1, 3] rfl)
    have hget : (Tr.encs kids)[i]? = some (kids.getD i default).dv := Tr.encs_get (by omega)
    refine wpIn_seq (wpIn_block (wpIn_seq (it_yregion hT hG hqA hqC hN hD far yop_split yop_op yop_guard yop_dst (ments_dv _) (hR k i (by omega)) (st1 := itH l (Tr.encs kids) (i : Int)) (st2 := itB l (Tr.encs kids) (i : Int) true) (hh _ _ _) (fun b => hget_rep 19 b)
      (it3g _ _ i _ hget) q3 rfl rfl rfl (keep_self _ [0, 1, 3, 17] rfl) (it7g _ _ i) q7 c3' fun a6 W6 c6 => ?_)))
    refine wpIn_cond_false (c6.eval (by rfl)) (wpIn_skip ?_)
    have c6' : Cm I w0 L ms D l (rcOf fn tm pi px idA idB idC opsA opsC D) T tm nt ρ0 (k + 1) (itH l (Tr.encs kids) (i : Int)).t a6 W6 := c6.weak (keep_self _ [0, 1, 3] rfl)
    refine it_region hT (st := itH l (Tr.encs kids) (i : Int)) (hh _ _ _) (it2g (Pr := Pr) (Ow := Ow) _ _ i (by omega)) q2 hG c6' fun a7 W7 c7 => ?_
    exact ih (k + 1) a7 W7 (by omega) c7 hQ
end
end Go.Det.Sea
end

section
namespace Go.Det.Sea
open Go Go.Det
section
variable {Pr Ow : Nat -> List DV -> DV -> Prop}
theorem inBlock_self {id : Nat} {Q : Exit -> Act -> World -> Prop} {a : Act} {w : World} (h : Q .normal a w) : Exit.inBlock id Q (.exit id) a w := by simp only [Exit.inBlock, if_true]; exact h
theorem body127 : Go.Proofs.Tryz.f127.body = some (codeOf cfg 127) := by kernel_rfl
theorem nt127 : Go.Proofs.Tryz.f127.ntmps = 19 := by kernel_rfl
theorem res127 : Go.Proofs.Tryz.f127.results = #[] := by kernel_rfl
set_option maxHeartbeats 1000000 in
theorem range127 (hT : ∀ t ti, cfg.T t = some ti -> TiOK Go.Proofs.Tryz.prog t ti) {f nt g idA idB idC pi px : Nat} {opsA opsC : Array Oper} (hqA : opsA.toList.all quietO = true) (hqC : opsC.toList.all quietO = true)
    (kids : List Tr) (hkl : kids.length <= 4000000000) {I : Nat -> Heap -> Prop} {T0 T : List DV} {h0 h1 : Heap}
    (hg : sget T0 g = .fn (.func 127) [] [.eptr 1 [.psl 18 (Tr.encs kids)] 0 0]) (hw : Weaker { t := T0, h := h0 } { t := T, h := h1 }) (hI : I 0 h1)
    (hR : ∀ k i, i + k + 1 = kids.length -> Round cfg Pr Ow f nt T pi px opsA opsC I k (i : Int) (kids.getD i default).dv)
    {ρ0 : Rho} {w0 : World} {L : List Nat} {m0 : Ro} {a : Act} {w : World} {ρ : Rho} {m : Ro} (hG0 : GlobOK cfg m0) (r : RelX nt ρ0 w0 L m0 { t := T0, h := h0 } a w ρ m) {Q : Exit -> Act -> World -> Prop}
    (hQ : ∀ h a' w' ρ' m', I kids.length h -> RelX nt ρ0 w0 L m0 { t := T, h := h } a' w' ρ' m' -> Q .normal a' w') :
    (Code.rangeFunc (.tmp g) #[pi, px] (.region idA opsA false) (.block idB (.region idC opsC false))).wp Go.Proofs.Tryz.prog Q a w := by
  refine (wpIn_wide (n := 0)).1 (wpIn_rangeFunc ?_)
  intro fn _
  have hgv := r.toRel.opnd (.tmp g)
  simp only [opnd] at hgv
  rw [hg] at hgv
  simp only [VR, VRL] at hgv
  obtain ⟨a', c', hev, ha', pv, rest, hc', hpv, hrest⟩ := hgv
  have ha2 : a' = #[] := Array.toList_eq_nil_iff.1 ha'
  have hc2 : c' = #[pv] := by
    rw [hrest] at hc'
    cases c' with | mk l => simp at hc'; simp [hc']
  subst ha2 hc2
  let rc : Loop := rcOf fn a.tmps pi px idA idB idC opsA opsC w.heap.size
  let W1 : World := (w.alloc (.deferred (some []))).alloc (.loop rc)
  let m1 : Ro := (m.put w.heap.size (.deferred (some []))).put (w.heap.size + 1) (.loop rc)
  have inv1 : Inv ρ m1 L w0.heap.size h1 W1 := by
    have := ((r.inv.less hw.heap).allocO (y := .deferred (some [])) rfl).allocO (y := .loop rc) rfl
    rw [World.size_alloc] at this
    exact this
  have oldo : ∀ k x, m.o k = some x -> k < w.heap.size := fun k x hk => r.inv.oth_lt hk
  have gr1 : Grows w0.heap.size m m1 := ⟨fun _ _ h => h, fun _ _ => rfl, SubO.put (SubO.put (fun _ _ h => h) _ (fun k x hk => Nat.ne_of_lt (oldo k x hk))) _ (fun k x hk => by have := oldo k x hk; omega)⟩
  have bt : Bt I w0 L m w.heap.size (w.heap.size + 1) rc T a.tmps nt ρ0 0 h1 ρ m1 W1 := by
    refine ⟨hI, inv1, (r.evo.alloc _).alloc _, gr1, VRL.mono (m := m) (m' := m1) (fun _ _ h => h) _ (r.slots.weaker hw.len hw.slots), Ro.put_same _ _ _, ?_, r.ext⟩
    rw [Ro.put_other _ _ (by omega)]; exact Ro.put_same _ _ _
  have he : (Instr.enterLoop fn a.tmps #[pi, px] (.region idA opsA false) (.block idB (.region idC opsC false)) Fence.wide.round).run Go.Proofs.Tryz.prog w = .ok (w.heap.size + 1, [{ target := .collected w.heap.size, args := #[] }]) W1 := run_enterLoop_outer _ _ _ _ _
  refine ⟨w.heap.size + 1, [{ target := .collected w.heap.size, args := #[] }], W1, { target := .fn (.func 127) #[pv], args := #[.func (.yield (w.heap.size + 1)) #[] #[]] }, W1, 127,
    #[.func (.yield (w.heap.size + 1)) #[] #[]] ++ #[pv], W1, he, ?_, fun _ _ => trivial, ?_, fun hh => by simp [Fence.wide] at hh, ?_⟩
  · simp only [resolve, hev]
    simp [Deferred.ofValue]
    rfl
  · have hnm : Go.Proofs.Tryz.f127.name ≠ "runtime.NumGoroutine" := of_decide_eq_true (by kernel_rfl)
    simp [invoke, callFunc, Go.Proofs.Tryz.func127, hnm, body127]
  refine callsIn_of_wp Go.Proofs.Tryz.func127 body127 trivial ?_
  rw [code127, nt127]
  have hG : ∀ m', Grows w0.heap.size m m' -> GlobOK cfg m' := fun m' gg => hG0.mono (r.sub.1.trans gg.1)
  have c0 : Cm I w0 L m w.heap.size (w.heap.size + 1) rc T a.tmps nt ρ0 0 (itS0 (w.heap.size + 1) (Tr.encs kids)).t { tmps := (#[.func (.yield (w.heap.size + 1)) #[] #[]] ++ #[pv]) ++ Array.replicate (19 - (#[.func (.yield (w.heap.size + 1)) #[] #[]] ++ #[pv] : Array Value).size) undef, defers := [] } W1 := by
    refine ⟨h1, ρ, m1, bt, rfl, ρ, ?_⟩
    have e1 : VR ρ m1 (.fn (.yield (w.heap.size + 1)) [] []) (.func (.yield (w.heap.size + 1)) #[] #[]) := by
      simp only [VR, VRL]; exact ⟨#[], #[], rfl, rfl, rfl⟩
    have e2 : VR ρ m1 (.eptr 1 [.psl 18 (Tr.encs kids)] 0 0) pv := VR.mono (m := m) (m' := m1) (fun _ _ h => h) _ (by simp only [VR]; exact hpv)
    have : VRL ρ m1 ([.fn (.yield (w.heap.size + 1)) [] [], .eptr 1 [.psl 18 (Tr.encs kids)] 0 0] ++ List.replicate 17 (.tup [])) ([.func (.yield (w.heap.size + 1)) #[] #[], pv] ++ List.replicate 17 undef) :=
      VRL.append (VRL.cons e1 (VRL.cons e2 (by simp [VRL]))) (VRL.undef ρ m1 17)
    simpa [itS0] using this
  have hlen : (Tr.encs kids).length = kids.length := by rw [Tr.encs_eq, List.length_map]
  refine wpIn_seq (it_region hT (st := itS0 (w.heap.size + 1) (Tr.encs kids)) (fun b => by simp [itS0, hget]) (it0g (Pr := Pr) (Ow := Ow) _ _ (by omega)) q0 hG c0 fun a3 W3 c3 => ?_)
  rw [hlen] at c3
  refine wpIn_block (wpIn_loop_rounds (kids.length + 1) (loop127 (Pr := Pr) (Ow := Ow) hT hG hqA hqC (by have := r.evo.size; omega) (by omega) (fun k x hk => by have := oldo k x hk; omega) kids hkl hR kids.length 0 a3 W3 (by omega) c3 ?_))
  rintro T3 a4 W4 ⟨h4, ρ4, m4, b4, hd4, ρ5, hv4⟩
  refine inBlock_self ?_
  refine ⟨hd4, _, results_none res127 _ _ _, ?_⟩
  refine ⟨_, _, run_endLoop (b4.inv.oth _ _ b4.lp).1 (by simp), ?_⟩
  refine hQ h4 _ _ ρ4 (m4.put (w.heap.size + 1) _) b4.i ⟨⟨VRL.mono (m := m4) (m' := m4.put (w.heap.size + 1) _) (fun _ _ h => h) _ b4.slots, ⟨?_, ?_⟩, b4.inv.putO b4.lp rfl, b4.evo.putO (by have := r.evo.size; omega) _, ?_⟩, b4.ext⟩
  · intro d hd
    rcases List.mem_cons.1 hd with rfl | hd
    · refine ⟨_, rfl, ?_, r.evo.size⟩
      rw [Ro.put_other _ _ (by omega)]; exact b4.dm
    · obtain ⟨D', rfl, k1, k2⟩ := r.defers.mark d hd
      refine ⟨D', rfl, ?_, k2⟩
      have := oldo _ _ k1
      rw [Ro.put_other _ _ (by omega)]; exact b4.gr.3 _ _ k1
  · refine List.nodup_cons.2 ⟨fun hin => ?_, r.defers.nodup⟩
    obtain ⟨D', e, k1, k2⟩ := r.defers.mark _ hin
    have := oldo _ _ k1
    simp at e
    omega
  · exact r.sub.trans ⟨b4.gr.1, b4.gr.2, SubO.put b4.gr.3 _ (fun k x hk => by have := oldo k x hk; omega)⟩
end
end Go.Det.Sea
end

section
namespace Go.Proofs
open Go.RowKit Go.Lib
theorem back0 (ad : Option Addr) (n cap : Nat) (w : World) : Calls Tryz.prog 84 #[.slice ad n cap] w fun e w' => e = .returned (.func (.func 127) #[] #[.pointer (some ⟨w.heap.size, 0, none⟩)]) /\ w' = w.alloc (.cells #[.slice ad n cap] 46) := by
  go_enter Tryz.func84, Tryz.ntmps84
  go_wp2
  go_ret
  exact ⟨rfl, rfl⟩
end Go.Proofs
namespace Go.Det.Sea
open Go Go.Det Go.Proofs Go.RowKit
def backV (es : List DV) : DV := .fn (.func 127) [] [.eptr 1 [.psl 18 es] 0 0]
theorem back_ok (es : List DV) : Callable Go.Proofs.Tryz.prog 84 /\ CallOK Go.Proofs.Tryz.prog cfg 84 [.psl 18 es] [] (backV es) [] := by
  refine ⟨⟨Go.Proofs.Tryz.f84, Go.Proofs.Tryz.func84, by kernel_rfl, of_decide_eq_true (by kernel_rfl)⟩, rfl, rfl, ?_⟩
  intro ρ m w vals blks hG hro hx hext
  have hb : blks = [] := by have := hext.len; simpa using this
  subst hb
  simp only [VRL] at hx
  obtain ⟨v, r, hv, hvr, rfl⟩ := hx
  have hvals : vals = #[v] := by
    cases vals with | mk l => simp at hv; simp [hv]
  subst hvals
  have hvr0 := hvr
  simp only [VR] at hvr
  obtain ⟨a, cap, h1, rfl, h2, _⟩ := hvr
  refine (Go.Proofs.back0 a es.length cap w).mono ?_
  rintro e w' ⟨rfl, rfl⟩
  have hnew : m w.heap.size = none := by
    cases hm : m w.heap.size with
    | none => rfl
    | some c =>
      obtain ⟨el, fr, hc⟩ := hro.1 _ _ hm
      have := (Array.getElem?_eq_some_iff.1 hc).1
      omega
  have hs := sub_seal1 #[.slice a es.length cap] hnew
  have i0 : Inv ρ m [] 0 [] w := ⟨fun b x hb => by simp [hget] at hb, fun b b' x x' p p' hb => by simp [hget] at hb, hro.1, hro.2⟩
  refine ⟨_, seal1 m w.heap.size #[.slice a es.length cap], rfl, ?_, ⟨by simpa using hext.len, by simp, by simp⟩, RoOK.of (i0.allocSealed _ _ _), ⟨hs, fun r hr => ?_, fun _ _ h => h⟩, (Evo.refl [] w).alloc _⟩
  · simp only [backV, VR, VRL]
    refine ⟨#[], #[.pointer (some ⟨w.heap.size, 0, none⟩)], rfl, rfl, _, [], rfl, ⟨w.heap.size, 0, #[.slice a es.length cap], by simp [seal1], by simp [mentsL, DV.ments], ?_, by simp, rfl⟩, rfl⟩
    simp only [VRE]
    exact ⟨⟨.slice a es.length cap, VR.mono hs _ hvr0, rfl, by simp [Value.cells, Value.oneCell'], fun j u hj => by simpa [Value.cells] using hj⟩, trivial⟩
  · show (if r = w.heap.size then some _ else m r) = m r
    rw [if_neg (by omega)]
end Go.Det.Sea
end

section
namespace Go.Det.Sea
open Go Go.Det
section
variable {Pr Ow : Nat -> List DV -> DV -> Prop}
end
end Go.Det.Sea
end

section
namespace Go.Det.Sea
open Go Go.Det
def hd14 (t : Tr) (i : Nat) : St := mkS 28 [(1, .ptr 1 18 0 0), (3, .int .i64 i)] [(1, .box t.cells)] []
def ret28 (b : Bool) (n : Int) : St := mkS 50 [(8, .bool b)] [] [.box [.int .i64 n]]
theorem look_one {E : Env} {sp0 : LSpec} (hE : E.ls = [(0, sp0)]) {b : Nat} {sp : LSpec} (hl : look b E.ls = some sp) : b = 0 /\ sp = sp0 := by
  rw [hE] at hl
  simp only [look] at hl
  cases hb : Nat.beq b 0 with
  | false => rw [hb] at hl; simp at hl
  | true =>
    rw [hb] at hl
    simp only [cond_true, Option.some.injEq] at hl
    exact ⟨Nat.eq_of_beq_eq_true hb, hl.symm⟩
section
variable {Pr Ow : Nat -> List DV -> DV -> Prop}
theorem nt14 : ntOf cfg 14 = 28 := by kernel_rfl
theorem nd14 : nodupK (loops 0 (codeOf cfg 14)) = true := by kernel_rfl
theorem nt28 : ntOf cfg 28 = 50 := by kernel_rfl
theorem nd28 : nodupK (loops 0 (codeOf cfg 28)) = true := by kernel_rfl
end
end Go.Det.Sea
end

section
namespace Go.Det
def signed (t k : Tr) : Bool := t.kind == 7 && t.op == 1 && k.kind == 1 && k.v.kind == 1 && decide (k.v.m > 0)
end Go.Det
end

section
namespace Go.Det.Sea
open Go Go.Det
section
variable {Pr Ow : Nat -> List DV -> DV -> Prop}
end
end Go.Det.Sea
end

section
namespace Go.Det.Sea
open Go Go.Det
section
variable {Pr Ow : Nat -> List DV -> DV -> Prop}
end
end Go.Det.Sea
end

section
namespace Go.Det.Sea
open Go Go.Det
section
variable {Pr Ow : Nat -> List DV -> DV -> Prop}
end
end Go.Det.Sea
end

section
namespace Go.Det.Sea
open Go Go.Det
section
variable {Pr Ow : Nat -> List DV -> DV -> Prop}
end
end Go.Det.Sea
end

section
namespace Go.Det.Sea
open Go Go.Det
def ints (l : List Int) : List DV := l.map (DV.int .i64)
section
variable {Pr Ow : Nat -> List DV -> DV -> Prop}
theorem ints_len (l : List Int) : (ints l).length = l.length := List.length_map _
theorem ints_snoc (l : List Int) (v : Int) : (ints l).take l.length ++ [DV.int .i64 v] = ints (l ++ [v]) := by
  rw [← ints_len, List.take_length]; simp [ints]
end
end Go.Det.Sea
end

section
namespace Go.Det.Sea
open Go Go.Det
section
variable {Pr Ow : Nat -> List DV -> DV -> Prop}
theorem ints_snoc2 (l : List Int) (v w : Int) : (ints l).take l.length ++ [DV.int .i64 v, DV.int .i64 w] = ints (l ++ [v, w]) := by
  rw [← ints_len, List.take_length]; simp [ints]
end
end Go.Det.Sea
end

section
namespace Go.Det.Sea
open Go Go.Det
def ndv (t : Tr) (d : Int) : DV := .agg (t.cells ++ [.int .i64 d])
def nds (l : List (Tr × Int)) : List DV := l.map fun p => ndv p.1 p.2
theorem vc49 (t : Tr) (d : Int) (Φ : DV -> List Blk -> Prop) : (vcF cfg E0 49 [ndv t d, ndv t d] [] Φ) =
    (Φ (DV.bool (d == d && Tr.kind t == Tr.kind t && ((Tr.v t).kind == (Tr.v t).kind && ((Tr.v t).m == (Tr.v t).m && ((Tr.v t).s == (Tr.v t).s && true) && ((Tr.v t).txt == (Tr.v t).txt && ((Tr.v t).b == (Tr.v t).b && ((Tr.v t).e == (Tr.v t).e && true))))) && ((Tr.a t).row == (Tr.a t).row && ((Tr.a t).col == (Tr.a t).col && ((Tr.a t).rr == (Tr.a t).rr && ((Tr.a t).rc == (Tr.a t).rc && true))) && ((Tr.b t).row == (Tr.b t).row && ((Tr.b t).col == (Tr.b t).col && ((Tr.b t).rr == (Tr.b t).rr && ((Tr.b t).rc == (Tr.b t).rc && true))) && true)) && Tr.sheet t == Tr.sheet t && Tr.op t == Tr.op t && (↑(List.length (Tr.encs (Tr.kids t))) : Int) == (↑(List.length (Tr.encs (Tr.kids t))) : Int))) []) := by kernel_rfl
def hd47 (es : List DV) (n i : Nat) : St := mkS 32 [(1, .psl 19 es), (2, .fn (.func 49) [] []), (15, .psl 19 es), (16, .int .i64 n), (17, .int .i64 i)] [] []
def F47 (k : Ex -> St -> Prop) : Prop := k (.exit 0) (mkS 32 [] [] [])
def E47 (L : St -> Prop) : Env := { ls := [(0, loopS [1, 2, 15, 16, 17] [] 32 L F47)] }
def E47b (g : Prop) (t : Tr) (d : Int) : Env := { ss := [(29, 49, callG g [ndv t d, ndv t d] (.bool true))], an := [(21, ndv t d), (25, ndv t d)] }
theorem vc47 (es : List DV) (L : St -> Prop) (Φ : DV -> List Blk -> Prop) : (vcF cfg (E47 L) 47 [.psl 19 es, .psl 19 es, .fn (.func 49) [] []] [] Φ) =
    (brB ((↑(List.length es) : Int) != (↑(List.length es) : Int)) (Φ (DV.bool false) []) (L (mkS 32 [(1, DV.psl 19 es), (2, DV.fn (Fn.func (49 : FuncId)) [] []), (15, DV.psl 19 es), (16, DV.int .i64 (↑(List.length es) : Int)), (17, DV.int .i64 0)] [] []) /\ Φ (DV.bool true) [])) := by kernel_rfl
theorem vc47_1 (es : List DV) (g : Prop) (t : Tr) (d : Int) (n i : Nat) (L : St -> Prop) (K : Ex -> St -> Prop) : (vcB cfg (E47b g t d) 47 0 (hd47 es n i) (bodyK L [1, 2, 15, 16, 17] [] [6] [] 32 K)) =
    (brB (decide ((↑i : Int) < (↑n : Int))) (obB (decide (i < List.length es)) (es[Int.toNat (↑i : Int)]? = some (DV.agg [DV.int .i64 (Tr.kind t), DV.int .i64 (Tr.v t).kind, DV.int .i64 (Tr.v t).m, DV.int .i64 (Tr.v t).s, DV.str (Tr.v t).txt, DV.bool (Tr.v t).b, DV.int .i64 (Tr.v t).e, DV.int .i64 (Tr.a t).row, DV.int .i64 (Tr.a t).col, DV.bool (Tr.a t).rr, DV.bool (Tr.a t).rc, DV.int .i64 (Tr.b t).row, DV.int .i64 (Tr.b t).col, DV.bool (Tr.b t).rr, DV.bool (Tr.b t).rc, DV.int .i64 (Tr.sheet t), DV.int .i64 (Tr.op t), DV.psl 18 (Tr.encs (Tr.kids t)), DV.int .i64 d]) /\ obB (decide (i < List.length es)) (es[Int.toNat (↑i : Int)]? = some (DV.agg [DV.int .i64 (Tr.kind t), DV.int .i64 (Tr.v t).kind, DV.int .i64 (Tr.v t).m, DV.int .i64 (Tr.v t).s, DV.str (Tr.v t).txt, DV.bool (Tr.v t).b, DV.int .i64 (Tr.v t).e, DV.int .i64 (Tr.a t).row, DV.int .i64 (Tr.a t).col, DV.bool (Tr.a t).rr, DV.bool (Tr.a t).rc, DV.int .i64 (Tr.b t).row, DV.int .i64 (Tr.b t).col, DV.bool (Tr.b t).rr, DV.bool (Tr.b t).rc, DV.int .i64 (Tr.sheet t), DV.int .i64 (Tr.op t), DV.psl 18 (Tr.encs (Tr.kids t)), DV.int .i64 d]) /\ g /\ [DV.agg [DV.int .i64 (Tr.kind t), DV.int .i64 (Tr.v t).kind, DV.int .i64 (Tr.v t).m, DV.int .i64 (Tr.v t).s, DV.str (Tr.v t).txt, DV.bool (Tr.v t).b, DV.int .i64 (Tr.v t).e, DV.int .i64 (Tr.a t).row, DV.int .i64 (Tr.a t).col, DV.bool (Tr.a t).rr, DV.bool (Tr.a t).rc, DV.int .i64 (Tr.b t).row, DV.int .i64 (Tr.b t).col, DV.bool (Tr.b t).rr, DV.bool (Tr.b t).rc, DV.int .i64 (Tr.sheet t), DV.int .i64 (Tr.op t), DV.psl 18 (Tr.encs (Tr.kids t)), DV.int .i64 d], DV.agg [DV.int .i64 (Tr.kind t), DV.int .i64 (Tr.v t).kind, DV.int .i64 (Tr.v t).m, DV.int .i64 (Tr.v t).s, DV.str (Tr.v t).txt, DV.bool (Tr.v t).b, DV.int .i64 (Tr.v t).e, DV.int .i64 (Tr.a t).row, DV.int .i64 (Tr.a t).col, DV.bool (Tr.a t).rr, DV.bool (Tr.a t).rc, DV.int .i64 (Tr.b t).row, DV.int .i64 (Tr.b t).col, DV.bool (Tr.b t).rr, DV.bool (Tr.b t).rc, DV.int .i64 (Tr.sheet t), DV.int .i64 (Tr.op t), DV.psl 18 (Tr.encs (Tr.kids t)), DV.int .i64 d]] = [DV.agg [DV.int .i64 (Tr.kind t), DV.int .i64 (Tr.v t).kind, DV.int .i64 (Tr.v t).m, DV.int .i64 (Tr.v t).s, DV.str (Tr.v t).txt, DV.bool (Tr.v t).b, DV.int .i64 (Tr.v t).e, DV.int .i64 (Tr.a t).row, DV.int .i64 (Tr.a t).col, DV.bool (Tr.a t).rr, DV.bool (Tr.a t).rc, DV.int .i64 (Tr.b t).row, DV.int .i64 (Tr.b t).col, DV.bool (Tr.b t).rr, DV.bool (Tr.b t).rc, DV.int .i64 (Tr.sheet t), DV.int .i64 (Tr.op t), DV.psl 18 (Tr.encs (Tr.kids t)), DV.int .i64 d], DV.agg [DV.int .i64 (Tr.kind t), DV.int .i64 (Tr.v t).kind, DV.int .i64 (Tr.v t).m, DV.int .i64 (Tr.v t).s, DV.str (Tr.v t).txt, DV.bool (Tr.v t).b, DV.int .i64 (Tr.v t).e, DV.int .i64 (Tr.a t).row, DV.int .i64 (Tr.a t).col, DV.bool (Tr.a t).rr, DV.bool (Tr.a t).rc, DV.int .i64 (Tr.b t).row, DV.int .i64 (Tr.b t).col, DV.bool (Tr.b t).rr, DV.bool (Tr.b t).rc, DV.int .i64 (Tr.sheet t), DV.int .i64 (Tr.op t), DV.psl 18 (Tr.encs (Tr.kids t)), DV.int .i64 d]] /\ obB (inR .i64 ((↑i : Int) + 1)) (L (mkS 32 [(1, DV.psl 19 es), (2, DV.fn (Fn.func (49 : FuncId)) [] []), (15, DV.psl 19 es), (16, DV.int .i64 n), (17, DV.int .i64 ((↑i : Int) + 1))] [] []))))) (K (Ex.exit 0) (mkS 32 [] [] []))) := by kernel_rfl
def E22 (t : Tr) (es : List DV) : Env := { cs := [(48, callS [t.dv] (.psl 19 es)), (47, callS [.psl 19 es, .psl 19 es, .fn (.func 49) [] []] (.bool true))] }
theorem vc22 (t : Tr) (es : List DV) (Φ : DV -> List Blk -> Prop) : (vcF cfg (E22 t es) 22 [t.dv, t.dv] [] Φ) =
    ([Tr.dv t] = [Tr.dv t] /\ [Tr.dv t] = [Tr.dv t] /\ [DV.psl 19 es, DV.psl 19 es, DV.fn (Fn.func 49) [] []] = [DV.psl 19 es, DV.psl 19 es, DV.fn (Fn.func (49 : FuncId)) [] []] /\ Φ (DV.bool true) []) := by kernel_rfl
section
variable {Pr Ow : Nat -> List DV -> DV -> Prop}
theorem f49_go (t : Tr) (d : Int) (Φ : DV -> List Blk -> Prop) (h : Φ (.bool true) []) : GoC cfg Pr Ow 49 [ndv t d, ndv t d] [] Φ := by
  refine fn_of0 E0_ok rfl ?_
  rw [vc49]
  simp only [beq_self_eq_true, Bool.and_self, Bool.and_true]
  exact h
theorem nt47 : ntOf cfg 47 = 32 := by kernel_rfl
theorem nd47 : nodupK (loops 0 (codeOf cfg 47)) = true := by kernel_rfl
theorem nds_get {l : List (Tr × Int)} {i : Nat} (h : i < l.length) : (nds l)[i]? = some (ndv (l.getD i default).1 (l.getD i default).2) := by
  unfold nds
  rw [List.getElem?_map, List.getD_eq_getElem?_getD, List.getElem?_eq_getElem h]; rfl
theorem nds_len (l : List (Tr × Int)) : (nds l).length = l.length := List.length_map _
theorem f47_go (l : List (Tr × Int)) (hl : l.length <= 4000000000) (Φ : DV -> List Blk -> Prop) (h : Φ (.bool true) []) : GoC cfg Pr Ow 47 [.psl 19 (nds l), .psl 19 (nds l), .fn (.func 49) [] []] [] Φ := by
  refine fn_of (E := E47 fun st => st = hd47 (nds l) l.length 0) (envOK trivial trivial trivial) nt47 nd47 ?_ ?_
  · intro b sp hl' st k hs
    obtain ⟨rfl, rfl⟩ := look_one rfl hl'
    refine loopS_ok (fun st hst k hk => ?_) hs
    subst hst
    refine count_loop (n := l.length) (E := fun i => E47b (i < l.length) (l.getD i default).1 (l.getD i default).2) (ks := [1, 2, 15, 16, 17]) (bs := []) (ks2 := [6]) (bs2 := []) nt47
      (fun i _ => envOK trivial ⟨callG_ok fun _ => f49_go _ _, trivial⟩ trivial) (fun _ => ⟨rfl, rfl⟩) ?_ 0 (Nat.zero_le _)
    intro i hi L hL
    rw [vc47_1]
    refine brB_of (fun h => ?_) (fun h => hk)
    have hlt : i < l.length := by simpa using h
    have hb : decide (i < (nds l).length) = true := by simpa [nds_len] using hlt
    have hg := nds_get hlt
    refine obB_of hb ⟨hg, obB_of hb ⟨hg, hlt, rfl, obB_of (inR64 (by omega)) ?_⟩⟩
    rw [← cast_succ]; exact hL hlt
  · rw [vc47]
    refine brB_of (fun h => ?_) (fun _ => ⟨by rw [nds_len]; rfl, h⟩)
    simp at h
theorem Same_go (t : Tr) (l : List (Tr × Int)) (hl : l.length <= 4000000000) (hw : ∀ Φ : DV -> List Blk -> Prop, Φ (.psl 19 (nds l)) [] -> GoC cfg Pr Ow 48 [t.dv] [] Φ) (Φ : DV -> List Blk -> Prop) (h : Φ (.bool true) []) : GoC cfg Pr Ow 22 [t.dv, t.dv] [] Φ := by
  refine fn_of0 (E := E22 t (nds l)) (envOK ⟨callS_ok hw, callS_ok (f47_go l hl), trivial⟩ trivial trivial) rfl ?_
  rw [vc22]
  exact ⟨rfl, rfl, rfl, h⟩
end
end Go.Det.Sea
end

section
namespace Go.Det.Sea
open Go Go.Det
noncomputable def B048 : Code := .block 0 (.rangeFunc (.tmp 33) #[34, 35] (.region 9 (reg 48 9) false) (.block 1 (.region 10 (reg 48 10) false)))
def NoP (_ : Nat) (_ : List DV) (_ : DV) : Prop := False
def S48 (f nt : Nat) (c : Code) (st : St) (e : Ex) (st' : St) : Prop := f = 48 /\ nt = 44 /\ c = B048 /\ e = .normal /\ ∃ (kids : List Tr) (T : List DV) (h1 : Heap) (I : Nat -> Heap -> Prop), kids.length <= 4000000000 /\
  sget st.t 33 = backV (Tr.encs kids) /\ Weaker st { t := T, h := h1 } /\ I 0 h1 /\ (∀ k i, i + k + 1 = kids.length -> Round cfg NoP NoP 48 44 T 34 35 (reg 48 9) (reg 48 10) I k (i : Int) (kids.getD i default).dv) /\ ∀ h, I kids.length h -> Weaker { t := T, h := h } st'
noncomputable def cfgS : Cfg := { cfg with sem := S48 }
theorem qA48 : (reg 48 9).toList.all quietO = true := by kernel_rfl
theorem qC48 : (reg 48 10).toList.all quietO = true := by kernel_rfl
theorem globS : cfgS.glob = cfg.glob := rfl
theorem semS : cfgS.sem = S48 := rfl
theorem S48_ok (hT : ∀ t ti, cfg.T t = some ti -> TiOK Go.Proofs.Tryz.prog t ti) : ∀ f nt c st e st', cfgS.sem f nt c st e st' -> Says Go.Proofs.Tryz.prog cfgS (.code f nt c st e st') := by
  intro f nt c st e st' hs
  rw [semS] at hs
  obtain ⟨rfl, rfl, rfl, rfl, kids, T, h1, I, hkl, hg, hw, hI, hR, hend⟩ := hs
  obtain ⟨T0, h0⟩ := st
  intro ρ0 w0 L m0 a w ρ m hG r
  have hG2 : GlobOK cfg m0 := by
    unfold GlobOK at hG ⊢
    rw [globS] at hG
    exact hG
  have key := range127 (nt := 44) (f := 48) (g := 33) (idA := 9) (idB := 1) (idC := 10) (Q := Exit.inBlock 0 (Post1 44 ρ0 w0 L m0 .normal st')) hT qA48 qC48 kids hkl hg hw hI hR hG2 r fun h a' w' ρ' m' hI' r' => ⟨rfl, ρ', m', r'.weaker (hend h hI')⟩
  exact wp_block key
def rdT (no : Nat) : List DV := (mkS 44 [(3, .rsl 29 19 0 no), (4, .ptr 4 1 0 0), (5, .ptr 5 19 0 0)] [] []).t
def rdH (j n : Nat) (S O : List DV) (t : Tr) (d : Int) : Heap := (mkS 44 [] [(4, .box [.rsl j 19 0 n]), (5, .box (t.cells ++ [.int .i64 d])), (29, .row 19 O), (j, .row 19 S)] []).h
def rdS (j n : Nat) (S O : List DV) (t x : Tr) (d : Int) : St := mkS 44 [(4, .ptr 4 1 0 0), (5, .ptr 5 19 0 0), (7, .ptr 7 18 0 0)] [(4, .box [.rsl j 19 0 n]), (5, .box (t.cells ++ [.int .i64 d])), (7, .box x.cells), (29, .row 19 O), (j, .row 19 S)] []
def rdA (no i : Nat) (x : Tr) (j n : Nat) (S O : List DV) (t : Tr) (d : Int) : St := { t := ((rdT no).set 34 (.int .i64 i)).set 35 x.dv, h := rdH j n S O t d }
theorem rd9_10 (no i : Nat) (n : Nat) (S O : List DV) (t x : Tr) (d : Int) (M : List Nat -> St -> Prop) : (vcOps cfg {} 48 44 (reg 48 9).toList (reg 48 9).toList (rdA no i x 10 n S O t d) (fun outs st => M (outs.flatMap (·.φ)) (keepT [4, 5, 7] [4, 5, 7, 29, 10] 44 st))) =
    (M [7] (mkS 44 [(4, DV.ptr 4 1 0 0), (5, DV.ptr 5 19 0 0), (7, DV.ptr 7 18 0 0)] [(4, Blk.box [DV.rsl 10 19 0 n]), (5, Blk.box [DV.int .i64 (Tr.kind t), DV.int .i64 (Tr.v t).kind, DV.int .i64 (Tr.v t).m, DV.int .i64 (Tr.v t).s, DV.str (Tr.v t).txt, DV.bool (Tr.v t).b, DV.int .i64 (Tr.v t).e, DV.int .i64 (Tr.a t).row, DV.int .i64 (Tr.a t).col, DV.bool (Tr.a t).rr, DV.bool (Tr.a t).rc, DV.int .i64 (Tr.b t).row, DV.int .i64 (Tr.b t).col, DV.bool (Tr.b t).rr, DV.bool (Tr.b t).rc, DV.int .i64 (Tr.sheet t), DV.int .i64 (Tr.op t), DV.psl 18 (Tr.encs (Tr.kids t)), DV.int .i64 d]), (7, Blk.box (Tr.cells x)), (10, Blk.row 19 S), (29, Blk.row 19 O)] [])) := by kernel_rfl
theorem rd9_43 (no i : Nat) (n : Nat) (S O : List DV) (t x : Tr) (d : Int) (M : List Nat -> St -> Prop) : (vcOps cfg {} 48 44 (reg 48 9).toList (reg 48 9).toList (rdA no i x 43 n S O t d) (fun outs st => M (outs.flatMap (·.φ)) (keepT [4, 5, 7] [4, 5, 7, 29, 43] 44 st))) =
    (M [7] (mkS 44 [(4, DV.ptr 4 1 0 0), (5, DV.ptr 5 19 0 0), (7, DV.ptr 7 18 0 0)] [(4, Blk.box [DV.rsl 43 19 0 n]), (5, Blk.box [DV.int .i64 (Tr.kind t), DV.int .i64 (Tr.v t).kind, DV.int .i64 (Tr.v t).m, DV.int .i64 (Tr.v t).s, DV.str (Tr.v t).txt, DV.bool (Tr.v t).b, DV.int .i64 (Tr.v t).e, DV.int .i64 (Tr.a t).row, DV.int .i64 (Tr.a t).col, DV.bool (Tr.a t).rr, DV.bool (Tr.a t).rc, DV.int .i64 (Tr.b t).row, DV.int .i64 (Tr.b t).col, DV.bool (Tr.b t).rr, DV.bool (Tr.b t).rc, DV.int .i64 (Tr.sheet t), DV.int .i64 (Tr.op t), DV.psl 18 (Tr.encs (Tr.kids t)), DV.int .i64 d]), (7, Blk.box (Tr.cells x)), (29, Blk.row 19 O), (43, Blk.row 19 S)] [])) := by kernel_rfl
theorem rd10_10 (n : Nat) (S O : List DV) (t x : Tr) (d : Int) (M : List Nat -> St -> Prop) : (vcOps cfg {} 48 44 (reg 48 10).toList (reg 48 10).toList (rdS 10 n S O t x d) (fun outs st => M (outs.flatMap (·.φ)) (keepT [] [4, 5, 29, 43] 44 st))) =
    (obB (inR .i64 (d + (1 : Int))) (obB (decide (0 + n <= List.length S)) (obB (roomy 160 (n + 1)) (M [10, 43] (mkS 44 [] [(4, Blk.box [DV.rsl 43 19 0 (n + 1)]), (5, Blk.box [DV.int .i64 (Tr.kind t), DV.int .i64 (Tr.v t).kind, DV.int .i64 (Tr.v t).m, DV.int .i64 (Tr.v t).s, DV.str (Tr.v t).txt, DV.bool (Tr.v t).b, DV.int .i64 (Tr.v t).e, DV.int .i64 (Tr.a t).row, DV.int .i64 (Tr.a t).col, DV.bool (Tr.a t).rr, DV.bool (Tr.a t).rc, DV.int .i64 (Tr.b t).row, DV.int .i64 (Tr.b t).col, DV.bool (Tr.b t).rr, DV.bool (Tr.b t).rc, DV.int .i64 (Tr.sheet t), DV.int .i64 (Tr.op t), DV.psl 18 (Tr.encs (Tr.kids t)), DV.int .i64 d]), (29, Blk.row 19 O), (43, Blk.row 19 (List.take n S ++ [DV.agg [DV.int .i64 (Tr.kind x), DV.int .i64 (Tr.v x).kind, DV.int .i64 (Tr.v x).m, DV.int .i64 (Tr.v x).s, DV.str (Tr.v x).txt, DV.bool (Tr.v x).b, DV.int .i64 (Tr.v x).e, DV.int .i64 (Tr.a x).row, DV.int .i64 (Tr.a x).col, DV.bool (Tr.a x).rr, DV.bool (Tr.a x).rc, DV.int .i64 (Tr.b x).row, DV.int .i64 (Tr.b x).col, DV.bool (Tr.b x).rr, DV.bool (Tr.b x).rc, DV.int .i64 (Tr.sheet x), DV.int .i64 (Tr.op x), DV.psl 18 (Tr.encs (Tr.kids x)), DV.int .i64 (d + (1 : Int))]]))] []))))) := by kernel_rfl
theorem rd10_43 (n : Nat) (S O : List DV) (t x : Tr) (d : Int) (M : List Nat -> St -> Prop) : (vcOps cfg {} 48 44 (reg 48 10).toList (reg 48 10).toList (rdS 43 n S O t x d) (fun outs st => M (outs.flatMap (·.φ)) (keepT [] [4, 5, 29, 43] 44 st))) =
    (obB (inR .i64 (d + (1 : Int))) (obB (decide (0 + n <= List.length S)) (obB (roomy 160 (n + 1)) (M [43, 43] (mkS 44 [] [(4, Blk.box [DV.rsl 43 19 0 (n + 1)]), (5, Blk.box [DV.int .i64 (Tr.kind t), DV.int .i64 (Tr.v t).kind, DV.int .i64 (Tr.v t).m, DV.int .i64 (Tr.v t).s, DV.str (Tr.v t).txt, DV.bool (Tr.v t).b, DV.int .i64 (Tr.v t).e, DV.int .i64 (Tr.a t).row, DV.int .i64 (Tr.a t).col, DV.bool (Tr.a t).rr, DV.bool (Tr.a t).rc, DV.int .i64 (Tr.b t).row, DV.int .i64 (Tr.b t).col, DV.bool (Tr.b t).rr, DV.bool (Tr.b t).rc, DV.int .i64 (Tr.sheet t), DV.int .i64 (Tr.op t), DV.psl 18 (Tr.encs (Tr.kids t)), DV.int .i64 d]), (29, Blk.row 19 O), (43, Blk.row 19 (List.take n S ++ [DV.agg [DV.int .i64 (Tr.kind x), DV.int .i64 (Tr.v x).kind, DV.int .i64 (Tr.v x).m, DV.int .i64 (Tr.v x).s, DV.str (Tr.v x).txt, DV.bool (Tr.v x).b, DV.int .i64 (Tr.v x).e, DV.int .i64 (Tr.a x).row, DV.int .i64 (Tr.a x).col, DV.bool (Tr.a x).rr, DV.bool (Tr.a x).rc, DV.int .i64 (Tr.b x).row, DV.int .i64 (Tr.b x).col, DV.bool (Tr.b x).rr, DV.bool (Tr.b x).rc, DV.int .i64 (Tr.sheet x), DV.int .i64 (Tr.op x), DV.psl 18 (Tr.encs (Tr.kids x)), DV.int .i64 (d + (1 : Int))]]))] []))))) := by kernel_rfl
end Go.Det.Sea
end

section
namespace Go.Det.Sea
open Go Go.Det
def cutG (G : St -> (Ex -> St -> Prop) -> Prop) (ks bs : List Nat) (nt : Nat) : LSpec := fun st k => G (keepT ks bs nt st) k
noncomputable def c48 : Code := match codeOf cfg 48 with
  | .seq _ (.scope c) => c
  | _ => .skip
noncomputable def rest48 : Code := match findLabel c48 0 with
  | some c => c
  | none => .skip
theorem find48 : findLabel c48 0 = some rest48 := by kernel_rfl
noncomputable def tail48 : Code := .seq (.region 7 (reg 48 7) false) (.seq (.seq (.region 8 (reg 48 8) false) B048) (.goto 0))
def st1 (t : Tr) : St := mkS 44 [(1, .ptr 1 18 0 0), (2, .nilsl)] [(1, .box t.cells)] []
def hd (j n : Nat) (S : List DV) (no : Nat) (O : List DV) : St := mkS 44 [(3, .rsl 29 19 0 no), (4, .ptr 4 1 0 0)] [(4, .box [.rsl j 19 0 n]), (29, .row 19 O), (j, .row 19 S)] []
def E48 (G : St -> (Ex -> St -> Prop) -> Prop) (j : Nat) (t : Tr) (d : Int) : Env := { cu := [(7, cutG G [3, 4, 5] [4, 5, 29, j] 44)], an := [(20, ndv t d)] }
theorem w0v (t : Tr) (M : St -> Prop) : (vcOps cfgS {} 48 44 (reg 48 0).toList (reg 48 0).toList { t := t.dv :: List.replicate 43 (.tup []), h := List.replicate 44 none } (fun outs st => M (keepT [1, 2] [1] 44 st))) =
    (M (mkS 44 [(1, DV.ptr 1 18 0 0), (2, DV.nilsl)] [(1, Blk.box (Tr.cells t))] [])) := by kernel_rfl
theorem w1v (t : Tr) (G : St -> (Ex -> St -> Prop) -> Prop) (K : Ex -> St -> Prop) : (vc cfgS (E48 G 10 t 1) 48 44 0 c48 (st1 t) K) =
    (some (DV.agg [DV.int .i64 (Tr.kind t), DV.int .i64 (Tr.v t).kind, DV.int .i64 (Tr.v t).m, DV.int .i64 (Tr.v t).s, DV.str (Tr.v t).txt, DV.bool (Tr.v t).b, DV.int .i64 (Tr.v t).e, DV.int .i64 (Tr.a t).row, DV.int .i64 (Tr.a t).col, DV.bool (Tr.a t).rr, DV.bool (Tr.a t).rc, DV.int .i64 (Tr.b t).row, DV.int .i64 (Tr.b t).col, DV.bool (Tr.b t).rr, DV.bool (Tr.b t).rc, DV.int .i64 (Tr.sheet t), DV.int .i64 (Tr.op t), DV.psl 18 (Tr.encs (Tr.kids t)), DV.int .i64 1]) = some (DV.agg [DV.int .i64 (Tr.kind t), DV.int .i64 (Tr.v t).kind, DV.int .i64 (Tr.v t).m, DV.int .i64 (Tr.v t).s, DV.str (Tr.v t).txt, DV.bool (Tr.v t).b, DV.int .i64 (Tr.v t).e, DV.int .i64 (Tr.a t).row, DV.int .i64 (Tr.a t).col, DV.bool (Tr.a t).rr, DV.bool (Tr.a t).rc, DV.int .i64 (Tr.b t).row, DV.int .i64 (Tr.b t).col, DV.bool (Tr.b t).rr, DV.bool (Tr.b t).rc, DV.int .i64 (Tr.sheet t), DV.int .i64 (Tr.op t), DV.psl 18 (Tr.encs (Tr.kids t)), DV.int .i64 1]) /\ G (mkS 44 [(3, DV.nilsl), (4, DV.ptr 4 1 0 0), (5, DV.ptr 5 19 0 0)] [(4, Blk.box [DV.rsl 10 19 0 0]), (5, Blk.box [DV.int .i64 (Tr.kind t), DV.int .i64 (Tr.v t).kind, DV.int .i64 (Tr.v t).m, DV.int .i64 (Tr.v t).s, DV.str (Tr.v t).txt, DV.bool (Tr.v t).b, DV.int .i64 (Tr.v t).e, DV.int .i64 (Tr.a t).row, DV.int .i64 (Tr.a t).col, DV.bool (Tr.a t).rr, DV.bool (Tr.a t).rc, DV.int .i64 (Tr.b t).row, DV.int .i64 (Tr.b t).col, DV.bool (Tr.b t).rr, DV.bool (Tr.b t).rc, DV.int .i64 (Tr.sheet t), DV.int .i64 (Tr.op t), DV.psl 18 (Tr.encs (Tr.kids t)), DV.int .i64 1]), (10, Blk.row 19 [DV.agg [DV.int .i64 (Tr.kind t), DV.int .i64 (Tr.v t).kind, DV.int .i64 (Tr.v t).m, DV.int .i64 (Tr.v t).s, DV.str (Tr.v t).txt, DV.bool (Tr.v t).b, DV.int .i64 (Tr.v t).e, DV.int .i64 (Tr.a t).row, DV.int .i64 (Tr.a t).col, DV.bool (Tr.a t).rr, DV.bool (Tr.a t).rc, DV.int .i64 (Tr.b t).row, DV.int .i64 (Tr.b t).col, DV.bool (Tr.b t).rr, DV.bool (Tr.b t).rc, DV.int .i64 (Tr.sheet t), DV.int .i64 (Tr.op t), DV.psl 18 (Tr.encs (Tr.kids t)), DV.int .i64 1]])] []) K) := by kernel_rfl
theorem w10v (t : Tr) (d : Int) (n : Nat) (S : List DV) (no : Nat) (O : List DV) (G : St -> (Ex -> St -> Prop) -> Prop) (K : Ex -> St -> Prop) : (vc cfgS (E48 G 10 t d) 48 44 0 rest48 (hd 10 n S no O) K) =
    (brB ((↑n : Int) == 0) (K Ex.ret (mkS 44 [(2, DV.rsl 29 19 0 no), (3, DV.rsl 29 19 0 no), (4, DV.ptr 4 1 0 0), (11, DV.rsl 10 19 0 n), (12, DV.int .i64 n), (13, DV.bool ((↑n : Int) == 0)), (14, DV.rsl 29 19 0 no)] [(4, Blk.box [DV.rsl 10 19 0 n]), (10, Blk.row 19 S), (29, Blk.row 19 O)] [])) (obB (inR .i64 ((↑n : Int) - 1)) (obB (decide ((0 : Int) <= (↑n : Int) - 1)) (obB (decide (Int.toNat ((↑n : Int) - 1) < n)) (S[0 + Int.toNat ((↑n : Int) - 1)]? = some (DV.agg [DV.int .i64 (Tr.kind t), DV.int .i64 (Tr.v t).kind, DV.int .i64 (Tr.v t).m, DV.int .i64 (Tr.v t).s, DV.str (Tr.v t).txt, DV.bool (Tr.v t).b, DV.int .i64 (Tr.v t).e, DV.int .i64 (Tr.a t).row, DV.int .i64 (Tr.a t).col, DV.bool (Tr.a t).rr, DV.bool (Tr.a t).rc, DV.int .i64 (Tr.b t).row, DV.int .i64 (Tr.b t).col, DV.bool (Tr.b t).rr, DV.bool (Tr.b t).rc, DV.int .i64 (Tr.sheet t), DV.int .i64 (Tr.op t), DV.psl 18 (Tr.encs (Tr.kids t)), DV.int .i64 d]) /\ obB (inR .i64 ((↑n : Int) - 1)) (obB (decide ((0 : Int) <= (↑n : Int) - 1)) (obB (decide (Int.toNat ((↑n : Int) - 1) <= n)) (G (mkS 44 [(3, DV.rsl 29 19 0 no), (4, DV.ptr 4 1 0 0), (5, DV.ptr 5 19 0 0)] [(4, Blk.box [DV.rsl 10 19 0 (Int.toNat ((↑n : Int) - 1) - 0)]), (5, Blk.box [DV.int .i64 (Tr.kind t), DV.int .i64 (Tr.v t).kind, DV.int .i64 (Tr.v t).m, DV.int .i64 (Tr.v t).s, DV.str (Tr.v t).txt, DV.bool (Tr.v t).b, DV.int .i64 (Tr.v t).e, DV.int .i64 (Tr.a t).row, DV.int .i64 (Tr.a t).col, DV.bool (Tr.a t).rr, DV.bool (Tr.a t).rc, DV.int .i64 (Tr.b t).row, DV.int .i64 (Tr.b t).col, DV.bool (Tr.b t).rr, DV.bool (Tr.b t).rc, DV.int .i64 (Tr.sheet t), DV.int .i64 (Tr.op t), DV.psl 18 (Tr.encs (Tr.kids t)), DV.int .i64 d]), (10, Blk.row 19 S), (29, Blk.row 19 O)] []) K)))))))) := by kernel_rfl
theorem w43v (t : Tr) (d : Int) (n : Nat) (S : List DV) (no : Nat) (O : List DV) (G : St -> (Ex -> St -> Prop) -> Prop) (K : Ex -> St -> Prop) : (vc cfgS (E48 G 43 t d) 48 44 0 rest48 (hd 43 n S no O) K) =
    (brB ((↑n : Int) == 0) (K Ex.ret (mkS 44 [(2, DV.rsl 29 19 0 no), (3, DV.rsl 29 19 0 no), (4, DV.ptr 4 1 0 0), (11, DV.rsl 43 19 0 n), (12, DV.int .i64 n), (13, DV.bool ((↑n : Int) == 0)), (14, DV.rsl 29 19 0 no)] [(4, Blk.box [DV.rsl 43 19 0 n]), (29, Blk.row 19 O), (43, Blk.row 19 S)] [])) (obB (inR .i64 ((↑n : Int) - 1)) (obB (decide ((0 : Int) <= (↑n : Int) - 1)) (obB (decide (Int.toNat ((↑n : Int) - 1) < n)) (S[0 + Int.toNat ((↑n : Int) - 1)]? = some (DV.agg [DV.int .i64 (Tr.kind t), DV.int .i64 (Tr.v t).kind, DV.int .i64 (Tr.v t).m, DV.int .i64 (Tr.v t).s, DV.str (Tr.v t).txt, DV.bool (Tr.v t).b, DV.int .i64 (Tr.v t).e, DV.int .i64 (Tr.a t).row, DV.int .i64 (Tr.a t).col, DV.bool (Tr.a t).rr, DV.bool (Tr.a t).rc, DV.int .i64 (Tr.b t).row, DV.int .i64 (Tr.b t).col, DV.bool (Tr.b t).rr, DV.bool (Tr.b t).rc, DV.int .i64 (Tr.sheet t), DV.int .i64 (Tr.op t), DV.psl 18 (Tr.encs (Tr.kids t)), DV.int .i64 d]) /\ obB (inR .i64 ((↑n : Int) - 1)) (obB (decide ((0 : Int) <= (↑n : Int) - 1)) (obB (decide (Int.toNat ((↑n : Int) - 1) <= n)) (G (mkS 44 [(3, DV.rsl 29 19 0 no), (4, DV.ptr 4 1 0 0), (5, DV.ptr 5 19 0 0)] [(4, Blk.box [DV.rsl 43 19 0 (Int.toNat ((↑n : Int) - 1) - 0)]), (5, Blk.box [DV.int .i64 (Tr.kind t), DV.int .i64 (Tr.v t).kind, DV.int .i64 (Tr.v t).m, DV.int .i64 (Tr.v t).s, DV.str (Tr.v t).txt, DV.bool (Tr.v t).b, DV.int .i64 (Tr.v t).e, DV.int .i64 (Tr.a t).row, DV.int .i64 (Tr.a t).col, DV.bool (Tr.a t).rr, DV.bool (Tr.a t).rc, DV.int .i64 (Tr.b t).row, DV.int .i64 (Tr.b t).col, DV.bool (Tr.b t).rr, DV.bool (Tr.b t).rc, DV.int .i64 (Tr.sheet t), DV.int .i64 (Tr.op t), DV.psl 18 (Tr.encs (Tr.kids t)), DV.int .i64 d]), (29, Blk.row 19 O), (43, Blk.row 19 S)] []) K)))))))) := by kernel_rfl
end Go.Det.Sea
end

section
namespace Go.Det.Sea
open Go Go.Det
def t7n (t : Tr) : St := mkS 44 [(3, .nilsl), (4, .ptr 4 1 0 0), (5, .ptr 5 19 0 0)] [(4, .box [.rsl 10 19 0 0]), (5, .box (t.cells ++ [.int .i64 1])), (10, .row 19 [ndv t 1])] []
def t7 (j n : Nat) (S : List DV) (no : Nat) (O : List DV) (t : Tr) (d : Int) : St := mkS 44 [(3, .rsl 29 19 0 no), (4, .ptr 4 1 0 0), (5, .ptr 5 19 0 0)] [(4, .box [.rsl j 19 0 n]), (5, .box (t.cells ++ [.int .i64 d])), (29, .row 19 O), (j, .row 19 S)] []
def t8 (j n : Nat) (S : List DV) (no : Nat) (O : List DV) (t : Tr) (d : Int) : St := mkS 44 [(3, .rsl 29 19 0 no), (4, .ptr 4 1 0 0), (5, .ptr 5 19 0 0), (33, backV (Tr.encs t.kids))] [(4, .box [.rsl j 19 0 n]), (5, .box (t.cells ++ [.int .i64 d])), (29, .row 19 O), (j, .row 19 S)] []
def E84 (t : Tr) : Env := { cs := [(84, callS [.psl 18 (Tr.encs t.kids)] (.fn (.func 127) [] [.eptr 1 [.psl 18 (Tr.encs t.kids)] 0 0]))] }
theorem r7n (t : Tr) (M : St -> Prop) : (vcOps cfgS {} 48 44 (reg 48 7).toList (reg 48 7).toList (t7n t) (fun outs st => M (keepT [3, 4, 5] [4, 5, 10, 29] 44 st))) =
    (M (mkS 44 [(3, DV.rsl 29 19 0 1), (4, DV.ptr 4 1 0 0), (5, DV.ptr 5 19 0 0)] [(4, Blk.box [DV.rsl 10 19 0 0]), (5, Blk.box [DV.int .i64 (Tr.kind t), DV.int .i64 (Tr.v t).kind, DV.int .i64 (Tr.v t).m, DV.int .i64 (Tr.v t).s, DV.str (Tr.v t).txt, DV.bool (Tr.v t).b, DV.int .i64 (Tr.v t).e, DV.int .i64 (Tr.a t).row, DV.int .i64 (Tr.a t).col, DV.bool (Tr.a t).rr, DV.bool (Tr.a t).rc, DV.int .i64 (Tr.b t).row, DV.int .i64 (Tr.b t).col, DV.bool (Tr.b t).rr, DV.bool (Tr.b t).rc, DV.int .i64 (Tr.sheet t), DV.int .i64 (Tr.op t), DV.psl 18 (Tr.encs (Tr.kids t)), DV.int .i64 1]), (10, Blk.row 19 [DV.agg [DV.int .i64 (Tr.kind t), DV.int .i64 (Tr.v t).kind, DV.int .i64 (Tr.v t).m, DV.int .i64 (Tr.v t).s, DV.str (Tr.v t).txt, DV.bool (Tr.v t).b, DV.int .i64 (Tr.v t).e, DV.int .i64 (Tr.a t).row, DV.int .i64 (Tr.a t).col, DV.bool (Tr.a t).rr, DV.bool (Tr.a t).rc, DV.int .i64 (Tr.b t).row, DV.int .i64 (Tr.b t).col, DV.bool (Tr.b t).rr, DV.bool (Tr.b t).rc, DV.int .i64 (Tr.sheet t), DV.int .i64 (Tr.op t), DV.psl 18 (Tr.encs (Tr.kids t)), DV.int .i64 1]]), (29, Blk.row 19 [DV.agg [DV.int .i64 (Tr.kind t), DV.int .i64 (Tr.v t).kind, DV.int .i64 (Tr.v t).m, DV.int .i64 (Tr.v t).s, DV.str (Tr.v t).txt, DV.bool (Tr.v t).b, DV.int .i64 (Tr.v t).e, DV.int .i64 (Tr.a t).row, DV.int .i64 (Tr.a t).col, DV.bool (Tr.a t).rr, DV.bool (Tr.a t).rc, DV.int .i64 (Tr.b t).row, DV.int .i64 (Tr.b t).col, DV.bool (Tr.b t).rr, DV.bool (Tr.b t).rc, DV.int .i64 (Tr.sheet t), DV.int .i64 (Tr.op t), DV.psl 18 (Tr.encs (Tr.kids t)), DV.int .i64 1]])] [])) := by kernel_rfl
theorem r7_10 (n : Nat) (S : List DV) (no : Nat) (O : List DV) (t : Tr) (d : Int) (M : St -> Prop) : (vcOps cfgS {} 48 44 (reg 48 7).toList (reg 48 7).toList (t7 10 n S no O t d) (fun outs st => M (keepT [3, 4, 5] [4, 5, 10, 29] 44 st))) =
    (obB (decide (0 + no <= List.length O)) (obB (roomy 160 (no + 1)) (M (mkS 44 [(3, DV.rsl 29 19 0 (no + 1)), (4, DV.ptr 4 1 0 0), (5, DV.ptr 5 19 0 0)] [(4, Blk.box [DV.rsl 10 19 0 n]), (5, Blk.box [DV.int .i64 (Tr.kind t), DV.int .i64 (Tr.v t).kind, DV.int .i64 (Tr.v t).m, DV.int .i64 (Tr.v t).s, DV.str (Tr.v t).txt, DV.bool (Tr.v t).b, DV.int .i64 (Tr.v t).e, DV.int .i64 (Tr.a t).row, DV.int .i64 (Tr.a t).col, DV.bool (Tr.a t).rr, DV.bool (Tr.a t).rc, DV.int .i64 (Tr.b t).row, DV.int .i64 (Tr.b t).col, DV.bool (Tr.b t).rr, DV.bool (Tr.b t).rc, DV.int .i64 (Tr.sheet t), DV.int .i64 (Tr.op t), DV.psl 18 (Tr.encs (Tr.kids t)), DV.int .i64 d]), (10, Blk.row 19 S), (29, Blk.row 19 (List.take no O ++ [DV.agg [DV.int .i64 (Tr.kind t), DV.int .i64 (Tr.v t).kind, DV.int .i64 (Tr.v t).m, DV.int .i64 (Tr.v t).s, DV.str (Tr.v t).txt, DV.bool (Tr.v t).b, DV.int .i64 (Tr.v t).e, DV.int .i64 (Tr.a t).row, DV.int .i64 (Tr.a t).col, DV.bool (Tr.a t).rr, DV.bool (Tr.a t).rc, DV.int .i64 (Tr.b t).row, DV.int .i64 (Tr.b t).col, DV.bool (Tr.b t).rr, DV.bool (Tr.b t).rc, DV.int .i64 (Tr.sheet t), DV.int .i64 (Tr.op t), DV.psl 18 (Tr.encs (Tr.kids t)), DV.int .i64 d]]))] [])))) := by kernel_rfl
theorem r7_43 (n : Nat) (S : List DV) (no : Nat) (O : List DV) (t : Tr) (d : Int) (M : St -> Prop) : (vcOps cfgS {} 48 44 (reg 48 7).toList (reg 48 7).toList (t7 43 n S no O t d) (fun outs st => M (keepT [3, 4, 5] [4, 5, 29, 43] 44 st))) =
    (obB (decide (0 + no <= List.length O)) (obB (roomy 160 (no + 1)) (M (mkS 44 [(3, DV.rsl 29 19 0 (no + 1)), (4, DV.ptr 4 1 0 0), (5, DV.ptr 5 19 0 0)] [(4, Blk.box [DV.rsl 43 19 0 n]), (5, Blk.box [DV.int .i64 (Tr.kind t), DV.int .i64 (Tr.v t).kind, DV.int .i64 (Tr.v t).m, DV.int .i64 (Tr.v t).s, DV.str (Tr.v t).txt, DV.bool (Tr.v t).b, DV.int .i64 (Tr.v t).e, DV.int .i64 (Tr.a t).row, DV.int .i64 (Tr.a t).col, DV.bool (Tr.a t).rr, DV.bool (Tr.a t).rc, DV.int .i64 (Tr.b t).row, DV.int .i64 (Tr.b t).col, DV.bool (Tr.b t).rr, DV.bool (Tr.b t).rc, DV.int .i64 (Tr.sheet t), DV.int .i64 (Tr.op t), DV.psl 18 (Tr.encs (Tr.kids t)), DV.int .i64 d]), (29, Blk.row 19 (List.take no O ++ [DV.agg [DV.int .i64 (Tr.kind t), DV.int .i64 (Tr.v t).kind, DV.int .i64 (Tr.v t).m, DV.int .i64 (Tr.v t).s, DV.str (Tr.v t).txt, DV.bool (Tr.v t).b, DV.int .i64 (Tr.v t).e, DV.int .i64 (Tr.a t).row, DV.int .i64 (Tr.a t).col, DV.bool (Tr.a t).rr, DV.bool (Tr.a t).rc, DV.int .i64 (Tr.b t).row, DV.int .i64 (Tr.b t).col, DV.bool (Tr.b t).rr, DV.bool (Tr.b t).rc, DV.int .i64 (Tr.sheet t), DV.int .i64 (Tr.op t), DV.psl 18 (Tr.encs (Tr.kids t)), DV.int .i64 d]])), (43, Blk.row 19 S)] [])))) := by kernel_rfl
theorem r8_10 (n : Nat) (S : List DV) (no : Nat) (O : List DV) (t : Tr) (d : Int) (M : St -> Prop) : (vcOps cfgS (E84 t) 48 44 (reg 48 8).toList (reg 48 8).toList (t7 10 n S no O t d) (fun outs st => M (keepT [3, 4, 5, 33] [4, 5, 10, 29] 44 st))) =
    ([DV.psl 18 (Tr.encs (Tr.kids t))] = [DV.psl 18 (Tr.encs (Tr.kids t))] /\ M (mkS 44 [(3, DV.rsl 29 19 0 no), (4, DV.ptr 4 1 0 0), (5, DV.ptr 5 19 0 0), (33, DV.fn (Fn.func (127 : FuncId)) [] [DV.eptr 1 [DV.psl 18 (Tr.encs (Tr.kids t))] 0 0])] [(4, Blk.box [DV.rsl 10 19 0 n]), (5, Blk.box [DV.int .i64 (Tr.kind t), DV.int .i64 (Tr.v t).kind, DV.int .i64 (Tr.v t).m, DV.int .i64 (Tr.v t).s, DV.str (Tr.v t).txt, DV.bool (Tr.v t).b, DV.int .i64 (Tr.v t).e, DV.int .i64 (Tr.a t).row, DV.int .i64 (Tr.a t).col, DV.bool (Tr.a t).rr, DV.bool (Tr.a t).rc, DV.int .i64 (Tr.b t).row, DV.int .i64 (Tr.b t).col, DV.bool (Tr.b t).rr, DV.bool (Tr.b t).rc, DV.int .i64 (Tr.sheet t), DV.int .i64 (Tr.op t), DV.psl 18 (Tr.encs (Tr.kids t)), DV.int .i64 d]), (10, Blk.row 19 S), (29, Blk.row 19 O)] [])) := by kernel_rfl
theorem r8_43 (n : Nat) (S : List DV) (no : Nat) (O : List DV) (t : Tr) (d : Int) (M : St -> Prop) : (vcOps cfgS (E84 t) 48 44 (reg 48 8).toList (reg 48 8).toList (t7 43 n S no O t d) (fun outs st => M (keepT [3, 4, 5, 33] [4, 5, 29, 43] 44 st))) =
    ([DV.psl 18 (Tr.encs (Tr.kids t))] = [DV.psl 18 (Tr.encs (Tr.kids t))] /\ M (mkS 44 [(3, DV.rsl 29 19 0 no), (4, DV.ptr 4 1 0 0), (5, DV.ptr 5 19 0 0), (33, DV.fn (Fn.func (127 : FuncId)) [] [DV.eptr 1 [DV.psl 18 (Tr.encs (Tr.kids t))] 0 0])] [(4, Blk.box [DV.rsl 43 19 0 n]), (5, Blk.box [DV.int .i64 (Tr.kind t), DV.int .i64 (Tr.v t).kind, DV.int .i64 (Tr.v t).m, DV.int .i64 (Tr.v t).s, DV.str (Tr.v t).txt, DV.bool (Tr.v t).b, DV.int .i64 (Tr.v t).e, DV.int .i64 (Tr.a t).row, DV.int .i64 (Tr.a t).col, DV.bool (Tr.a t).rr, DV.bool (Tr.a t).rc, DV.int .i64 (Tr.b t).row, DV.int .i64 (Tr.b t).col, DV.bool (Tr.b t).rr, DV.bool (Tr.b t).rc, DV.int .i64 (Tr.sheet t), DV.int .i64 (Tr.op t), DV.psl 18 (Tr.encs (Tr.kids t)), DV.int .i64 d]), (29, Blk.row 19 O), (43, Blk.row 19 S)] [])) := by kernel_rfl
noncomputable def fi48 : Fi := match cfgS.F 48 with
  | some f => f
  | none => ⟨0, [], .skip⟩
theorem retv (no : Nat) (O : List DV) (Φ : DV -> List Blk -> Prop) : (endsP cfgS fi48 [] Φ .ret (mkS 44 [(2, .rsl 29 19 0 no)] [(29, .row 19 O)] [])) =
    (obB (decide (0 + no <= List.length O)) (Φ (DV.psl 19 (List.take no O)) [])) := by kernel_rfl
theorem rests_n : nodupK (rests rest48) = true := by kernel_rfl
theorem rests_7 : look 7 (rests rest48) = some tail48 := by kernel_rfl
theorem restc_n : nodupK (rests c48) = true := by kernel_rfl
theorem restc_7 : look 7 (rests c48) = some tail48 := by kernel_rfl
theorem fi48_ok : cfgS.F 48 = some fi48 := by kernel_rfl
theorem fi48_code : fi48.code = .seq (.region 0 (reg 48 0) false) (.scope c48) := by kernel_rfl
theorem fi48_nt : fi48.nt = 44 := by kernel_rfl
end Go.Det.Sea
end

section
namespace Go.Det.Sea
open Go Go.Det
theorem E0n : EnvOK cfg NoP NoP {} := envOK trivial trivial trivial
def Is2 (φ0 : List Nat) (s0 : St) (φ : List Nat) (s : St) : Prop := φ = φ0 /\ s = s0
theorem go2 {C : Cfg} {Pr Ow : Nat -> List DV -> DV -> Prop} {E : Env} (H : EnvOK C Pr Ow E) {f nt nt2 : Nat} {os l : List Oper} {st s0 : St} {φ0 ks bs : List Nat} (h : vcOps C E f nt os l st (fun outs st => Is2 φ0 s0 (outs.flatMap (·.φ)) (keepT ks bs nt2 st))) :
    ∃ outs s, Run C Pr Ow (.ops f nt os l st outs s) /\ outs.flatMap (·.φ) = φ0 /\ keepT ks bs nt2 s = s0 := by
  obtain ⟨outs, s, h1, h2, h3⟩ := vcOps_ok H h
  exact ⟨outs, s, h1, h2, h3⟩
theorem ments_rdT (no : Nat) : mentsL (rdT no) = [29, 4, 5] := by kernel_rfl
theorem rdS10 (n : Nat) (S O : List DV) (t x : Tr) (d : Int) : rdS 10 n S O t x d = mkS 44 [(4, .ptr 4 1 0 0), (5, .ptr 5 19 0 0), (7, .ptr 7 18 0 0)] [(4, .box [.rsl 10 19 0 n]), (5, .box (t.cells ++ [.int .i64 d])), (7, .box x.cells), (10, .row 19 S), (29, .row 19 O)] [] := by kernel_rfl
theorem rdS43 (n : Nat) (S O : List DV) (t x : Tr) (d : Int) : rdS 43 n S O t x d = mkS 44 [(4, .ptr 4 1 0 0), (5, .ptr 5 19 0 0), (7, .ptr 7 18 0 0)] [(4, .box [.rsl 43 19 0 n]), (5, .box (t.cells ++ [.int .i64 d])), (7, .box x.cells), (29, .row 19 O), (43, .row 19 S)] [] := by kernel_rfl
def rdE (n : Nat) (S O : List DV) (t x : Tr) (d : Int) : St := mkS 44 [] [(4, .box [.rsl 43 19 0 (n + 1)]), (5, .box (t.cells ++ [.int .i64 d])), (29, .row 19 O), (43, .row 19 (S.take n ++ [ndv x (d + 1)]))] []
theorem rdE_h (n : Nat) (S O : List DV) (t x : Tr) (d : Int) : (rdE n S O t x d).h = rdH 43 (n + 1) (S.take n ++ [ndv x (d + 1)]) O t d := by kernel_rfl
theorem round_h {j : Nat} (hj : j = 10 \/ j = 43) (no n i : Nat) (S O : List DV) (t x : Tr) (d : Int) (hn : n <= S.length) (hl : n <= 4000000) (hd : -1000000000 <= d /\ d <= 1000000000) :
    GoO cfg NoP NoP 48 44 (reg 48 9).toList (reg 48 9).toList (rdA no i x j n S O t d) fun outs1 s1 => ∃ s1', Weaker s1 s1' /\
      GoO cfg NoP NoP 48 44 (reg 48 10).toList (reg 48 10).toList s1' fun outs2 s2 => (∀ b ∈ outs1.flatMap (·.φ) ++ outs2.flatMap (·.φ), b < 44 /\ b ∉ mentsL (rdT no)) /\
        ∃ h', (∀ b x, hget h' b = some x -> hget s2.h b = some x) /\ h' = rdH 43 (n + 1) (S.take n ++ [ndv x (d + 1)]) O t d := by
  have ob : ∀ M : List Nat -> St -> Prop, (∃ φ, M φ (rdE n S O t x d) /\ φ = [j, 43]) -> obB (inR .i64 (d + (1 : Int))) (obB (decide (0 + n <= List.length S)) (obB (roomy 160 (n + 1)) (M [j, 43] (rdE n S O t x d)))) := by
    rintro M ⟨φ, h, rfl⟩
    exact obB_of (inR64 (by omega)) (obB_of (decide_eq_true (by omega)) (obB_of (roomy_of (by omega) (by omega)) h))
  have fin : ∀ outs1 outs2 : List Out, outs1.flatMap (·.φ) = [7] -> outs2.flatMap (·.φ) = [j, 43] -> ∀ b ∈ outs1.flatMap (·.φ) ++ outs2.flatMap (·.φ), b < 44 /\ b ∉ mentsL (rdT no) := by
    intro o1 o2 h1 h2 b hb
    rw [h1, h2] at hb
    rw [ments_rdT]
    rcases hj with rfl | rfl <;> (simp at hb ⊢; omega)
  rcases hj with rfl | rfl
  · obtain ⟨outs1, s1, r1, e1, e2⟩ : ∃ outs s, Run cfg NoP NoP (.ops 48 44 (reg 48 9).toList (reg 48 9).toList (rdA no i x 10 n S O t d) outs s) /\ outs.flatMap (·.φ) = [7] /\ keepT [4, 5, 7] [4, 5, 7, 29, 10] 44 s = rdS 10 n S O t x d :=
      go2 E0n (by
        rw [rd9_10 no i n S O t x d (Is2 [7] (rdS 10 n S O t x d))]
        exact ⟨rfl, (rdS10 ..).symm⟩)
    refine ⟨outs1, s1, r1, rdS 10 n S O t x d, e2 ▸ keepT_weaker [4, 5, 7] [4, 5, 7, 29, 10] 44 s1, ?_⟩
    obtain ⟨outs2, s2, r2, e3, e4⟩ : ∃ outs s, Run cfg NoP NoP (.ops 48 44 (reg 48 10).toList (reg 48 10).toList (rdS 10 n S O t x d) outs s) /\ outs.flatMap (·.φ) = [10, 43] /\ keepT [] [4, 5, 29, 43] 44 s = rdE n S O t x d :=
      go2 E0n (by
        rw [rd10_10 n S O t x d (Is2 [10, 43] (rdE n S O t x d))]
        exact ob _ ⟨_, ⟨rfl, rfl⟩, rfl⟩)
    exact ⟨outs2, s2, r2, fin _ _ e1 e3, _, (keepT_weaker [] [4, 5, 29, 43] 44 s2).heap, by rw [e4, rdE_h]⟩
  · obtain ⟨outs1, s1, r1, e1, e2⟩ : ∃ outs s, Run cfg NoP NoP (.ops 48 44 (reg 48 9).toList (reg 48 9).toList (rdA no i x 43 n S O t d) outs s) /\ outs.flatMap (·.φ) = [7] /\ keepT [4, 5, 7] [4, 5, 7, 29, 43] 44 s = rdS 43 n S O t x d :=
      go2 E0n (by
        rw [rd9_43 no i n S O t x d (Is2 [7] (rdS 43 n S O t x d))]
        exact ⟨rfl, (rdS43 ..).symm⟩)
    refine ⟨outs1, s1, r1, rdS 43 n S O t x d, e2 ▸ keepT_weaker [4, 5, 7] [4, 5, 7, 29, 43] 44 s1, ?_⟩
    obtain ⟨outs2, s2, r2, e3, e4⟩ : ∃ outs s, Run cfg NoP NoP (.ops 48 44 (reg 48 10).toList (reg 48 10).toList (rdS 43 n S O t x d) outs s) /\ outs.flatMap (·.φ) = [43, 43] /\ keepT [] [4, 5, 29, 43] 44 s = rdE n S O t x d :=
      go2 E0n (by
        rw [rd10_43 n S O t x d (Is2 [43, 43] (rdE n S O t x d))]
        exact ob _ ⟨_, ⟨rfl, rfl⟩, rfl⟩)
    exact ⟨outs2, s2, r2, fin _ _ e1 e3, _, (keepT_weaker [] [4, 5, 29, 43] 44 s2).heap, by rw [e4, rdE_h]⟩
end Go.Det.Sea
end
