/- TextMovesCardSaid: part 33 of the texts behind it: Lf6, Pl5, Lg7, Fm1, Fm2, Pl6, Fm3, Hp3. No premise of its own. -/
import Derived.Test.YtpfjeinhmmmhkaaGreatDoorD32
import Derived.Lib.Join
set_option linter.all false
section
namespace Go.Det.Sea
open Go Go.Det
theorem vc98 (t : Tr) (Φ : DV -> List Blk -> Prop) : (vcF cfg { cs := [(58, bindsS)] } 98 [t.dv] [] Φ) =
    (brB (Tr.kind t == (8 : Int)) (Φ (DV.int .i64 (bindsI (Tr.op t))) []) (brB (Tr.kind t == (7 : Int) && Tr.op t == (3 : Int)) (Φ (DV.int .i64 7) []) (brB (Tr.kind t == (7 : Int) || Tr.kind t == (1 : Int) && (Tr.v t).kind == (1 : Int) && decide ((Tr.v t).m < (0 : Int))) (Φ (DV.int .i64 6) []) (Φ (DV.int .i64 8) [])))) := by kernel_rfl
def E57 (t : Tr) (row col b : Int) (x : List UInt8) : Env := { cs := [(30, callG True [t.dv, .agg [.int .i64 row, .int .i64 col]] (.str x)), (98, callG True [t.dv] (.int .i64 b))] }
theorem vc57 (t : Tr) (row col b w : Int) (x : List UInt8) (Φ : DV -> List Blk -> Prop) : (vcF cfg (E57 t row col b x) 57 [t.dv, .agg [.int .i64 row, .int .i64 col], .int .i64 w] [] Φ) =
    (True /\ [Tr.dv t, DV.agg [DV.int .i64 row, DV.int .i64 col]] = [Tr.dv t, DV.agg [DV.int .i64 row, DV.int .i64 col]] /\ True /\ [Tr.dv t] = [Tr.dv t] /\ brB (decide (b < w)) (obB (decide (1 + List.length x <= 4294967296)) (obB (decide (List.length (#[(40 : UInt8)].toList ++ x) + 1 <= 4294967296)) (Φ (DV.str (#[(40 : UInt8)].toList ++ x ++ #[(41 : UInt8)].toList)) []))) (Φ (DV.str x) [])) := by kernel_rfl
def E10 (t : Tr) (row col f : Int) (ok : Bool) (x : List UInt8) : Env := { cs := [(29, callG True [t.dv] (.int .i64 f)), (24, callG True [.agg [.int .i64 row, .int .i64 col]] (.bool ok)), (30, callG (f = 0 /\ ok = true) [t.dv, .agg [.int .i64 row, .int .i64 col]] (.str x))] }
theorem vc10 (t : Tr) (row col f : Int) (ok : Bool) (x : List UInt8) (Φ : DV -> List Blk -> Prop) : (vcF cfg (E10 t row col f ok x) 10 [t.dv, .agg [.int .i64 row, .int .i64 col]] [] Φ) =
    (True /\ [Tr.dv t] = [Tr.dv t] /\ brB (f != (0 : Int)) (Φ (DV.tup [DV.str [], DV.int .i64 f]) []) (True /\ [DV.agg [DV.int .i64 row, DV.int .i64 col]] = [DV.agg [DV.int .i64 row, DV.int .i64 col]] /\ brB (!ok) (Φ (DV.tup [DV.str [], DV.int .i64 12]) []) ((f = (0 : Int) /\ ok = true) /\ [Tr.dv t, DV.agg [DV.int .i64 row, DV.int .i64 col]] = [Tr.dv t, DV.agg [DV.int .i64 row, DV.int .i64 col]] /\ Φ (DV.tup [DV.str x, DV.int .i64 0]) []))) := by kernel_rfl
def strs (l : List (List UInt8)) : List DV := l.map DV.str
def hd30_0 (t : Tr) (row col : Int) (nm : List UInt8) (i : Nat) : St := mkS 162 [(2, .ptr 2 18 0 0), (3, .ptr 3 2 0 0), (7, .str nm), (9, .nilsl), (135, .psl 18 (Tr.encs t.kids)), (136, .int .i64 t.kids.length), (137, .int .i64 i)] [(2, .box t.cells), (3, .box [.int .i64 row, .int .i64 col])] []
def hd30_1 (t : Tr) (row col : Int) (nm : List UInt8) (l : List (List UInt8)) (m i : Nat) : St := mkS 162 [(2, .ptr 2 18 0 0), (3, .ptr 3 2 0 0), (7, .str nm), (9, .rsl 146 1 0 m), (135, .psl 18 (Tr.encs t.kids)), (136, .int .i64 t.kids.length), (137, .int .i64 i)] [(2, .box t.cells), (3, .box [.int .i64 row, .int .i64 col]), (146, .row 1 (strs l))] []
def F30 (t : Tr) (row col : Int) (nm : List UInt8) (l : List (List UInt8)) (k : Ex -> St -> Prop) : Prop := brB l.isEmpty (k (.exit 1) (mkS 162 [(2, .ptr 2 18 0 0), (3, .ptr 3 2 0 0), (7, .str nm), (9, .nilsl)] [(2, .box t.cells), (3, .box [.int .i64 row, .int .i64 col])] [])) (k (.exit 1) (mkS 162 [(2, .ptr 2 18 0 0), (3, .ptr 3 2 0 0), (7, .str nm), (9, .rsl 146 1 0 l.length)] [(2, .box t.cells), (3, .box [.int .i64 row, .int .i64 col]), (146, .row 1 (strs l))] []))
def joinS2 : Spec := fun xs ex k => match ex with
  | [] => (∃ l : List (List UInt8), (l = [] /\ xs = [.nilsl, .str [44]] \/ l ≠ [] /\ xs = [.psl 1 (strs l), .str [44]]) /\ (l.length <= 1000000 /\ (Lib.join l [44]).length <= 4000000000) /\ k (.str (Lib.join l [44])) [])
  | _ :: _ => False
def E30v (v : Vl) (ct : List UInt8) : Env := { cs := [(55, callG True [v.dv] (.str ct))] }
def E30p (a b : Rf) (row col n : Int) (it pa pb : List UInt8) : Env := { cs := [(54, callG True [.int .i64 n] (.str it))], ss := [(41, 56, callG True [a.dv, .agg [.int .i64 row, .int .i64 col]] (.str pa)), (51, 56, callG True [a.dv, .agg [.int .i64 row, .int .i64 col]] (.str pa)), (58, 56, callG True [b.dv, .agg [.int .i64 row, .int .i64 col]] (.str pb))] }
def E30w (x : Tr) (row col : Int) (kx : List UInt8) : Env := { ss := [(159, 30, callG True [x.dv, .agg [.int .i64 row, .int .i64 col]] (.str kx))], an := [(157, x.dv)] }
def E30u (x : Tr) (row col w : Int) (kx : List UInt8) : Env := { cs := [(57, callG True [x.dv, .agg [.int .i64 row, .int .i64 col], .int .i64 w] (.str kx))], an := [(75, x.dv), (88, x.dv)] }
def E30o (x y : Tr) (row col op : Int) (ki kx ky : List UInt8) : Env := { cs := [(58, bindsS), (59, signsS)], ss := [(107, 57, callG True [x.dv, .agg [.int .i64 row, .int .i64 col], .int .i64 (leftI op)] (.str kx)), (124, 57, callG True [y.dv, .agg [.int .i64 row, .int .i64 col], .int .i64 (bindsI op + 1)] (.str ky))], an := [(104, x.dv), (118, y.dv), (113, .str ki)] }
def E30c (L : St -> Prop) (t : Tr) (row col op : Int) (nm : List UInt8) (l : List (List UInt8)) : Env := { cs := [(60, callG True [.int .i64 op] (.tup [.str nm, .bool true])), (61, joinS2)], ls := [(1, loopS [2, 3, 7, 9, 135, 136, 137] [2, 3, 146] 162 L (F30 t row col nm l))] }
theorem vc30_k1 (v : Vl) (a b : Rf) (sh op : Int) (ks : List Tr) (row col : Int) (ct : List UInt8) (Φ : DV -> List Blk -> Prop) : (vcF cfg (E30v v ct) 30 [(Tr.mk 1 v a b sh op ks).dv, .agg [.int .i64 row, .int .i64 col]] [] Φ) =
    (True /\ [Vl.dv (Tr.v (Tr.mk (1 : Int) v a b sh op ks))] = [Vl.dv v] /\ Φ (DV.str ct) []) := by kernel_rfl
theorem vc30_k2' (v : Vl) (a b : Rf) (sh op : Int) (ks : List Tr) (row col : Int) (it pa pb : List UInt8) (Φ : DV -> List Blk -> Prop) : (vcF cfg (E30p a b row col (sh + 1) it pa pb) 30 [(Tr.mk 2 v a b sh op ks).dv, .agg [.int .i64 row, .int .i64 col]] [] Φ) =
    (True /\ [Rf.dv (Tr.a (Tr.mk (2 : Int) v a b sh op ks)), DV.agg [DV.int .i64 row, DV.int .i64 col]] = [Rf.dv a, DV.agg [DV.int .i64 row, DV.int .i64 col]] /\ obB (decide (0 + List.length pa <= 4294967296)) (Φ (DV.str (#[].toList ++ pa)) [])) := by kernel_rfl
theorem vc30_k3' (v : Vl) (a b : Rf) (sh op : Int) (ks : List Tr) (row col : Int) (it pa pb : List UInt8) (Φ : DV -> List Blk -> Prop) : (vcF cfg (E30p a b row col (sh + 1) it pa pb) 30 [(Tr.mk 3 v a b sh op ks).dv, .agg [.int .i64 row, .int .i64 col]] [] Φ) =
    (True /\ [Rf.dv (Tr.a (Tr.mk (3 : Int) v a b sh op ks)), DV.agg [DV.int .i64 row, DV.int .i64 col]] = [Rf.dv a, DV.agg [DV.int .i64 row, DV.int .i64 col]] /\ obB (decide (0 + List.length pa <= 4294967296)) (obB (decide (List.length (#[].toList ++ pa) + 1 <= 4294967296)) (True /\ [Rf.dv (Tr.b (Tr.mk (3 : Int) v a b sh op ks)), DV.agg [DV.int .i64 row, DV.int .i64 col]] = [Rf.dv b, DV.agg [DV.int .i64 row, DV.int .i64 col]] /\ obB (decide (List.length (#[].toList ++ pa ++ #[(58 : UInt8)].toList) + List.length pb <= 4294967296)) (Φ (DV.str (#[].toList ++ pa ++ #[(58 : UInt8)].toList ++ pb)) [])))) := by kernel_rfl
theorem vc30_k4 (v : Vl) (a b : Rf) (sh op : Int) (ks : List Tr) (row col : Int) (it pa pb : List UInt8) (Φ : DV -> List Blk -> Prop) : (vcF cfg (E30p a b row col (sh + 1) it pa pb) 30 [(Tr.mk 4 v a b sh op ks).dv, .agg [.int .i64 row, .int .i64 col]] [] Φ) =
    (obB (inR .i64 (Tr.sheet (Tr.mk (4 : Int) v a b sh op ks) + (1 : Int))) (True /\ [DV.int .i64 (Tr.sheet (Tr.mk (4 : Int) v a b sh op ks) + (1 : Int))] = [DV.int .i64 (sh + (1 : Int))] /\ obB (decide (1 + List.length it <= 4294967296)) (obB (decide (List.length (#[(83 : UInt8)].toList ++ it) + 1 <= 4294967296)) (True /\ [Rf.dv (Tr.a (Tr.mk (4 : Int) v a b sh op ks)), DV.agg [DV.int .i64 row, DV.int .i64 col]] = [Rf.dv a, DV.agg [DV.int .i64 row, DV.int .i64 col]] /\ obB (decide (List.length (#[(83 : UInt8)].toList ++ it ++ #[(33 : UInt8)].toList) + List.length pa <= 4294967296)) (Φ (DV.str (#[(83 : UInt8)].toList ++ it ++ #[(33 : UInt8)].toList ++ pa)) []))))) := by kernel_rfl
theorem vc30_k5 (v : Vl) (a b : Rf) (sh op : Int) (ks : List Tr) (row col : Int) (it pa pb : List UInt8) (Φ : DV -> List Blk -> Prop) : (vcF cfg (E30p a b row col (sh + 1) it pa pb) 30 [(Tr.mk 5 v a b sh op ks).dv, .agg [.int .i64 row, .int .i64 col]] [] Φ) =
    (obB (inR .i64 (Tr.sheet (Tr.mk (5 : Int) v a b sh op ks) + (1 : Int))) (True /\ [DV.int .i64 (Tr.sheet (Tr.mk (5 : Int) v a b sh op ks) + (1 : Int))] = [DV.int .i64 (sh + (1 : Int))] /\ obB (decide (1 + List.length it <= 4294967296)) (obB (decide (List.length (#[(83 : UInt8)].toList ++ it) + 1 <= 4294967296)) (True /\ [Rf.dv (Tr.a (Tr.mk (5 : Int) v a b sh op ks)), DV.agg [DV.int .i64 row, DV.int .i64 col]] = [Rf.dv a, DV.agg [DV.int .i64 row, DV.int .i64 col]] /\ obB (decide (List.length (#[(83 : UInt8)].toList ++ it ++ #[(33 : UInt8)].toList) + List.length pa <= 4294967296)) (obB (decide (List.length (#[(83 : UInt8)].toList ++ it ++ #[(33 : UInt8)].toList ++ pa) + 1 <= 4294967296)) (True /\ [Rf.dv (Tr.b (Tr.mk (5 : Int) v a b sh op ks)), DV.agg [DV.int .i64 row, DV.int .i64 col]] = [Rf.dv b, DV.agg [DV.int .i64 row, DV.int .i64 col]] /\ obB (decide (List.length (#[(83 : UInt8)].toList ++ it ++ #[(33 : UInt8)].toList ++ pa ++ #[(58 : UInt8)].toList) + List.length pb <= 4294967296)) (Φ (DV.str (#[(83 : UInt8)].toList ++ it ++ #[(33 : UInt8)].toList ++ pa ++ #[(58 : UInt8)].toList ++ pb)) []))))))) := by kernel_rfl
theorem vc30_k6 (v : Vl) (a b : Rf) (sh op : Int) (ks : List Tr) (row col : Int) (it pa pb : List UInt8) (Φ : DV -> List Blk -> Prop) : (vcF cfg (E30p a b row col op it pa pb) 30 [(Tr.mk 6 v a b sh op ks).dv, .agg [.int .i64 row, .int .i64 col]] [] Φ) =
    (True /\ [DV.int .i64 (Tr.op (Tr.mk (6 : Int) v a b sh op ks))] = [DV.int .i64 op] /\ obB (decide (1 + List.length it <= 4294967296)) (obB (decide (List.length (#[(78 : UInt8)].toList ++ it) + 1 <= 4294967296)) (Φ (DV.str (#[(78 : UInt8)].toList ++ it ++ #[(39 : UInt8)].toList)) []))) := by kernel_rfl
theorem vc30_u1 (v : Vl) (a b : Rf) (sh : Int) (ks : List Tr) (row col : Int) (x : Tr) (kx : List UInt8) (Φ : DV -> List Blk -> Prop) : (vcF cfg (E30u x row col 6 kx) 30 [(Tr.mk 7 v a b sh 1 ks).dv, .agg [.int .i64 row, .int .i64 col]] [] Φ) =
    (obB (decide (0 < List.length (Tr.encs (Tr.kids (Tr.mk (7 : Int) v a b sh (1 : Int) ks))))) ((Tr.encs (Tr.kids (Tr.mk (7 : Int) v a b sh (1 : Int) ks)))[Int.toNat (0 : Int)]? = some (Tr.dv x) /\ True /\ [Tr.dv x, DV.agg [DV.int .i64 row, DV.int .i64 col], DV.int .i64 6] = [Tr.dv x, DV.agg [DV.int .i64 row, DV.int .i64 col], DV.int .i64 6] /\ obB (decide (1 + List.length kx <= 4294967296)) (Φ (DV.str (#[(45 : UInt8)].toList ++ kx)) []))) := by kernel_rfl
theorem vc30_u2 (v : Vl) (a b : Rf) (sh : Int) (ks : List Tr) (row col : Int) (x : Tr) (kx : List UInt8) (Φ : DV -> List Blk -> Prop) : (vcF cfg (E30u x row col 6 kx) 30 [(Tr.mk 7 v a b sh 2 ks).dv, .agg [.int .i64 row, .int .i64 col]] [] Φ) =
    (obB (decide (0 < List.length (Tr.encs (Tr.kids (Tr.mk (7 : Int) v a b sh (2 : Int) ks))))) ((Tr.encs (Tr.kids (Tr.mk (7 : Int) v a b sh (2 : Int) ks)))[Int.toNat (0 : Int)]? = some (Tr.dv x) /\ True /\ [Tr.dv x, DV.agg [DV.int .i64 row, DV.int .i64 col], DV.int .i64 6] = [Tr.dv x, DV.agg [DV.int .i64 row, DV.int .i64 col], DV.int .i64 6] /\ obB (decide (1 + List.length kx <= 4294967296)) (Φ (DV.str (#[(43 : UInt8)].toList ++ kx)) []))) := by kernel_rfl
theorem vc30_u3 (v : Vl) (a b : Rf) (sh : Int) (ks : List Tr) (row col : Int) (x : Tr) (kx : List UInt8) (Φ : DV -> List Blk -> Prop) : (vcF cfg (E30u x row col 7 kx) 30 [(Tr.mk 7 v a b sh 3 ks).dv, .agg [.int .i64 row, .int .i64 col]] [] Φ) =
    (obB (decide (0 < List.length (Tr.encs (Tr.kids (Tr.mk (7 : Int) v a b sh (3 : Int) ks))))) ((Tr.encs (Tr.kids (Tr.mk (7 : Int) v a b sh (3 : Int) ks)))[Int.toNat (0 : Int)]? = some (Tr.dv x) /\ True /\ [Tr.dv x, DV.agg [DV.int .i64 row, DV.int .i64 col], DV.int .i64 7] = [Tr.dv x, DV.agg [DV.int .i64 row, DV.int .i64 col], DV.int .i64 7] /\ obB (decide (List.length kx + 1 <= 4294967296)) (Φ (DV.str (kx ++ #[(37 : UInt8)].toList)) []))) := by kernel_rfl
theorem vc30_k8 (v : Vl) (a b : Rf) (sh op : Int) (ks : List Tr) (row col : Int) (x y : Tr) (ki kx ky : List UInt8) (Φ : DV -> List Blk -> Prop) : (vcF cfg (E30o x y row col op ki kx ky) 30 [(Tr.mk 8 v a b sh op ks).dv, .agg [.int .i64 row, .int .i64 col]] [] Φ) =
    (brB (bindsI (Tr.op (Tr.mk (8 : Int) v a b sh op ks)) == (5 : Int)) (obB (inR .i64 (bindsI (Tr.op (Tr.mk (8 : Int) v a b sh op ks)) + (1 : Int))) (obB (decide (0 < List.length (Tr.encs (Tr.kids (Tr.mk (8 : Int) v a b sh op ks))))) ((Tr.encs (Tr.kids (Tr.mk (8 : Int) v a b sh op ks)))[Int.toNat (0 : Int)]? = some (Tr.dv x) /\ True /\ [Tr.dv x, DV.agg [DV.int .i64 row, DV.int .i64 col], DV.int .i64 (bindsI (Tr.op (Tr.mk (8 : Int) v a b sh op ks)) + (1 : Int))] = [Tr.dv x, DV.agg [DV.int .i64 row, DV.int .i64 col], DV.int .i64 (leftI op)] /\ obB (inR .i64 (Tr.op (Tr.mk (8 : Int) v a b sh op ks) - (1 : Int))) (obB (decide ((0 : Int) <= Tr.op (Tr.mk (8 : Int) v a b sh op ks) - (1 : Int))) (obB (decide (Int.toNat (Tr.op (Tr.mk (8 : Int) v a b sh op ks) - (1 : Int)) < 12)) ([DV.str [43], DV.str [45], DV.str [42], DV.str [47], DV.str [94], DV.str [38], DV.str [61], DV.str [60, 62], DV.str [60], DV.str [60, 61], DV.str [62], DV.str [62, 61]][Int.toNat (Tr.op (Tr.mk (8 : Int) v a b sh op ks) - (1 : Int))]? = some (DV.str ki) /\ obB (decide (List.length kx + List.length ki <= 4294967296)) (obB (decide (1 < List.length (Tr.encs (Tr.kids (Tr.mk (8 : Int) v a b sh op ks))))) ((Tr.encs (Tr.kids (Tr.mk (8 : Int) v a b sh op ks)))[Int.toNat (1 : Int)]? = some (Tr.dv y) /\ obB (inR .i64 (bindsI (Tr.op (Tr.mk (8 : Int) v a b sh op ks)) + (1 : Int))) (True /\ [Tr.dv y, DV.agg [DV.int .i64 row, DV.int .i64 col], DV.int .i64 (bindsI (Tr.op (Tr.mk (8 : Int) v a b sh op ks)) + (1 : Int))] = [Tr.dv y, DV.agg [DV.int .i64 row, DV.int .i64 col], DV.int .i64 (bindsI op + (1 : Int))] /\ obB (decide (List.length (kx ++ ki) + List.length ky <= 4294967296)) (Φ (DV.str (kx ++ ki ++ ky)) [])))))))))) (obB (decide (0 < List.length (Tr.encs (Tr.kids (Tr.mk (8 : Int) v a b sh op ks))))) ((Tr.encs (Tr.kids (Tr.mk (8 : Int) v a b sh op ks)))[Int.toNat (0 : Int)]? = some (Tr.dv x) /\ True /\ [Tr.dv x, DV.agg [DV.int .i64 row, DV.int .i64 col], DV.int .i64 (bindsI (Tr.op (Tr.mk (8 : Int) v a b sh op ks)))] = [Tr.dv x, DV.agg [DV.int .i64 row, DV.int .i64 col], DV.int .i64 (leftI op)] /\ obB (inR .i64 (Tr.op (Tr.mk (8 : Int) v a b sh op ks) - (1 : Int))) (obB (decide ((0 : Int) <= Tr.op (Tr.mk (8 : Int) v a b sh op ks) - (1 : Int))) (obB (decide (Int.toNat (Tr.op (Tr.mk (8 : Int) v a b sh op ks) - (1 : Int)) < 12)) ([DV.str [43], DV.str [45], DV.str [42], DV.str [47], DV.str [94], DV.str [38], DV.str [61], DV.str [60, 62], DV.str [60], DV.str [60, 61], DV.str [62], DV.str [62, 61]][Int.toNat (Tr.op (Tr.mk (8 : Int) v a b sh op ks) - (1 : Int))]? = some (DV.str ki) /\ obB (decide (List.length kx + List.length ki <= 4294967296)) (obB (decide (1 < List.length (Tr.encs (Tr.kids (Tr.mk (8 : Int) v a b sh op ks))))) ((Tr.encs (Tr.kids (Tr.mk (8 : Int) v a b sh op ks)))[Int.toNat (1 : Int)]? = some (Tr.dv y) /\ obB (inR .i64 (bindsI (Tr.op (Tr.mk (8 : Int) v a b sh op ks)) + (1 : Int))) (True /\ [Tr.dv y, DV.agg [DV.int .i64 row, DV.int .i64 col], DV.int .i64 (bindsI (Tr.op (Tr.mk (8 : Int) v a b sh op ks)) + (1 : Int))] = [Tr.dv y, DV.agg [DV.int .i64 row, DV.int .i64 col], DV.int .i64 (bindsI op + (1 : Int))] /\ obB (decide (List.length (kx ++ ki) + List.length ky <= 4294967296)) (Φ (DV.str (kx ++ ki ++ ky)) [])))))))))) := by kernel_rfl
theorem vc30_k9 (v : Vl) (a b : Rf) (sh op : Int) (ks : List Tr) (row col : Int) (t : Tr) (nm : List UInt8) (l : List (List UInt8)) (L : St -> Prop) (Φ : DV -> List Blk -> Prop) : (vcF cfg (E30c L t row col op nm l) 30 [(Tr.mk 9 v a b sh op ks).dv, .agg [.int .i64 row, .int .i64 col]] [] Φ) =
    (True /\ [DV.int .i64 (Tr.op (Tr.mk (9 : Int) v a b sh op ks))] = [DV.int .i64 op] /\ L (mkS 162 [(2, DV.ptr 2 18 0 0), (3, DV.ptr 3 2 0 0), (7, DV.str nm), (9, DV.nilsl), (135, DV.psl 18 (Tr.encs (Tr.kids (Tr.mk (9 : Int) v a b sh op ks)))), (136, DV.int .i64 (↑(List.length (Tr.encs (Tr.kids (Tr.mk (9 : Int) v a b sh op ks)))) : Int)), (137, DV.int .i64 0)] [(2, Blk.box (Tr.cells (Tr.mk (9 : Int) v a b sh op ks))), (3, Blk.box [DV.int .i64 row, DV.int .i64 col])] []) /\ brB (List.isEmpty l) (obB (decide (List.length nm + 1 <= 4294967296)) (∃ (l : List (List UInt8)), (l = [] /\ [DV.nilsl, DV.str (ByteArray.mk #[(44 : UInt8)]).data.toList] = [DV.nilsl, DV.str [44]] \/ l ≠ [] /\ [DV.nilsl, DV.str (ByteArray.mk #[(44 : UInt8)]).data.toList] = [DV.psl 1 (strs l), DV.str [44]]) /\ (List.length l <= 1000000 /\ List.length (Lib.join l [(44 : UInt8)]) <= 4000000000) /\ obB (decide (List.length (nm ++ #[(40 : UInt8)].toList) + List.length (Lib.join l [(44 : UInt8)]) <= 4294967296)) (obB (decide (List.length (nm ++ #[(40 : UInt8)].toList ++ Lib.join l [(44 : UInt8)]) + 1 <= 4294967296)) (Φ (DV.str (nm ++ #[(40 : UInt8)].toList ++ Lib.join l [(44 : UInt8)] ++ #[(41 : UInt8)].toList)) [])))) (obB (decide (List.length nm + 1 <= 4294967296)) (obB (decide (0 + List.length l <= List.length (strs l))) (∃ (l_1 : List (List UInt8)), (l_1 = [] /\ [DV.psl 1 (List.take (List.length l) (List.drop 0 (strs l))), DV.str (ByteArray.mk #[(44 : UInt8)]).data.toList] = [DV.nilsl, DV.str [44]] \/ l_1 ≠ [] /\ [DV.psl 1 (List.take (List.length l) (List.drop 0 (strs l))), DV.str (ByteArray.mk #[(44 : UInt8)]).data.toList] = [DV.psl 1 (strs l_1), DV.str [44]]) /\ (List.length l_1 <= 1000000 /\ List.length (Lib.join l_1 [(44 : UInt8)]) <= 4000000000) /\ obB (decide (List.length (nm ++ #[(40 : UInt8)].toList) + List.length (Lib.join l_1 [(44 : UInt8)]) <= 4294967296)) (obB (decide (List.length (nm ++ #[(40 : UInt8)].toList ++ Lib.join l_1 [(44 : UInt8)]) + 1 <= 4294967296)) (Φ (DV.str (nm ++ #[(40 : UInt8)].toList ++ Lib.join l_1 [(44 : UInt8)] ++ #[(41 : UInt8)].toList)) [])))))) := by kernel_rfl
theorem vc30_k10 (v : Vl) (a b : Rf) (sh op : Int) (ks : List Tr) (row col : Int) (x : Tr) (kx : List UInt8) (Φ : DV -> List Blk -> Prop) : (vcF cfg (E30w x row col kx) 30 [(Tr.mk 10 v a b sh op ks).dv, .agg [.int .i64 row, .int .i64 col]] [] Φ) =
    (obB (decide (0 < List.length (Tr.encs (Tr.kids (Tr.mk (10 : Int) v a b sh op ks))))) ((Tr.encs (Tr.kids (Tr.mk (10 : Int) v a b sh op ks)))[Int.toNat (0 : Int)]? = some (Tr.dv x) /\ True /\ [Tr.dv x, DV.agg [DV.int .i64 row, DV.int .i64 col]] = [Tr.dv x, DV.agg [DV.int .i64 row, DV.int .i64 col]] /\ obB (decide (1 + List.length kx <= 4294967296)) (obB (decide (List.length (#[(40 : UInt8)].toList ++ kx) + 1 <= 4294967296)) (Φ (DV.str (#[(40 : UInt8)].toList ++ kx ++ #[(41 : UInt8)].toList)) [])))) := by kernel_rfl
def E30b (g : Prop) (x : Tr) (row col : Int) (T : List UInt8) : Env := { an := [(140, x.dv)], ss := [(144, 30, callG g [x.dv, .agg [.int .i64 row, .int .i64 col]] (.str T))] }
theorem vc30_0 (t x : Tr) (row col : Int) (nm T : List UInt8) (g : Prop) (i : Nat) (L : St -> Prop) (K : Ex -> St -> Prop) : (vcB cfg (E30b g x row col T) 30 1 (hd30_0 t row col nm i) (bodyK L [2, 3, 7, 9, 135, 136, 137] [2, 3, 146] [2, 3, 7, 9] [2, 3, 146] 162 K)) =
    (brB (decide ((↑i : Int) < (↑(List.length (Tr.kids t)) : Int))) (obB (decide (i < List.length (Tr.encs (Tr.kids t)))) ((Tr.encs (Tr.kids t))[Int.toNat (↑i : Int)]? = some (Tr.dv x) /\ g /\ [Tr.dv x, DV.agg [DV.int .i64 row, DV.int .i64 col]] = [Tr.dv x, DV.agg [DV.int .i64 row, DV.int .i64 col]] /\ obB (inR .i64 ((↑i : Int) + 1)) (L (mkS 162 [(2, DV.ptr 2 18 0 0), (3, DV.ptr 3 2 0 0), (7, DV.str nm), (9, DV.rsl 146 1 0 1), (135, DV.psl 18 (Tr.encs (Tr.kids t))), (136, DV.int .i64 (↑(List.length (Tr.kids t)) : Int)), (137, DV.int .i64 ((↑i : Int) + 1))] [(2, Blk.box (Tr.cells t)), (3, Blk.box [DV.int .i64 row, DV.int .i64 col]), (146, Blk.row 1 [DV.str T])] [])))) (K (Ex.exit 1) (mkS 162 [(2, DV.ptr 2 18 0 0), (3, DV.ptr 3 2 0 0), (7, DV.str nm), (9, DV.nilsl)] [(2, Blk.box (Tr.cells t)), (3, Blk.box [DV.int .i64 row, DV.int .i64 col])] []))) := by kernel_rfl
theorem vc30_1 (t x : Tr) (row col : Int) (nm T : List UInt8) (l : List (List UInt8)) (g : Prop) (m i : Nat) (L : St -> Prop) (K : Ex -> St -> Prop) : (vcB cfg (E30b g x row col T) 30 1 (hd30_1 t row col nm l m i) (bodyK L [2, 3, 7, 9, 135, 136, 137] [2, 3, 146] [2, 3, 7, 9] [2, 3, 146] 162 K)) =
    (brB (decide ((↑i : Int) < (↑(List.length (Tr.kids t)) : Int))) (obB (decide (i < List.length (Tr.encs (Tr.kids t)))) ((Tr.encs (Tr.kids t))[Int.toNat (↑i : Int)]? = some (Tr.dv x) /\ g /\ [Tr.dv x, DV.agg [DV.int .i64 row, DV.int .i64 col]] = [Tr.dv x, DV.agg [DV.int .i64 row, DV.int .i64 col]] /\ obB (decide (0 + m <= List.length (strs l))) (obB (roomy 16 (m + 1)) (obB (inR .i64 ((↑i : Int) + 1)) (L (mkS 162 [(2, DV.ptr 2 18 0 0), (3, DV.ptr 3 2 0 0), (7, DV.str nm), (9, DV.rsl 146 1 0 (m + 1)), (135, DV.psl 18 (Tr.encs (Tr.kids t))), (136, DV.int .i64 (↑(List.length (Tr.kids t)) : Int)), (137, DV.int .i64 ((↑i : Int) + 1))] [(2, Blk.box (Tr.cells t)), (3, Blk.box [DV.int .i64 row, DV.int .i64 col]), (146, Blk.row 1 (List.take m (strs l) ++ [DV.str T]))] [])))))) (K (Ex.exit 1) (mkS 162 [(2, DV.ptr 2 18 0 0), (3, DV.ptr 3 2 0 0), (7, DV.str nm), (9, DV.rsl 146 1 0 m)] [(2, Blk.box (Tr.cells t)), (3, Blk.box [DV.int .i64 row, DV.int .i64 col]), (146, Blk.row 1 (strs l))] []))) := by kernel_rfl
end Go.Det.Sea
end

section
namespace Go.Det.Sea
open Go Go.Det
theorem comma_join : ∀ l : List (List UInt8), comma l = Lib.join l [44]
  | [] => rfl
  | [x] => by simp [comma, Lib.join, List.intercalate]
  | x :: y :: l => by
    have := comma_join (y :: l)
    simp only [comma]
    rw [this]
    simp [Lib.join, List.intercalate, List.intersperse]
theorem comma_len : ∀ l : List (List UInt8), (comma l).length <= (l.map fun x => x.length + 1).sum
  | [] => Nat.le_refl _
  | [x] => by simp [comma]
  | x :: y :: l => by
    have := comma_len (y :: l)
    simp only [comma, List.length_append, List.length_cons, List.map_cons, List.sum_cons] at this ⊢
    omega
theorem dol_len (b : Bool) : (dol b).length <= 1 := by cases b <;> simp [dol]
theorem place_len (row col : Int) (r : Rf) : (placeT row col r).length <= 9 := by
  have hR : atR r row < 65536 := by unfold atR; cases r.rr <;> simp only [cond_true, cond_false] <;> omega
  have h1 := dol_len r.rc
  have h2 := dol_len r.rr
  have h3 : (colT (atC r col)).length <= 2 := by
    unfold colT
    simp only
    cases decide ((atC r col).toNat < 26) <;> simp
  have h4 : (Lib.decDigits ((atR r row).toNat + 1)).length <= 5 := dec_len_le (k := 5) (by omega) (by omega)
  unfold placeT
  simp only [List.length_append]
  omega
theorem dbl_len (l : List UInt8) : (dbl l).length <= 2 * l.length := by
  induction l with
  | nil => exact Nat.le_refl _
  | cons x l ih =>
    unfold dbl
    cases Nat.beq x.toNat 34 <;> simp <;> omega
theorem udec_len {n k : Nat} (hn : n < 10 ^ 19) (hk : k <= 9) : (uDecT n k).length <= 40 := by
  have h1 : (Lib.decDigits n).length <= 19 := dec_len_le hn (by omega)
  have h2 : (padT n k).length <= 30 := by
    unfold padT
    simp only [List.length_append, List.length_replicate]; omega
  unfold uDecT
  cases decide (0 < k) with
  | false => simp only [cond_false]; omega
  | true =>
    simp only [cond_true, List.length_append, List.length_cons, List.length_take, List.length_drop]; omega
theorem name_len (e : Int) : (nameF e).length <= 7 := by
  unfold nameF
  cases e == 0 <;> cases e == 7 <;> cases e == 15 <;> cases e == 23 <;> cases e == 29 <;> cases e == 36 <;> cases e == 42 <;> simp
theorem fn_len : ∀ w ∈ fnL, w.length <= 8 := by
  have : (fnL.all fun w => Nat.ble w.length 8) = true := by kernel_rfl
  intro w hw
  exact Nat.le_of_ble_eq_true (List.all_eq_true.1 this w hw)
theorem fnNm_len (i : Nat) : (fnNm i).length <= 8 := by
  by_cases h : i < 30
  · exact fn_len _ (fnNm_mem h)
  · unfold fnNm
    rw [List.getD_eq_getElem?_getD, List.getElem?_eq_none (show fnL.length <= i by show 30 <= i; omega)]
    simp
theorem wrap_len (k : Tr) (t : List UInt8) (w : Int) : (wrapT k t w).length <= t.length + 2 := by
  unfold wrapT
  cases decide (bindI k < w) <;> simp
theorem const_len {uE : List UInt8 -> Int} {v : Vl} (hv : valE uE v = 0) (hn : v.kind = 1 -> -9223372036854775808 < v.m /\ v.m < 9223372036854775808) (hs : v.txt.length <= 3000) : (constT v).length <= 6002 /\ (v.kind = 1 -> 0 <= v.s /\ v.s <= 9) := by
  have hd := dbl_len v.txt
  have hnm := name_len v.e
  have hsc : v.kind = 1 -> 0 <= v.s /\ v.s <= 9 := by
    intro h1
    unfold valE at hv
    rw [h1] at hv
    cases h3 : vlEq v (ownV v) with
    | false => rw [h3] at hv; simp at hv
    | true =>
      rw [h3] at hv
      have hv : decE v.m v.s = 0 := hv
      have := decE_at hv
      exact ⟨this.1, this.2.1⟩
  refine ⟨?_, hsc⟩
  unfold constT valT
  cases h2 : v.kind == 2 with
  | true => simp only [cond_true, List.length_cons, List.length_append, List.length_nil]; omega
  | false =>
    simp only [cond_false]
    cases h1 : v.kind == 1 with
    | true =>
      have hk : v.kind = 1 := by simpa using h1
      have := hsc hk
      have := hn hk
      have hu := udec_len (n := v.m.natAbs) (k := v.s.toNat) (by omega) (by omega)
      simp only [cond_true, decT]
      cases decide (v.m < 0) <;> simp only [cond_true, cond_false, List.length_cons] <;> omega
    | false =>
      simp only [cond_false]
      cases v.kind == 3 with
      | true =>
        simp only [cond_true]
        unfold truT
        cases v.b <;> simp
      | false =>
        simp only [cond_false]
        cases v.kind == 4 with
        | true => simp only [cond_true]; omega
        | false => simp
theorem itoa_len {n : Int} (h0 : 0 <= n) (h1 : n < 10000) : (Lib.itoa n).length <= 4 /\ Lib.itoa n = Lib.decDigits n.toNat := by
  have : Lib.itoa n = Lib.decDigits n.toNat := by unfold Lib.itoa; rw [if_neg (by omega)]
  rw [this]
  exact ⟨dec_len_le (k := 4) (by omega) (by omega), rfl⟩
variable {uE : List UInt8 -> Int} (row col : Int)
mutual
theorem told_len : ∀ t : Tr, okT uE t -> numT t -> shT t -> (toldT row col t).length + 1 <= 7000 * t.count
  | .mk k v a b sh op ks, hok, hnum, hsh => by
    simp only [okT] at hok
    simp only [numT] at hnum
    simp only [shT] at hsh
    have ih := told_lens ks hok.2 hnum.2 hsh.2
    obtain ⟨hk, hal, hval, har, hsheet, hcnt⟩ := part_split hok.1
    obtain ⟨e1, e2, e3, e4, e5, e6⟩ := alone_eq hal
    simp only [Tr.kind, Tr.v, Tr.a, Tr.b, Tr.sheet, Tr.op, Tr.kids] at hk hval hsheet
    have pa := place_len row col a
    have pb := place_len row col b
    have hc : (Tr.mk k v a b sh op ks).count = 1 + Tr.counts ks := by rw [Tr.count_eq]; rfl
    rw [hc]
    have sht : (sheetT k sh).length <= 6 := by
      unfold sheetT
      have := (itoa_len (n := sh + 1) (by omega) (by omega)).1
      cases (k == 4 || k == 5) <;> simp <;> omega
    have h1 : (toldTs row col ks).getD 0 [] = [] \/ ((toldTs row col ks).getD 0 []).length <= ((toldTs row col ks).map fun x => x.length + 1).sum := by
      cases toldTs row col ks with
      | nil => exact .inl rfl
      | cons x l => right; simp; omega
    have hg0 : ((toldTs row col ks).getD 0 []).length + 1 <= 7000 * Tr.counts ks + 1 := by
      rcases h1 with h | h
      · rw [h]; simp
      · omega
    have hks : k = 1 \/ k = 2 \/ k = 3 \/ k = 4 \/ k = 5 \/ k = 6 \/ k = 7 \/ k = 8 \/ k = 9 \/ k = 10 := by omega
    rcases hks with rfl | rfl | rfl | rfl | rfl | rfl | rfl | rfl | rfl | rfl
    · have hnn := fun h => hnum.1 rfl h
      simp only [Tr.v] at hnn
      have := (const_len (hval rfl).1 hnn hsh.1).1
      have ex : toldT row col (.mk 1 v a b sh op ks) = constT v := by simp [toldT]
      rw [ex]; omega
    · have ex : toldT row col (.mk 2 v a b sh op ks) = sheetT 2 sh ++ placeT row col a := by simp [toldT]
      rw [ex, List.length_append]; omega
    · have ex : toldT row col (.mk 3 v a b sh op ks) = sheetT 3 sh ++ (placeT row col a ++ 58 :: placeT row col b) := by simp [toldT]
      rw [ex]; simp only [List.length_append, List.length_cons]; omega
    · have ex : toldT row col (.mk 4 v a b sh op ks) = sheetT 4 sh ++ placeT row col a := by simp [toldT]
      rw [ex, List.length_append]; omega
    · have ex : toldT row col (.mk 5 v a b sh op ks) = sheetT 5 sh ++ (placeT row col a ++ 58 :: placeT row col b) := by simp [toldT]
      rw [ex]; simp only [List.length_append, List.length_cons]; omega
    · have ho : 0 <= op /\ op <= 1023 := by
        have h := hcnt
        simp [countsB, Tr.kind, Tr.op] at h
        exact ⟨of_decide_eq_true h.1, of_decide_eq_true h.2⟩
      have := (itoa_len (n := op) (by omega) (by omega)).1
      have ex : toldT row col (.mk 6 v a b sh op ks) = 78 :: (Lib.itoa op ++ [39]) := by simp [toldT]
      rw [ex]; simp only [List.length_append, List.length_cons, List.length_nil]; omega
    · have w7 := wrap_len (ks.getD 0 default) ((toldTs row col ks).getD 0 []) 7
      have w6 := wrap_len (ks.getD 0 default) ((toldTs row col ks).getD 0 []) 6
      have ex : toldT row col (.mk 7 v a b sh op ks) = (bif op == 3 then wrapT (ks.getD 0 default) ((toldTs row col ks).getD 0 []) 7 ++ [37] else (bif op == 1 then 45 else 43) :: wrapT (ks.getD 0 default) ((toldTs row col ks).getD 0 []) 6) := by simp [toldT]
      rw [ex]
      cases op == 3 <;> simp only [cond_true, cond_false, List.length_append, List.length_cons, List.length_nil] <;> omega
    · have ho : (ks.length : Int) = 2 := by
        have h := hcnt
        simp [countsB, Tr.kind, Tr.op, Tr.kids] at h
        exact h.2
      obtain ⟨x, y, rfl⟩ : ∃ x y, ks = [x, y] := by
        match ks, ho with
        | [x, y], _ => exact ⟨x, y, rfl⟩
        | [], h => simp at h
        | [_], h => simp at h
        | _ :: _ :: _ :: _, h => simp at h; omega
      have wx := wrap_len x (toldT row col x) (leftI op)
      have wy := wrap_len y (toldT row col y) (bindsI op + 1)
      have sl := sgn_len (op.toNat - 1)
      simp only [toldTs, List.map_cons, List.map_nil, List.sum_cons, List.sum_nil] at ih
      have ex : toldT row col (.mk 8 v a b sh op [x, y]) = wrapT x (toldT row col x) (leftI op) ++ (sgn (op.toNat - 1) ++ wrapT y (toldT row col y) (bindsI op + 1)) := by simp [toldT, toldTs]
      rw [ex]; simp only [List.length_append]; omega
    · have := comma_len (toldTs row col ks)
      have fl := fnNm_len op.toNat
      have ex : toldT row col (.mk 9 v a b sh op ks) = fnNm op.toNat ++ (40 :: (comma (toldTs row col ks) ++ [41])) := by simp [toldT]
      rw [ex]; simp only [List.length_append, List.length_cons, List.length_nil]; omega
    · have ex : toldT row col (.mk 10 v a b sh op ks) = 40 :: ((toldTs row col ks).getD 0 [] ++ [41]) := by simp [toldT]
      rw [ex]; simp only [List.length_append, List.length_cons, List.length_nil]; omega
theorem told_lens : ∀ l : List Tr, okTs uE l -> numTs l -> shTs l -> ((toldTs row col l).map fun x => x.length + 1).sum <= 7000 * Tr.counts l
  | [], _, _, _ => by simp [toldTs]
  | t :: l, h1, h2, h3 => by
    simp only [okTs] at h1
    simp only [numTs] at h2
    simp only [shTs] at h3
    have a := told_len t h1.1 h2.1 h3.1
    have b := told_lens l h1.2 h2.2 h3.2
    simp only [toldTs, List.map_cons, List.sum_cons, Tr.counts, List.length_cons]
    omega
end
end Go.Det.Sea
end

section
namespace Go.Det.Sea
open Go Go.Det
structure LbC (Pr Ow : Nat -> List DV -> DV -> Prop) : Prop where
  it : SpecOK cfg Pr Ow 54 itoaS
  nm : ∀ (i : Nat), i < 30 -> ∀ Φ : DV -> List Blk -> Prop, Φ (.tup [.str (fnNm i), .bool true]) [] -> GoC cfg Pr Ow 60 [.int .i64 i] [] Φ
  jn : SpecOK cfg Pr Ow 61 joinS2
section
variable {Pr Ow : Nat -> List DV -> DV -> Prop}
theorem go98 (t : Tr) (Φ : DV -> List Blk -> Prop) (h : Φ (.int .i64 (bindI t)) []) : GoC cfg Pr Ow 98 [t.dv] [] Φ := by
  refine fn_of0 (E := { cs := [(58, bindsS)] }) (envOK ⟨bindsS_ok, trivial⟩ trivial trivial) rfl ?_
  rw [vc98]
  unfold bindI at h
  refine brB_of (fun h1 => ?_) (fun h1 => ?_)
  · simp only [h1, cond_true] at h; exact h
  simp only [h1, cond_false] at h
  refine brB_of (fun h1 => ?_) (fun h1 => ?_)
  · simp only [h1, cond_true] at h; exact h
  simp only [h1, cond_false] at h
  refine brB_of (fun h1 => ?_) (fun h1 => ?_)
  · simp only [h1, cond_true] at h; exact h
  simp only [h1, cond_false] at h
  exact h
def TellOK (Pr Ow : Nat -> List DV -> DV -> Prop) (row col : Int) (t : Tr) : Prop := ∀ Φ : DV -> List Blk -> Prop, Φ (.str (toldT row col t)) [] -> GoC cfg Pr Ow 30 [t.dv, .agg [.int .i64 row, .int .i64 col]] [] Φ
theorem go57 {row col : Int} {t : Tr} (ht : TellOK Pr Ow row col t) (hl : (toldT row col t).length <= 4000000000) (w : Int) (Φ : DV -> List Blk -> Prop) (h : Φ (.str (wrapT t (toldT row col t) w)) []) : GoC cfg Pr Ow 57 [t.dv, .agg [.int .i64 row, .int .i64 col], .int .i64 w] [] Φ := by
  refine fn_of0 (E := E57 t row col (bindI t) (toldT row col t)) (envOK ⟨callG_ok fun _ => ht, callG_ok fun _ => go98 t, trivial⟩ trivial trivial) rfl ?_
  rw [vc57]
  unfold wrapT at h
  refine ⟨trivial, rfl, trivial, rfl, brB_of (fun h1 => obB_of (decide_eq_true (by omega)) (obB_of (decide_eq_true (by simp; omega)) ?_)) (fun h1 => ?_)⟩
  · rw [h1] at h; exact h
  · rw [h1] at h; exact h
theorem kid_get {l : List Tr} {i : Nat} {x : Tr} (h : l[i]? = some x) : (Tr.encs l)[i]? = some x.dv /\ i < (Tr.encs l).length := by
  have hlt := (List.getElem?_eq_some_iff.1 h).1
  rw [Tr.encs_len]
  refine ⟨?_, hlt⟩
  rw [Tr.encs_eq, List.getElem?_map, h, Option.map_some, Tr.enc_eq]
variable {uN uE : List UInt8 -> Int} (lb : LbA Pr Ow) (lc : LbB Pr Ow uN uE) (ld : LbC Pr Ow)
include lb lc ld
theorem nt30 : ntOf cfg 30 = 162 := by kernel_rfl
omit lb lc ld in
theorem nd30 : nodupK (loops 0 (codeOf cfg 30)) = true := by kernel_rfl
omit lb lc ld in
theorem strs_snoc (l : List (List UInt8)) (x : List UInt8) : (strs l).take l.length ++ [DV.str x] = strs (l ++ [x]) := by
  unfold strs
  rw [List.take_of_length_le (by simp)]; simp
omit lb lc ld in
theorem loop30 {row col : Int} (t : Tr) (nm : List UInt8) (hn : t.kids.length <= 1000) (ih : ∀ x ∈ t.kids, TellOK Pr Ow row col x) {K : Ex -> St -> Prop} (hF : F30 t row col nm (t.kids.map (toldT row col)) K) : GoL cfg Pr Ow 30 162 (bodyOf cfg 30 1) (hd30_0 t row col nm 0) K := by
  have nt30 : ntOf cfg 30 = 162 := by kernel_rfl
  have key : ∀ (d i : Nat), 1 <= i -> i + d = t.kids.length -> GoL cfg Pr Ow 30 162 (bodyOf cfg 30 1) (hd30_1 t row col nm ((t.kids.take i).map (toldT row col)) i i) K := by
    intro d
    induction d with
    | zero =>
      intro i hi hd
      refine round_of (E := E30b False default row col []) (envOK trivial ⟨callG_ok fun h => h.elim, trivial⟩ trivial) nt30 rfl (L := fun _ => False) (ks := [2, 3, 7, 9, 135, 136, 137]) (bs := [2, 3, 146]) (ks2 := [2, 3, 7, 9]) (bs2 := [2, 3, 146]) ?_ (fun _ h => h.elim)
      rw [vc30_1]
      refine brB_of (fun h => ?_) (fun _ => ?_)
      · have := of_decide_eq_true h; omega
      · unfold F30 at hF
        have e : t.kids.take i = t.kids := List.take_of_length_le (by omega)
        rw [e]
        have e2 : (t.kids.map (toldT row col)).length = i := by rw [List.length_map]; omega
        have e3 : (t.kids.map (toldT row col)).isEmpty = false := by
          cases hk : t.kids with
          | nil => rw [hk] at hd; simp at hd; omega
          | cons _ _ => rfl
        rw [e3, e2] at hF
        exact hF
    | succ d ihd =>
      intro i hi hd
      obtain ⟨x, hx⟩ : ∃ x, t.kids[i]? = some x := ⟨t.kids[i]'(by omega), List.getElem?_eq_getElem (by omega)⟩
      obtain ⟨k1, k2⟩ := kid_get hx
      have hm : x ∈ t.kids := List.mem_of_getElem? hx
      have et : t.kids.take (i + 1) = t.kids.take i ++ [x] := by rw [List.take_add_one, hx]; rfl
      have hl : ((t.kids.take i).map (toldT row col)).length = i := by rw [List.length_map, List.length_take]; omega
      refine round_of (E := E30b True x row col (toldT row col x)) (envOK trivial ⟨callG_ok fun _ => ih x hm, trivial⟩ trivial) nt30 rfl (L := fun st => st = hd30_1 t row col nm ((t.kids.take (i + 1)).map (toldT row col)) (i + 1) (i + 1)) (ks := [2, 3, 7, 9, 135, 136, 137]) (bs := [2, 3, 146]) (ks2 := [2, 3, 7, 9]) (bs2 := [2, 3, 146]) ?_ (fun st hst => by subst hst; exact ihd (i + 1) (by omega) (by omega))
      rw [vc30_1]
      refine brB_of (fun _ => obB_of (decide_eq_true k2) ⟨k1, trivial, rfl, obB_of (decide_eq_true (by unfold strs; rw [List.length_map, hl]; omega)) (obB_of (roomy_of (by omega) (by omega)) (obB_of (inR64 (by omega)) ?_))⟩) (fun h => ?_)
      · have e4 : (strs ((t.kids.take i).map (toldT row col))).take i ++ [DV.str (toldT row col x)] = strs ((t.kids.take (i + 1)).map (toldT row col)) := by
          have := strs_snoc ((t.kids.take i).map (toldT row col)) (toldT row col x)
          rw [hl] at this
          rw [this, et, List.map_append]; rfl
        rw [e4]; rfl
      · have := of_decide_eq_false h; omega
  by_cases h0 : t.kids.length = 0
  · refine round_of (E := E30b False default row col []) (envOK trivial ⟨callG_ok fun h => h.elim, trivial⟩ trivial) nt30 rfl (L := fun _ => False) (ks := [2, 3, 7, 9, 135, 136, 137]) (bs := [2, 3, 146]) (ks2 := [2, 3, 7, 9]) (bs2 := [2, 3, 146]) ?_ (fun _ h => h.elim)
    rw [vc30_0]
    refine brB_of (fun h => ?_) (fun _ => ?_)
    · have := of_decide_eq_true h; omega
    · unfold F30 at hF
      have : t.kids = [] := by cases hk : t.kids with | nil => rfl | cons _ _ => rw [hk] at h0; simp at h0
      rw [this] at hF
      exact hF
  · obtain ⟨x, hx⟩ : ∃ x, t.kids[0]? = some x := ⟨t.kids[0]'(by omega), List.getElem?_eq_getElem (by omega)⟩
    obtain ⟨k1, k2⟩ := kid_get hx
    have hm : x ∈ t.kids := List.mem_of_getElem? hx
    have et : t.kids.take 1 = [x] := by rw [List.take_add_one, hx]; rfl
    refine round_of (E := E30b True x row col (toldT row col x)) (envOK trivial ⟨callG_ok fun _ => ih x hm, trivial⟩ trivial) nt30 rfl (L := fun st => st = hd30_1 t row col nm ((t.kids.take 1).map (toldT row col)) 1 1) (ks := [2, 3, 7, 9, 135, 136, 137]) (bs := [2, 3, 146]) (ks2 := [2, 3, 7, 9]) (bs2 := [2, 3, 146]) ?_ (fun st hst => by subst hst; exact key (t.kids.length - 1) 1 (by omega) (by omega))
    rw [vc30_0]
    refine brB_of (fun _ => obB_of (decide_eq_true k2) ⟨k1, trivial, rfl, obB_of (inR64 (by omega)) ?_⟩) (fun h => ?_)
    · rw [et]; rfl
    · have := of_decide_eq_false h; omega
end
section
variable {Pr Ow : Nat -> List DV -> DV -> Prop} {uN uE : List UInt8 -> Int} (lb : LbA Pr Ow) (lc : LbB Pr Ow uN uE) (ld : LbC Pr Ow) {row col : Int} (h3 : farI row) (h4 : farI col)
include lb lc ld h3 h4
mutual
theorem told_go : ∀ t : Tr, okT uE t -> numT t -> shT t -> t.count <= 500000 -> TellOK Pr Ow row col t
  | .mk k v a b sh op ks, hok, hnum, hsh, hct => by
    intro Φ hΦ
    have hok0 := hok
    have hnum0 := hnum
    have hsh0 := hsh
    have hlen0 := told_len row col _ hok hnum hsh
    simp only [okT] at hok
    simp only [numT] at hnum
    simp only [shT] at hsh
    have hcc : (Tr.mk k v a b sh op ks).count = 1 + Tr.counts ks := by rw [Tr.count_eq]; rfl
    have ih := told_gos ks hok.2 hnum.2 hsh.2 (by omega)
    have ihl : ∀ x ∈ ks, (toldT row col x).length <= 3600000000 := by
      intro x hx
      obtain ⟨i, hi, rfl⟩ := List.mem_iff_getElem.1 hx
      have hc := Tr.counts_get ks i hi
      rw [List.getD_eq_getElem?_getD, List.getElem?_eq_getElem hi] at hc
      have := told_len row col ks[i] (okTs_mem hok.2 hx) (numTs_mem hnum.2 hx) (shTs_mem hsh.2 hx)
      simp only [Option.getD_some] at hc
      omega
    obtain ⟨hk, hal, hval, har, hsheet, hcnt⟩ := part_split hok.1
    obtain ⟨e1, e2, e3, e4, e5, e6⟩ := alone_eq hal
    simp only [Tr.kind, Tr.v, Tr.a, Tr.b, Tr.sheet, Tr.op, Tr.kids] at hk hval har hsheet
    have hra : refE a = 0 /\ refE b = 0 := by
      have r12 : ∀ r : Rf, refE r = 0 \/ refE r = 12 := by
        intro r; unfold refE; cases goodB r.row r.col
        · exact .inr rfl
        · exact .inl rfl
      unfold areaE at har
      rcases r12 a with h | h <;> rcases r12 b with h' | h' <;> rw [h, h'] at har <;> simp at har
      exact ⟨h, h'⟩
    have pla : ∀ Φ : DV -> List Blk -> Prop, Φ (.str (placeT row col a)) [] -> GoC cfg Pr Ow 56 [a.dv, .agg [.int .i64 row, .int .i64 col]] [] Φ := go56 lb.ix ld.it a row col hra.1 h3 h4
    have plb : ∀ Φ : DV -> List Blk -> Prop, Φ (.str (placeT row col b)) [] -> GoC cfg Pr Ow 56 [b.dv, .agg [.int .i64 row, .int .i64 col]] [] Φ := go56 lb.ix ld.it b row col hra.2 h3 h4
    have la := place_len row col a
    have lb' := place_len row col b
    have itg : ∀ n : Int, 0 <= n -> n <= 2000 -> ∀ Φ : DV -> List Blk -> Prop, Φ (.str (Lib.itoa n)) [] -> GoC cfg Pr Ow 54 [.int .i64 n] [] Φ := fun n h0 h1 Φ h => ld.it _ _ _ ⟨⟨h0, by omega⟩, h⟩
    have hks : k = 1 \/ k = 2 \/ k = 3 \/ k = 4 \/ k = 5 \/ k = 6 \/ k = 7 \/ k = 8 \/ k = 9 \/ k = 10 := by omega
    have it1 := itoa_len (n := sh + 1) (by omega) (by omega)
    rcases hks with rfl | rfl | rfl | rfl | rfl | rfl | rfl | rfl | rfl | rfl
    · have hnn := fun h => hnum.1 rfl h
      simp only [Tr.v] at hnn
      have hcl := const_len (hval rfl).1 hnn hsh.1
      have ex : toldT row col (.mk 1 v a b sh op ks) = constT v := by simp [toldT]
      rw [ex] at hΦ
      refine fn_of0 (E := E30v v (constT v)) (envOK ⟨callG_ok fun _ => go55 lc v (fun h => ⟨hnn h, hcl.2 h⟩) hsh.1, trivial⟩ trivial trivial) rfl ?_
      rw [vc30_k1]
      exact ⟨trivial, rfl, hΦ⟩
    · have ex : toldT row col (.mk 2 v a b sh op ks) = placeT row col a := by simp [toldT, sheetT]
      rw [ex] at hΦ
      refine fn_of0 (E := E30p a b row col (sh + 1) (Lib.itoa (sh + 1)) (placeT row col a) (placeT row col b)) (envOK ⟨callG_ok fun _ => itg _ (by omega) (by omega), trivial⟩ ⟨callG_ok fun _ => pla, callG_ok fun _ => pla, callG_ok fun _ => plb, trivial⟩ trivial) rfl ?_
      rw [vc30_k2']
      exact ⟨trivial, rfl, obB_of (decide_eq_true (by omega)) hΦ⟩
    · have ex : toldT row col (.mk 3 v a b sh op ks) = placeT row col a ++ 58 :: placeT row col b := by simp [toldT, sheetT]
      rw [ex] at hΦ
      refine fn_of0 (E := E30p a b row col (sh + 1) (Lib.itoa (sh + 1)) (placeT row col a) (placeT row col b)) (envOK ⟨callG_ok fun _ => itg _ (by omega) (by omega), trivial⟩ ⟨callG_ok fun _ => pla, callG_ok fun _ => pla, callG_ok fun _ => plb, trivial⟩ trivial) rfl ?_
      rw [vc30_k3']
      refine ⟨trivial, rfl, obB_of (decide_eq_true (by omega)) (obB_of (decide_eq_true (by simp; omega)) ⟨trivial, rfl, obB_of (decide_eq_true (by simp; omega)) ?_⟩)⟩
      simpa using hΦ
    · have ex : toldT row col (.mk 4 v a b sh op ks) = 83 :: (Lib.itoa (sh + 1) ++ (33 :: placeT row col a)) := by simp [toldT, sheetT]
      rw [ex] at hΦ
      refine fn_of0 (E := E30p a b row col (sh + 1) (Lib.itoa (sh + 1)) (placeT row col a) (placeT row col b)) (envOK ⟨callG_ok fun _ => itg _ (by omega) (by omega), trivial⟩ ⟨callG_ok fun _ => pla, callG_ok fun _ => pla, callG_ok fun _ => plb, trivial⟩ trivial) rfl ?_
      rw [vc30_k4]
      refine obB_of (inR64 (by simp only [Tr.sheet]; omega)) ⟨trivial, rfl, obB_of (decide_eq_true (by omega)) (obB_of (decide_eq_true (by simp; omega)) ⟨trivial, rfl, obB_of (decide_eq_true (by simp; omega)) ?_⟩)⟩
      simpa using hΦ
    · have ex : toldT row col (.mk 5 v a b sh op ks) = 83 :: (Lib.itoa (sh + 1) ++ (33 :: (placeT row col a ++ 58 :: placeT row col b))) := by simp [toldT, sheetT]
      rw [ex] at hΦ
      refine fn_of0 (E := E30p a b row col (sh + 1) (Lib.itoa (sh + 1)) (placeT row col a) (placeT row col b)) (envOK ⟨callG_ok fun _ => itg _ (by omega) (by omega), trivial⟩ ⟨callG_ok fun _ => pla, callG_ok fun _ => pla, callG_ok fun _ => plb, trivial⟩ trivial) rfl ?_
      rw [vc30_k5]
      refine obB_of (inR64 (by simp only [Tr.sheet]; omega)) ⟨trivial, rfl, obB_of (decide_eq_true (by omega)) (obB_of (decide_eq_true (by simp; omega)) ⟨trivial, rfl, obB_of (decide_eq_true (by simp; omega)) (obB_of (decide_eq_true (by simp; omega)) ⟨trivial, rfl, obB_of (decide_eq_true (by simp; omega)) ?_⟩)⟩)⟩
      simpa using hΦ
    · have ho : 0 <= op /\ op <= 1023 := by
        have h := hcnt
        simp [countsB, Tr.kind, Tr.op] at h
        exact ⟨of_decide_eq_true h.1, of_decide_eq_true h.2⟩
      have it2 := itoa_len (n := op) (by omega) (by omega)
      have ex : toldT row col (.mk 6 v a b sh op ks) = 78 :: (Lib.itoa op ++ [39]) := by simp [toldT]
      rw [ex] at hΦ
      refine fn_of0 (E := E30p a b row col op (Lib.itoa op) (placeT row col a) (placeT row col b)) (envOK ⟨callG_ok fun _ => itg _ (by omega) (by omega), trivial⟩ ⟨callG_ok fun _ => pla, callG_ok fun _ => pla, callG_ok fun _ => plb, trivial⟩ trivial) rfl ?_
      rw [vc30_k6]
      refine ⟨trivial, rfl, obB_of (decide_eq_true (by omega)) (obB_of (decide_eq_true (by simp; omega)) ?_)⟩
      simpa using hΦ
    · have ho : (1 <= op /\ op <= 3) /\ (ks.length : Int) = 1 := by
        have h := hcnt
        simp [countsB, Tr.kind, Tr.op, Tr.kids] at h
        exact ⟨⟨of_decide_eq_true h.1.1, of_decide_eq_true h.1.2⟩, h.2⟩
      obtain ⟨x, rfl⟩ : ∃ x, ks = [x] := by
        match ks, ho.2 with
        | [x], _ => exact ⟨x, rfl⟩
        | [], h => simp at h
        | _ :: _ :: _, h => simp at h; omega
      have hx := ih x (by simp)
      have hxl := ihl x (by simp)
      have w7 := wrap_len x (toldT row col x) 7
      have w6 := wrap_len x (toldT row col x) 6
      have hop : op = 1 \/ op = 2 \/ op = 3 := by omega
      rcases hop with rfl | rfl | rfl
      · have ex : toldT row col (.mk 7 v a b sh 1 [x]) = 45 :: wrapT x (toldT row col x) 6 := by simp [toldT, toldTs]
        rw [ex] at hΦ
        refine fn_of0 (E := E30u x row col 6 (wrapT x (toldT row col x) 6)) (envOK ⟨callG_ok fun _ => go57 hx (by omega) 6, trivial⟩ trivial trivial) rfl ?_
        rw [vc30_u1]
        exact obB_of (decide_eq_true (by simp [Tr.kids, Tr.encs])) ⟨(kid_get (l := [x]) (i := 0) rfl).1, trivial, rfl, obB_of (decide_eq_true (by omega)) hΦ⟩
      · have ex : toldT row col (.mk 7 v a b sh 2 [x]) = 43 :: wrapT x (toldT row col x) 6 := by simp [toldT, toldTs]
        rw [ex] at hΦ
        refine fn_of0 (E := E30u x row col 6 (wrapT x (toldT row col x) 6)) (envOK ⟨callG_ok fun _ => go57 hx (by omega) 6, trivial⟩ trivial trivial) rfl ?_
        rw [vc30_u2]
        exact obB_of (decide_eq_true (by simp [Tr.kids, Tr.encs])) ⟨(kid_get (l := [x]) (i := 0) rfl).1, trivial, rfl, obB_of (decide_eq_true (by omega)) hΦ⟩
      · have ex : toldT row col (.mk 7 v a b sh 3 [x]) = wrapT x (toldT row col x) 7 ++ [37] := by simp [toldT, toldTs]
        rw [ex] at hΦ
        refine fn_of0 (E := E30u x row col 7 (wrapT x (toldT row col x) 7)) (envOK ⟨callG_ok fun _ => go57 hx (by omega) 7, trivial⟩ trivial trivial) rfl ?_
        rw [vc30_u3]
        exact obB_of (decide_eq_true (by simp [Tr.kids, Tr.encs])) ⟨(kid_get (l := [x]) (i := 0) rfl).1, trivial, rfl, obB_of (decide_eq_true (by omega)) hΦ⟩
    · have ho : (1 <= op /\ op <= 12) /\ (ks.length : Int) = 2 := by
        have h := hcnt
        simp [countsB, Tr.kind, Tr.op, Tr.kids] at h
        exact ⟨⟨of_decide_eq_true h.1.1, of_decide_eq_true h.1.2⟩, h.2⟩
      obtain ⟨x, y, rfl⟩ : ∃ x y, ks = [x, y] := by
        match ks, ho.2 with
        | [x, y], _ => exact ⟨x, y, rfl⟩
        | [], h => simp at h
        | [_], h => simp at h
        | _ :: _ :: _ :: _, h => simp at h; omega
      obtain ⟨i, hi, hoi, hbi, hb1, hb5⟩ := binds_o ho.1.1 ho.1.2
      have hx := ih x (by simp)
      have hy := ih y (by simp)
      have ex : toldT row col (.mk 8 v a b sh op [x, y]) = wrapT x (toldT row col x) (leftI op) ++ (sgn i ++ wrapT y (toldT row col y) (bindsI op + 1)) := by
        have : op.toNat - 1 = i := by omega
        simp [toldT, toldTs, this]
      rw [ex] at hΦ hlen0
      simp only [List.length_append] at hlen0
      have wx := wrap_len x (toldT row col x) (leftI op)
      have wy := wrap_len y (toldT row col y) (bindsI op + 1)
      have xl := ihl x (by simp)
      have yl := ihl y (by simp)
      have e9 : Int.toNat (op - 1) = i := by omega
      refine fn_of0 (E := E30o x y row col op (sgn i) (wrapT x (toldT row col x) (leftI op)) (wrapT y (toldT row col y) (bindsI op + 1))) (envOK ⟨bindsS_ok, signsS_ok, trivial⟩ ⟨callG_ok fun _ => go57 hx (by omega) _, callG_ok fun _ => go57 hy (by omega) _, trivial⟩ trivial) rfl ?_
      rw [vc30_k8]
      have g0 := (kid_get (l := [x, y]) (i := 0) (x := x) rfl)
      have g1 := (kid_get (l := [x, y]) (i := 1) (x := y) rfl)
      have eop : Tr.op (Tr.mk 8 v a b sh op [x, y]) = op := rfl
      have eks : Tr.kids (Tr.mk 8 v a b sh op [x, y]) = [x, y] := rfl
      rw [eop, eks, e9]
      have fin : ∀ (A : List UInt8), A = wrapT x (toldT row col x) (leftI op) ++ sgn i ++ wrapT y (toldT row col y) (bindsI op + 1) -> Φ (.str A) [] := by
        rintro A rfl
        rw [List.append_assoc]; exact hΦ
      refine brB_of (fun h5 => ?_) (fun h5 => ?_)
      · have hl5 : leftI op = bindsI op + 1 := by
          have : bindsI op = 5 := by simpa using h5
          unfold leftI
          rw [h5, this]; rfl
        refine obB_of (inR64 (by omega)) (obB_of (decide_eq_true g0.2) ⟨g0.1, trivial, by rw [hl5], obB_of (inR64 (by omega)) (obB_of (decide_eq_true (by omega)) (obB_of (decide_eq_true hi) ⟨sgn_get i hi, obB_of (decide_eq_true (by omega)) (obB_of (decide_eq_true g1.2) ⟨g1.1, obB_of (inR64 (by omega)) ⟨trivial, rfl, obB_of (decide_eq_true (by rw [List.length_append]; omega)) (fin _ rfl)⟩⟩)⟩))⟩)
      · have hl5 : leftI op = bindsI op := by
          unfold leftI
          rw [h5]; rfl
        refine obB_of (decide_eq_true g0.2) ⟨g0.1, trivial, by rw [hl5], obB_of (inR64 (by omega)) (obB_of (decide_eq_true (by omega)) (obB_of (decide_eq_true hi) ⟨sgn_get i hi, obB_of (decide_eq_true (by omega)) (obB_of (decide_eq_true g1.2) ⟨g1.1, obB_of (inR64 (by omega)) ⟨trivial, rfl, obB_of (decide_eq_true (by rw [List.length_append]; omega)) (fin _ rfl)⟩⟩)⟩))⟩
    · have ho : (0 <= op /\ op <= 29) /\ (ks.length : Int) <= 30 := by
        have h := hcnt
        simp [countsB, Tr.kind, Tr.op, Tr.kids] at h
        exact ⟨⟨of_decide_eq_true h.1.1, of_decide_eq_true h.1.2⟩, of_decide_eq_true h.2⟩
      obtain ⟨i, rfl⟩ : ∃ i : Nat, op = i := ⟨op.toNat, by omega⟩
      have hfl := fnNm_len i
      have ex : toldT row col (.mk 9 v a b sh i ks) = fnNm i ++ (40 :: (Lib.join (ks.map (toldT row col)) [44] ++ [41])) := by
        simp [toldT, toldTs_eq, comma_join]
      rw [ex] at hΦ hlen0
      simp only [List.length_append, List.length_cons, List.length_nil] at hlen0
      refine fn_of (E := E30c (fun st => st = hd30_0 (Tr.mk 9 v a b sh i ks) row col (fnNm i) 0) (Tr.mk 9 v a b sh i ks) row col i (fnNm i) (ks.map (toldT row col))) (envOK ⟨callG_ok fun _ => ld.nm i (by omega), ld.jn, trivial⟩ trivial trivial) (nt30 lb lc ld) nd30 ?_ ?_
      · intro b' sp hl st k hk
        have hm := look_mem hl
        simp only [E30c, List.mem_cons, Prod.mk.injEq, List.not_mem_nil, or_false] at hm
        obtain ⟨rfl, rfl⟩ := hm
        refine loopS_ok (fun st hst K hK => ?_) hk
        subst hst
        exact loop30 (Tr.mk 9 v a b sh i ks) (fnNm i) (by simp only [Tr.kids]; omega) ih hK
      · rw [vc30_k9]
        have eks : Tr.kids (Tr.mk 9 v a b sh i ks) = ks := rfl
        refine ⟨trivial, rfl, ?_, brB_of (fun h0 => ?_) (fun h0 => ?_)⟩
        · rw [eks, Tr.encs_len]; rfl
        · have h0 : ks.map (toldT row col) = [] := by simpa using h0
          rw [h0] at hlen0 hΦ
          exact obB_of (decide_eq_true (by omega)) ⟨[], .inl ⟨rfl, rfl⟩, ⟨by simp, by omega⟩, obB_of (decide_eq_true (by rw [List.length_append]; simp; omega)) (obB_of (decide_eq_true (by simp only [List.length_append]; simp; omega)) (by simpa using hΦ))⟩
        · have h0' : ks.map (toldT row col) ≠ [] := by
            intro h; rw [h] at h0; cases h0
          have es : List.take (ks.map (toldT row col)).length (List.drop 0 (strs (ks.map (toldT row col)))) = strs (ks.map (toldT row col)) := by
            rw [List.drop_zero, List.take_of_length_le (by unfold strs; simp)]
          rw [es]
          refine obB_of (decide_eq_true (by omega)) (obB_of (decide_eq_true (by unfold strs; simp)) ⟨ks.map (toldT row col), .inr ⟨h0', rfl⟩, ⟨by rw [List.length_map]; omega, by omega⟩, obB_of (decide_eq_true (by rw [List.length_append]; simp; omega)) (obB_of (decide_eq_true (by simp only [List.length_append]; simp; omega)) (by simpa using hΦ))⟩)
    · have ho : (ks.length : Int) = 1 := by simpa [countsB, Tr.kind, Tr.op, Tr.kids] using hcnt
      obtain ⟨x, rfl⟩ : ∃ x, ks = [x] := by
        match ks, ho with
        | [x], _ => exact ⟨x, rfl⟩
        | [], h => simp at h
        | _ :: _ :: _, h => simp at h; omega
      have hx := ih x (by simp)
      have hxl := ihl x (by simp)
      have ex : toldT row col (.mk 10 v a b sh op [x]) = 40 :: (toldT row col x ++ [41]) := by simp [toldT, toldTs]
      rw [ex] at hΦ
      refine fn_of0 (E := E30w x row col (toldT row col x)) (envOK trivial ⟨callG_ok fun _ => hx, trivial⟩ trivial) rfl ?_
      rw [vc30_k10]
      exact obB_of (decide_eq_true (by simp [Tr.kids, Tr.encs])) ⟨(kid_get (l := [x]) (i := 0) rfl).1, trivial, rfl, obB_of (decide_eq_true (by omega)) (obB_of (decide_eq_true (by simp; omega)) hΦ)⟩
theorem told_gos : ∀ l : List Tr, okTs uE l -> numTs l -> shTs l -> Tr.counts l <= 500000 -> ∀ t ∈ l, TellOK Pr Ow row col t
  | [], _, _, _, _, t, ht => by cases ht
  | x :: l, h1, h2, h3, hc, t, ht => by
    simp only [okTs] at h1
    simp only [numTs] at h2
    simp only [shTs] at h3
    simp only [Tr.counts] at hc
    simp only [List.mem_cons] at ht
    rcases ht with rfl | ht
    · exact told_go _ h1.1 h2.1 h3.1 (by omega)
    · exact told_gos l h1.2 h2.2 h3.2 (by omega) t ht
end
end
end Go.Det.Sea
end

section
namespace Go.Det.Sea
open Go Go.Det
def hd28M (M : Int) (t : Tr) (deep : Int) (n : Int) (i : Nat) : St := mkS 50 [(1, .int .i64 deep), (2, .int .i64 M), (3, .ptr 50 1 0 0), (4, .ptr 4 18 0 0), (9, .int .i64 i)] [(4, .box t.cells)] [.box [.int .i64 n]]
def fewKM (M : Int) (t : Tr) (c : Int) (k : DV -> List Blk -> Prop) : Prop := ∀ (b : Bool) (n : Int), (b = true -> (n = c + t.count /\ n <= M) /\ shortT t) -> c < n -> n <= M + 1 -> k (.bool b) [.box [.int .i64 n]]
def fewSM (M : Int) (g : Prop) (t : Tr) (deep : Int) : Spec := fun xs ex k => match ex with
  | [.box [.int .i64 c]] => g /\ xs = [t.dv, .int .i64 deep, .int .i64 M, .ptr 50 1 0 0] /\ 0 <= deep /\ deep <= 40 /\ 0 <= c /\ c <= M /\ fewKM M t c k
  | _ => False
def E28bM (M : Int) (t : Tr) (deep : Int) (i : Nat) : Env := { ss := [(48, 28, fewSM M (i < t.kids.length) (kid t i) (deep - 1))], an := [(43, (kid t i).dv)] }
def F28M (M : Int) (t : Tr) (c : Int) (k : Ex -> St -> Prop) : Prop := (∀ n, c < n -> n <= M + 1 -> k .ret (ret28 false n)) /\ (c + t.count <= M -> shortTs t.kids -> k (.exit 0) (mkS 50 [] [] [.box [.int .i64 (c + t.count)]]))
def E28M (M : Int) (t : Tr) (c : Int) (L : St -> Prop) : Env := { ls := [(0, loopS [1, 2, 3, 4, 9] [4] 50 L (F28M M t c))] }
theorem vc28M (M : Int) (t : Tr) (deep c : Int) (L : St -> Prop) (Φ : DV -> List Blk -> Prop) : (vcF cfg (E28M M t c L) 28 [t.dv, .int .i64 deep, .int .i64 M, .ptr 50 1 0 0] [.box [.int .i64 c]] Φ) =
    (obB (inR .i64 (c + (1 : Int))) (brB (deep == (0 : Int) || decide (c + (1 : Int) > M) || decide ((↑(List.length (Tr.v t).txt) : Int) > 3000)) (Φ (DV.bool false) [Blk.box [DV.int .i64 (c + (1 : Int))]]) (L (mkS 50 [(1, DV.int .i64 deep), (2, DV.int .i64 M), (3, DV.ptr 50 1 0 0), (4, DV.ptr 4 18 0 0), (9, DV.int .i64 0)] [(4, Blk.box (Tr.cells t))] [Blk.box [DV.int .i64 (c + (1 : Int))]]) /\ (∀ (n : Int), c < n -> n <= M + (1 : Int) -> Φ (DV.bool false) [Blk.box [DV.int .i64 n]]) /\ (c + (↑(Tr.count t) : Int) <= M -> shortTs (Tr.kids t) -> Φ (DV.bool true) [Blk.box [DV.int .i64 (c + (↑(Tr.count t) : Int))]])))) := by kernel_rfl
theorem vc28_1M (M : Int) (t : Tr) (deep n : Int) (i : Nat) (L : St -> Prop) (K : Ex -> St -> Prop) : (vcB cfg (E28bM M t deep i) 28 0 (hd28M M t deep n i) (bodyK L [1, 2, 3, 4, 9] [4] [8] [] 50 K)) =
    (brB (decide ((↑i : Int) < (↑(List.length (Tr.encs (Tr.kids t))) : Int))) (obB (decide (i < List.length (Tr.encs (Tr.kids t)))) ((Tr.encs (Tr.kids t))[Int.toNat (↑i : Int)]? = some (Tr.dv (kid t i)) /\ obB (inR .i64 (deep - (1 : Int))) (i < List.length (Tr.kids t) /\ [Tr.dv (kid t i), DV.int .i64 (deep - (1 : Int)), DV.int .i64 M, DV.ptr 50 1 0 0] = [Tr.dv (kid t i), DV.int .i64 (deep - (1 : Int)), DV.int .i64 M, DV.ptr 50 1 0 0] /\ (0 : Int) <= deep - (1 : Int) /\ deep - (1 : Int) <= 40 /\ (0 : Int) <= n /\ n <= M /\ ∀ (b : Bool) (n_1 : Int), (b = true -> (n_1 = n + (↑(Tr.count (kid t i)) : Int) /\ n_1 <= M) /\ shortT (kid t i)) -> n < n_1 -> n_1 <= M + (1 : Int) -> brB (!b) (K Ex.ret (mkS 50 [(8, DV.bool false)] [] [Blk.box [DV.int .i64 n_1]])) (obB (inR .i64 ((↑i : Int) + 1)) (L (mkS 50 [(1, DV.int .i64 deep), (2, DV.int .i64 M), (3, DV.ptr 50 1 0 0), (4, DV.ptr 4 18 0 0), (9, DV.int .i64 ((↑i : Int) + 1))] [(4, Blk.box (Tr.cells t))] [Blk.box [DV.int .i64 n_1]])))))) (K (Ex.exit 0) (mkS 50 [] [] [Blk.box [DV.int .i64 n]]))) := by kernel_rfl
def E9M (M : Int) (t : Tr) : Env := { cs := [(28, fewSM M True t 40)] }
theorem vc9M (M : Int) (t : Tr) (Φ : DV -> List Blk -> Prop) : (vcF cfg (E9M M t) 9 [t.dv, .int .i64 M] [] Φ) =
    (True /\ [Tr.dv t, DV.int .i64 40, DV.int .i64 M, DV.ptr 50 1 0 0] = [Tr.dv t, DV.int .i64 40, DV.int .i64 M, DV.ptr 50 1 0 0] /\ (0 : Int) <= 40 /\ (40 : Int) <= 40 /\ (0 : Int) <= 0 /\ (0 : Int) <= M /\ ∀ (b : Bool) (n : Int), (b = true -> (n = (0 : Int) + (↑(Tr.count t) : Int) /\ n <= M) /\ shortT t) -> (0 : Int) < n -> n <= M + (1 : Int) -> Φ (DV.bool b) []) := by kernel_rfl
def leB (c : Prop) (xs0 : List DV) (P : Prop) : Spec := fun xs ex k => match ex with
  | [] => c /\ xs = xs0 /\ ∀ b : Bool, (b = false -> P) -> k (.bool b) []
  | _ :: _ => False
def E14bX (t : Tr) (i : Nat) (P : Prop) : Env := { ss := [(27, 14, leB (i < t.kids.length) [(kid t i).dv] P)], an := [(26, (kid t i).dv)] }
def F14X (P : Prop) (k : Ex -> St -> Prop) : Prop := k .ret (mkS 28 [(2, .bool true)] [] []) /\ (P -> k (.exit 0) (mkS 28 [] [] []))
def E14X (L : St -> Prop) (P : Prop) : Env := { ls := [(0, loopS [1, 3] [1] 28 L (F14X P))] }
theorem vc14X (t : Tr) (P : Prop) (L : St -> Prop) (Φ : DV -> List Blk -> Prop) : (vcF cfg (E14X L P) 14 [t.dv] [] Φ) =
    (brB ((Tr.v t).kind == (1 : Int) && (Tr.v t).m == (-9223372036854775808 : Int)) (Φ (DV.bool true) []) (L (mkS 28 [(1, DV.ptr 1 18 0 0), (3, DV.int .i64 0)] [(1, Blk.box (Tr.cells t))] []) /\ Φ (DV.bool true) [] /\ (P -> Φ (DV.bool false) []))) := by kernel_rfl
theorem vc14_1X (t : Tr) (P : Prop) (i : Nat) (L : St -> Prop) (K : Ex -> St -> Prop) : (vcB cfg (E14bX t i P) 14 0 (hd14 t i) (bodyK L [1, 3] [1] [2] [] 28 K)) =
    (brB (decide ((↑i : Int) < (↑(List.length (Tr.encs (Tr.kids t))) : Int))) (obB (decide (i < List.length (Tr.encs (Tr.kids t)))) ((Tr.encs (Tr.kids t))[Int.toNat (↑i : Int)]? = some (Tr.dv (kid t i)) /\ i < List.length (Tr.kids t) /\ [Tr.dv (kid t i)] = [Tr.dv (kid t i)] /\ ∀ (b : Bool), (b = false -> P) -> brB b (K Ex.ret (mkS 28 [(2, DV.bool true)] [] [])) (obB (inR .i64 ((↑i : Int) + 1)) (L (mkS 28 [(1, DV.ptr 1 18 0 0), (3, DV.int .i64 ((↑i : Int) + 1))] [(1, Blk.box (Tr.cells t))] []))))) (K (Ex.exit 0) (mkS 28 [] [] []))) := by kernel_rfl
mutual
def nolT : Tr -> Prop
  | .mk k v a b s o ks => (v.kind = 1 -> v.m ≠ -9223372036854775808) /\ nolTs ks
def nolTs : List Tr -> Prop
  | [] => True
  | t :: l => nolT t /\ nolTs l
end
section
variable {Pr Ow : Nat -> List DV -> DV -> Prop}
theorem fewS_okM {M : Int} {g : Prop} {t : Tr} {deep : Int} (h : g -> ∀ c : Int, 0 <= deep -> deep <= 40 -> 0 <= c -> c <= M -> ∀ Φ : DV -> List Blk -> Prop, fewKM M t c Φ -> GoC cfg Pr Ow 28 [t.dv, .int .i64 deep, .int .i64 M, .ptr 50 1 0 0] [.box [.int .i64 c]] Φ) :
    SpecOK cfg Pr Ow 28 (fewSM M g t deep) := by
  intro xs ex k hk
  unfold fewSM at hk
  split at hk
  · obtain ⟨hg, rfl, h1, h2, h3, h4, h5⟩ := hk
    exact h hg _ h1 h2 h3 h4 k h5
  · exact hk.elim
theorem few_goM {M : Int} (hM : 0 <= M /\ M <= 300) : ∀ (t : Tr) (deep c : Int), 0 <= deep -> deep <= 40 -> 0 <= c -> c <= M -> ∀ Φ : DV -> List Blk -> Prop, fewKM M t c Φ -> GoC cfg Pr Ow 28 [t.dv, .int .i64 deep, .int .i64 M, .ptr 50 1 0 0] [.box [.int .i64 c]] Φ := by
  intro t
  induction hm : t.count using Nat.strongRecOn generalizing t with
  | _ m ih =>
    subst hm
    intro deep c hd1 hd2 hc1 hc2 Φ hΦ
    have hcnt := Tr.count_eq t
    by_cases hdeep : 1 <= deep /\ c + 1 <= M
    · obtain ⟨hdeep, hc3⟩ := hdeep
      refine fn_of (E := E28M M t c fun st => st = hd28M M t deep (c + 1) 0) (envOK trivial trivial trivial) nt28 nd28 ?_ ?_
      · intro b sp hl st k hs
        obtain ⟨rfl, rfl⟩ := look_one rfl hl
        refine loopS_ok (fun st hst k hk => ?_) hs
        subst hst
        have h0 : hd28M M t deep (c + 1) 0 = (fun i : Nat => hd28M M t deep (c + 1 + (Tr.counts (t.kids.take i) : Nat)) i) 0 := by simp [Tr.counts]
        rw [h0]
        -- only while it is few
        have key : ∀ d i, i + d = t.kids.length -> c + 1 + (Tr.counts (t.kids.take i) : Nat) <= M -> shortTs (t.kids.take i) -> GoL cfg Pr Ow 28 50 (bodyOf cfg 28 0) (hd28M M t deep (c + 1 + (Tr.counts (t.kids.take i) : Nat)) i) k := by
          intro d
          induction d with
          | zero =>
            intro i hi hle hsh
            obtain rfl : i = t.kids.length := hi
            refine round_of (E := E28bM M t deep t.kids.length) (envOK trivial ⟨fewS_okM fun hg => absurd hg (Nat.lt_irrefl _), trivial⟩ trivial) nt28 rfl (L := fun _ => False) (ks := [1, 2, 3, 4, 9]) (bs := [4]) (ks2 := [8]) (bs2 := []) ?_ (fun _ h => h.elim)
            rw [vc28_1M]
            refine brB_of (fun h => ?_) (fun h => ?_)
            · simp [Tr.encs_len] at h
            · have := counts_all t
              have e : c + 1 + ((Tr.counts (t.kids.take t.kids.length) : Nat) : Int) = c + t.count := by omega
              rw [e] at hle ⊢
              exact hk.2 hle (by rwa [List.take_length] at hsh)
          | succ d ihd =>
            intro i hi hle hsh
            have hlt : i < t.kids.length := by omega
            have hle2 := counts_le t i (Nat.le_of_lt hlt)
            have hct := counts_take hlt
            refine round_of (E := E28bM M t deep i) (envOK trivial ⟨fewS_okM fun hg => ?_, trivial⟩ trivial) nt28 rfl (L := fun st => st = hd28M M t deep (c + 1 + (Tr.counts (t.kids.take (i + 1)) : Nat)) (i + 1) /\ c + 1 + (Tr.counts (t.kids.take (i + 1)) : Nat) <= M /\ shortTs (t.kids.take (i + 1)))
              (ks := [1, 2, 3, 4, 9]) (bs := [4]) (ks2 := [8]) (bs2 := []) ?_ ?_
            · intro c' a1 a2 a3 a4
              exact ih _ (kid_count hlt) (kid t i) rfl (deep - 1) c' a1 a2 a3 a4
            · rw [vc28_1M]
              refine brB_of (fun h => ?_) (fun h => ?_)
              · simp only [obB_iff, decide_eq_true_eq, Tr.encs_len]
                refine ⟨hlt, encs_kid hlt, inR64 (by omega), hlt, trivial, by omega, by omega, by omega, hle, fun b n hb h1 h2 => brB_of (fun _ => hk.1 n (by omega) h2) fun hbt => ⟨inR64 (by omega), ?_⟩⟩
                have hb := hb (by simpa using hbt)
                refine ⟨?_, by omega, shortTs_take hlt hsh hb.2⟩
                have e : n = c + 1 + ((Tr.counts (t.kids.take (i + 1)) : Nat) : Int) := by omega
                rw [e, ← cast_succ]; rfl
              · simp [Tr.encs_len] at h; omega
            · rintro _ ⟨rfl, h, h'⟩
              exact ihd (i + 1) (by omega) h h'
        exact key t.kids.length 0 (by omega) (by simp [Tr.counts]; omega) trivial
      · rw [vc28M]
        simp only [obB_iff]
        refine ⟨inR64 (by omega), brB_of (fun h => ?_) (fun h => ?_)⟩
        · exact hΦ false _ (by simp) (by omega) (by omega)
        · have hs : t.v.txt.length <= 3000 := by
            have : (t.v.txt.length : Int) <= 3000 := by simp at h; omega
            omega
          exact ⟨rfl, fun n h1 h2 => hΦ false n (by simp) h1 h2, fun h h' => hΦ true _ (fun _ => ⟨⟨rfl, h⟩, (shortT_eq t).2 ⟨hs, h'⟩⟩) (by omega) (by omega)⟩
    · refine fn_of (E := E28M M t c fun _ => False) (envOK trivial trivial trivial) nt28 nd28 ?_ ?_
      · intro b sp hl st k hs
        obtain ⟨rfl, rfl⟩ := look_one rfl hl
        exact hs.1.elim
      · rw [vc28M]
        simp only [obB_iff]
        refine ⟨inR64 (by omega), brB_of (fun h => ?_) (fun h => ?_)⟩
        · exact hΦ false _ (by simp) (by omega) (by omega)
        · exfalso
          simp at h
          omega
theorem Few_goM {M : Int} (hM : 0 <= M /\ M <= 300) (t : Tr) (Φ : DV -> List Blk -> Prop) (hΦ : ∀ b : Bool, (b = true -> (t.count : Int) <= M /\ shortT t) -> Φ (.bool b) []) : GoC cfg Pr Ow 9 [t.dv, .int .i64 M] [] Φ := by
  refine fn_of0 (E := E9M M t) (envOK ⟨fewS_okM fun _ c a1 a2 a3 a4 => few_goM hM t 40 c a1 a2 a3 a4, trivial⟩ trivial trivial) rfl ?_
  rw [vc9M]
  refine ⟨trivial, rfl, by omega, by omega, by omega, by omega, fun b n h1 h2 h3 => hΦ b fun hb => ?_⟩
  have := h1 hb
  exact ⟨by omega, this.2⟩theorem nolT_eq (t : Tr) : nolT t ↔ (t.v.kind = 1 -> t.v.m ≠ -9223372036854775808) /\ nolTs t.kids := by cases t; simp only [nolT, Tr.v, Tr.kids]
theorem nolTs_of : ∀ {l : List Tr}, (∀ x ∈ l, nolT x) -> nolTs l
  | [], _ => trivial
  | x :: l, h => ⟨h x (by simp), nolTs_of fun y hy => h y (by simp [hy])⟩
theorem nolTs_mem : ∀ {l : List Tr} {t : Tr}, nolTs l -> t ∈ l -> nolT t
  | x :: l, t, h, hm => by
    simp only [nolTs] at h
    simp only [List.mem_cons] at hm
    rcases hm with rfl | hm
    · exact h.1
    · exact nolTs_mem h.2 hm
theorem leB_ok {g : Nat} {c : Prop} {xs0 : List DV} {P : Prop} (h : c -> ∀ Φ : DV -> List Blk -> Prop, (∀ b : Bool, (b = false -> P) -> Φ (.bool b) []) -> GoC cfg Pr Ow g xs0 [] Φ) : SpecOK cfg Pr Ow g (leB c xs0 P) := by
  intro xs ex k hk
  cases ex with
  | cons _ _ => exact hk.elim
  | nil =>
    obtain ⟨hc, rfl, hk⟩ := hk
    exact h hc k hk
theorem least_goX : ∀ (t : Tr), t.count <= 1000000 -> ∀ Φ : DV -> List Blk -> Prop, (∀ b : Bool, (b = false -> nolT t) -> Φ (.bool b) []) -> GoC cfg Pr Ow 14 [t.dv] [] Φ := by
  intro t
  induction hm : t.count using Nat.strongRecOn generalizing t with
  | _ m ih =>
    subst hm
    intro hn Φ hΦ
    have hcnt := kids_count t
    refine fn_of (E := E14X (fun st => st = hd14 t 0) (nolTs t.kids)) (envOK trivial trivial trivial) nt14 nd14 ?_ ?_
    · intro b sp hl st k hs
      obtain ⟨rfl, rfl⟩ := look_one rfl hl
      refine loopS_ok (fun st hst k hk => ?_) hs
      subst hst
      have key : ∀ d i, i + d = t.kids.length -> nolTs (t.kids.take i) -> GoL cfg Pr Ow 14 28 (bodyOf cfg 14 0) (hd14 t i) k := by
        intro d
        induction d with
        | zero =>
          intro i hi hno
          refine round_of (E := E14bX t i False) (envOK trivial ⟨leB_ok fun h => absurd h (by omega), trivial⟩ trivial) nt14 rfl (L := fun _ => False) (ks := [1, 3]) (bs := [1]) (ks2 := [2]) (bs2 := []) ?_ (fun _ h => h.elim)
          · rw [vc14_1X]
            refine brB_of (fun h => ?_) (fun _ => hk.2 (by rwa [List.take_of_length_le (by omega)] at hno))
            simp [Tr.encs_len] at h; omega
        | succ d ihd =>
          intro i hi hno
          have hlt : i < t.kids.length := by omega
          refine round_of (E := E14bX t i (nolT (kid t i))) (envOK trivial ⟨leB_ok fun _ => ih _ (kid_count hlt) (kid t i) rfl (by have := kid_count hlt; omega), trivial⟩ trivial) nt14 rfl (L := fun st => nolT (kid t i) /\ st = hd14 t (i + 1)) (ks := [1, 3]) (bs := [1]) (ks2 := [2]) (bs2 := []) ?_ ?_
          · rw [vc14_1X]
            refine brB_of (fun _ => obB_of (decide_eq_true (by rw [Tr.encs_len]; exact hlt)) ⟨encs_kid hlt, hlt, rfl, fun b hb => brB_of (fun _ => hk.1) (fun h => obB_of (inR64 (by omega)) ⟨hb h, ?_⟩)⟩) (fun h => ?_)
            · rw [← cast_succ]; rfl
            · simp [Tr.encs_len] at h; omega
          · rintro _ ⟨h, rfl⟩
            refine ihd (i + 1) (by omega) (nolTs_of fun x hx => ?_)
            rcases take_mem_snoc hlt hx with hx | rfl
            · exact nolTs_mem hno hx
            · exact h
      exact key t.kids.length 0 (by omega) trivial
    · rw [vc14X]
      refine brB_of (fun h => hΦ true (fun h => by cases h)) (fun h => ⟨rfl, hΦ true (fun h => by cases h), fun hno => hΦ false fun _ => (nolT_eq t).2 ⟨fun hk => ?_, hno⟩⟩)
      intro hmin
      rw [hk, hmin] at h
      cases h
end
end Go.Det.Sea
end

section
namespace Go.Det.Sea
open Go Go.Det
def boS (c : Prop) (xs0 : List DV) (Q : Bool -> Prop) : Spec := fun xs ex k => match ex with
  | [] => c /\ xs = xs0 /\ ∀ b : Bool, Q b -> k (.bool b) []
  | _ :: _ => False
def cel (r c : Int) : DV := .agg [.int .i64 r, .int .i64 c]
def E5 (t B : Tr) (ra ca rb cb f h : Int) (s1 s2 : List UInt8) (ga gb : Bool) (c0 c c2 : Prop) (Q1 Q2 : Bool -> Prop) : Env := { cs := [(8, callS0 (.bool true)), (9, boS True [t.dv, .int .i64 100] Q1), (14, boS c0 [t.dv] Q2), (11, callG c0 [t.dv] t.dv), (22, callG c [B.dv, B.dv] (.bool true))], ss := [(29, 24, callG True [cel ra ca] (.bool ga)), (34, 24, callG True [cel rb cb] (.bool gb)), (42, 10, callG (c /\ ga = true) [t.dv, cel ra ca] (.tup [.str s1, .int .i64 f])), (48, 10, callG (c /\ gb = true) [t.dv, cel rb cb] (.tup [.str s2, .int .i64 f])), (59, 15, callG (c /\ ga = true /\ f = 0 /\ c2) [.str s1, cel ra ca] (.tup [B.dv, .int .i64 0, .int .i64 h])), (66, 15, callG (c /\ gb = true /\ f = 0 /\ c2) [.str s2, cel rb cb] (.tup [B.dv, .int .i64 0, .int .i64 h]))], sp := [3, 14] }
theorem vc5 (t B : Tr) (ra ca rb cb f h : Int) (s1 s2 : List UInt8) (ga gb : Bool) (c0 c c2 : Prop) (Q1 Q2 : Bool -> Prop) (Φ : DV -> List Blk -> Prop) : (vcF cfg (E5 t B ra ca rb cb f h s1 s2 ga gb c0 c c2 Q1 Q2) 5 [t.dv, cel ra ca, cel rb cb] [] Φ) =
    (True /\ [Tr.dv t, DV.int .i64 100] = [Tr.dv t, DV.int .i64 100] /\ ∀ (b : Bool), Q1 b -> brB (!b) (Φ (DV.bool true) []) (c0 /\ [Tr.dv t] = [Tr.dv t] /\ ∀ (b : Bool), Q2 b -> brB b (Φ (DV.bool true) []) (True /\ [DV.agg [DV.int .i64 ra, DV.int .i64 ca]] = [DV.agg [DV.int .i64 ra, DV.int .i64 ca]] /\ brB (!ga) (Φ (DV.bool true) []) (True /\ [DV.agg [DV.int .i64 rb, DV.int .i64 cb]] = [DV.agg [DV.int .i64 rb, DV.int .i64 cb]] /\ brB (!gb) (Φ (DV.bool true) []) (c0 /\ [Tr.dv t] = [Tr.dv t] /\ (c /\ ga = true) /\ [Tr.dv t, DV.agg [DV.int .i64 ra, DV.int .i64 ca]] = [Tr.dv t, DV.agg [DV.int .i64 ra, DV.int .i64 ca]] /\ (c /\ gb = true) /\ [Tr.dv t, DV.agg [DV.int .i64 rb, DV.int .i64 cb]] = [Tr.dv t, DV.agg [DV.int .i64 rb, DV.int .i64 cb]] /\ brB (f != f) (Φ (DV.bool false) []) (brB (f != (0 : Int)) (Φ (DV.bool true) []) ((c /\ ga = true /\ f = (0 : Int) /\ c2) /\ [DV.str s1, DV.agg [DV.int .i64 ra, DV.int .i64 ca]] = [DV.str s1, DV.agg [DV.int .i64 ra, DV.int .i64 ca]] /\ (c /\ gb = true /\ f = (0 : Int) /\ c2) /\ [DV.str s2, DV.agg [DV.int .i64 rb, DV.int .i64 cb]] = [DV.str s2, DV.agg [DV.int .i64 rb, DV.int .i64 cb]] /\ brB (h == h) (c /\ [Tr.dv B, Tr.dv B] = [Tr.dv B, Tr.dv B] /\ Φ (DV.bool true) []) (Φ (DV.bool false) [])))))))) := by kernel_rfl
def E5z (t : Tr) (ra ca rb cb f h : Int) (s1 s2 : List UInt8) (ga gb : Bool) (c0 c c2 : Prop) (Q1 Q2 : Bool -> Prop) : Env := { cs := [(8, callS0 (.bool true)), (9, boS True [t.dv, .int .i64 100] Q1), (14, boS c0 [t.dv] Q2), (11, callG c0 [t.dv] t.dv), (22, callG c [.agg zeroE, .agg zeroE] (.bool true))], ss := [(29, 24, callG True [cel ra ca] (.bool ga)), (34, 24, callG True [cel rb cb] (.bool gb)), (42, 10, callG (c /\ ga = true) [t.dv, cel ra ca] (.tup [.str s1, .int .i64 f])), (48, 10, callG (c /\ gb = true) [t.dv, cel rb cb] (.tup [.str s2, .int .i64 f])), (59, 15, callG (c /\ ga = true /\ f = 0 /\ c2) [.str s1, cel ra ca] (.tup [.agg zeroE, .int .i64 0, .int .i64 h])), (66, 15, callG (c /\ gb = true /\ f = 0 /\ c2) [.str s2, cel rb cb] (.tup [.agg zeroE, .int .i64 0, .int .i64 h]))], sp := [3, 14] }
theorem vc5z (t : Tr) (ra ca rb cb f h : Int) (s1 s2 : List UInt8) (ga gb : Bool) (c0 c c2 : Prop) (Q1 Q2 : Bool -> Prop) (Φ : DV -> List Blk -> Prop) : (vcF cfg (E5z t ra ca rb cb f h s1 s2 ga gb c0 c c2 Q1 Q2) 5 [t.dv, cel ra ca, cel rb cb] [] Φ) =
    (True /\ [Tr.dv t, DV.int .i64 100] = [Tr.dv t, DV.int .i64 100] /\ ∀ (b : Bool), Q1 b -> brB (!b) (Φ (DV.bool true) []) (c0 /\ [Tr.dv t] = [Tr.dv t] /\ ∀ (b : Bool), Q2 b -> brB b (Φ (DV.bool true) []) (True /\ [DV.agg [DV.int .i64 ra, DV.int .i64 ca]] = [DV.agg [DV.int .i64 ra, DV.int .i64 ca]] /\ brB (!ga) (Φ (DV.bool true) []) (True /\ [DV.agg [DV.int .i64 rb, DV.int .i64 cb]] = [DV.agg [DV.int .i64 rb, DV.int .i64 cb]] /\ brB (!gb) (Φ (DV.bool true) []) (c0 /\ [Tr.dv t] = [Tr.dv t] /\ (c /\ ga = true) /\ [Tr.dv t, DV.agg [DV.int .i64 ra, DV.int .i64 ca]] = [Tr.dv t, DV.agg [DV.int .i64 ra, DV.int .i64 ca]] /\ (c /\ gb = true) /\ [Tr.dv t, DV.agg [DV.int .i64 rb, DV.int .i64 cb]] = [Tr.dv t, DV.agg [DV.int .i64 rb, DV.int .i64 cb]] /\ brB (f != f) (Φ (DV.bool false) []) (brB (f != (0 : Int)) (Φ (DV.bool true) []) ((c /\ ga = true /\ f = (0 : Int) /\ c2) /\ [DV.str s1, DV.agg [DV.int .i64 ra, DV.int .i64 ca]] = [DV.str s1, DV.agg [DV.int .i64 ra, DV.int .i64 ca]] /\ (c /\ gb = true /\ f = (0 : Int) /\ c2) /\ [DV.str s2, DV.agg [DV.int .i64 rb, DV.int .i64 cb]] = [DV.str s2, DV.agg [DV.int .i64 rb, DV.int .i64 cb]] /\ brB (h == h) (c /\ [DV.agg zeroE, DV.agg zeroE] = [DV.agg zeroE, DV.agg zeroE] /\ Φ (DV.bool true) []) (Φ (DV.bool false) [])))))))) := by kernel_rfl
end Go.Det.Sea
end

section
namespace Go.Det.Sea
open Go Go.Det
theorem wrapB_count (k t : Tr) (w : Int) : (wrapB k t w).count <= t.count + 1 := by
  unfold wrapB
  cases decide (bindI k < w) with
  | false => simp
  | true => simp only [cond_true, paT, Tr.count, Tr.counts]; omega
mutual
theorem br_count : ∀ t : Tr, (brT t).count <= 5 * t.count
  | .mk k v a b sh op ks => by
    have ih := br_counts ks
    have hc : (Tr.mk k v a b sh op ks).count = 1 + Tr.counts ks := by rw [Tr.count_eq]; rfl
    rw [hc]
    have h0 : ((brTs ks).getD 0 default).count <= Tr.counts (brTs ks) + 1 := by
      cases brTs ks with
      | nil => simp [Tr.counts]; decide
      | cons x l => simp [Tr.counts]; omega
    have h1 : ((brTs ks).getD 0 default).count + ((brTs ks).getD 1 default).count <= Tr.counts (brTs ks) + 2 := by
      cases brTs ks with
      | nil => simp [Tr.counts]; decide
      | cons x l =>
        cases l with
        | nil => simp [Tr.counts]; decide
        | cons y l => simp [Tr.counts]; omega
    unfold brT
    simp only
    cases h : k == 1 with
    | true =>
      simp only [cond_true]
      cases (v.kind == 1 && decide (v.m < 0)) with
      | true => simp [unT, cNum, Tr.count, Tr.counts]; omega
      | false => simp only [cond_false]; rw [hc]; omega
    | false =>
      simp only [cond_false]
      cases decide (k <= 6) with
      | true => simp only [cond_true]; rw [hc]; omega
      | false =>
        simp only [cond_false]
        cases k == 7 with
        | true =>
          simp only [cond_true]
          have w7 := wrapB_count (ks.getD 0 default) ((brTs ks).getD 0 default) 7
          have w6 := wrapB_count (ks.getD 0 default) ((brTs ks).getD 0 default) 6
          cases op == 3 <;> simp only [cond_true, cond_false, unT, Tr.count, Tr.counts] <;> omega
        | false =>
          simp only [cond_false]
          cases k == 8 with
          | true =>
            simp only [cond_true, biT, Tr.count, Tr.counts]
            have wx := wrapB_count (ks.getD 0 default) ((brTs ks).getD 0 default) (leftI op)
            have wy := wrapB_count (ks.getD 1 default) ((brTs ks).getD 1 default) (bindsI op + 1)
            omega
          | false =>
            simp only [cond_false]
            cases k == 9 with
            | true => simp only [cond_true, caT, Tr.count]; omega
            | false => simp only [cond_false, paT, Tr.count, Tr.counts]; omega
theorem br_counts : ∀ l : List Tr, Tr.counts (brTs l) <= 5 * Tr.counts l
  | [] => Nat.le_refl _
  | t :: l => by
    have a := br_count t
    have b := br_counts l
    simp only [brTs, Tr.counts]; omega
end
theorem sh_default : shT default := ⟨by simp, trivial⟩
theorem shTs_get {l : List Tr} (h : shTs l) (i : Nat) : shT (l.getD i default) := by
  by_cases hi : i < l.length
  · rw [List.getD_eq_getElem?_getD, List.getElem?_eq_getElem hi]
    exact shTs_mem h (List.getElem_mem hi)
  · rw [List.getD_eq_getElem?_getD, List.getElem?_eq_none (by omega)]
    exact sh_default
theorem sh_wrap {k t : Tr} {w : Int} (h : shT t) : shT (wrapB k t w) := by
  unfold wrapB
  cases decide (bindI k < w) with
  | false => exact h
  | true => exact ⟨by simp [v0], h, trivial⟩
mutual
theorem br_sh : ∀ t : Tr, shT t -> shT (brT t)
  | .mk k v a b sh op ks, h => by
    have h' := h
    simp only [shT] at h'
    have ih := br_shs ks h'.2
    unfold brT
    simp only
    cases k == 1 with
    | true =>
      simp only [cond_true]
      cases (v.kind == 1 && decide (v.m < 0)) with
      | true => exact ⟨by simp [v0], ⟨by simp, trivial⟩, trivial⟩
      | false => exact h
    | false =>
      simp only [cond_false]
      cases decide (k <= 6) with
      | true => exact h
      | false =>
        simp only [cond_false]
        cases k == 7 with
        | true =>
          simp only [cond_true]
          cases op == 3
          · exact ⟨by simp [v0], sh_wrap (shTs_get ih 0), trivial⟩
          · exact ⟨by simp [v0], sh_wrap (shTs_get ih 0), trivial⟩
        | false =>
          simp only [cond_false]
          cases k == 8 with
          | true => exact ⟨by simp [v0], sh_wrap (shTs_get ih 0), sh_wrap (shTs_get ih 1), trivial⟩
          | false =>
            simp only [cond_false]
            cases k == 9 with
            | true => exact ⟨by simp [v0], ih⟩
            | false => exact ⟨by simp [v0], shTs_get ih 0, trivial⟩
theorem br_shs : ∀ l : List Tr, shTs l -> shTs (brTs l)
  | [], _ => trivial
  | t :: l, h => by
    simp only [shTs] at h
    exact ⟨br_sh t h.1, br_shs l h.2⟩
end
mutual
theorem pre_sh : ∀ (t : Tr) (d : Int), shT t -> ∀ p ∈ t.pre d, p.1.v.txt.length <= 3000
  | .mk k v a b s o ks, d, h, p, hp => by
    simp only [shT] at h
    simp only [Tr.pre, List.mem_cons] at hp
    rcases hp with rfl | hp
    · exact h.1
    · exact pres_sh ks (d + 1) h.2 p hp
theorem pres_sh : ∀ (l : List Tr) (d : Int), shTs l -> ∀ p ∈ Tr.pres l d, p.1.v.txt.length <= 3000
  | [], _, _, p, hp => by simp [Tr.pres] at hp
  | t :: l, d, h, p, hp => by
    simp only [shTs] at h
    simp only [Tr.pres, List.mem_append] at hp
    rcases hp with hp | hp
    · exact pre_sh t d h.1 p hp
    · exact pres_sh l d h.2 p hp
end
mutual
theorem sh_of_short : ∀ t : Tr, shortT t -> shT t
  | .mk k v a b s o ks, h => by
    have := (shortT_eq _).1 h
    exact ⟨this.1, shs_of_short ks this.2⟩
theorem shs_of_short : ∀ l : List Tr, shortTs l -> shTs l
  | [], _ => trivial
  | t :: l, h => ⟨sh_of_short t (shortTs_mem h (by simp)), shs_of_short l (shortTs_of fun x hx => shortTs_mem h (by simp [hx]))⟩
end
mutual
theorem num_of : ∀ t : Tr, rngT t -> nolT t -> numT t
  | .mk k v a b s o ks, h1, h2 => by
    simp only [rngT] at h1
    simp only [nolT] at h2
    refine ⟨fun _ hk => ?_, nums_of ks h1.2 h2.2⟩
    have := h2.1 hk
    simp only [Tr.v]
    omega
theorem nums_of : ∀ l : List Tr, rngTs l -> nolTs l -> numTs l
  | [], _, _ => trivial
  | t :: l, h1, h2 => by
    simp only [rngTs] at h1
    simp only [nolTs] at h2
    exact ⟨num_of t h1.1 h2.1, nums_of l h1.2 h2.2⟩
end
end Go.Det.Sea
end

section
namespace Go.Det.Sea
open Go Go.Det
structure Lb (Pr Ow : Nat -> List DV -> DV -> Prop) (uN uE : List UInt8 -> Int) : Prop where
  a : LbA Pr Ow
  b : LbB Pr Ow uN uE
  c : LbC Pr Ow
  wk : ∀ T : Tr, T.count <= 900000 -> ∀ Φ : DV -> List Blk -> Prop, Φ (.psl 19 (nds (T.pre 1))) [] -> GoC cfg Pr Ow 48 [T.dv] [] Φ
  pl : ∀ (t : Tr) (d : Int), (t.pre d).length = t.count
section
variable {Pr Ow : Nat -> List DV -> DV -> Prop} {uN uE : List UInt8 -> Int} (lb : Lb Pr Ow uN uE)
theorem goodB_far {row col : Int} (h : goodB row col = true) : farI row /\ farI col := by
  simp only [goodB, Bool.and_eq_true, decide_eq_true_eq] at h
  obtain ⟨⟨⟨g1, g2⟩, g3⟩, g4⟩ := h
  exact ⟨⟨by omega, by omega⟩, ⟨by omega, by omega⟩⟩
include lb
theorem check_any (t : Tr) (hc : t.count <= 900000) (hsh : shT t) (Φ : DV -> List Blk -> Prop) (h : Φ (.int .i64 (checkE uE t)) []) : GoC cfg Pr Ow 29 [t.dv] [] Φ :=
  go29 (uN := uN) (uE := uE) t (by rw [lb.pl]; omega) (fun p hp _ _ => lb.b.un _ (pre_sh t 1 hsh p hp)) (lb.wk t hc) Φ h
theorem text_go (t : Tr) (hc : t.count <= 400000) (hsh : shT t) (hnum : numT t) {row col : Int} (hg : goodB row col = true) (Φ : DV -> List Blk -> Prop) (h : Φ (.tup [.str (bif checkE uE t == 0 then toldT row col t else []), .int .i64 (checkE uE t)]) []) : GoC cfg Pr Ow 10 [t.dv, cel row col] [] Φ := by
  obtain ⟨h3, h4⟩ := goodB_far hg
  refine fn_of0 (E := E10 t row col (checkE uE t) true (toldT row col t)) (envOK ⟨callG_ok fun _ => check_any lb t (by omega) hsh, callG_ok fun _ Φ h => go24 row col Φ (by rw [hg]; exact h), callG_ok fun hf => told_go lb.a lb.b lb.c h3 h4 t (okT_of_check hf.1) hnum hsh (by omega), trivial⟩ trivial trivial) rfl ?_
  have := vc10 t row col (checkE uE t) true (toldT row col t) Φ
  show vcF cfg (E10 t row col (checkE uE t) true (toldT row col t)) 10 [t.dv, .agg [.int .i64 row, .int .i64 col]] [] Φ
  rw [this]
  refine ⟨trivial, rfl, brB_of (fun h1 => ?_) (fun h1 => ⟨trivial, rfl, ⟨by simpa using h1, rfl⟩, rfl, ?_⟩)⟩
  · have : (checkE uE t == 0) = false := by simpa [bne] using h1
    rw [this] at h; exact h
  · have h1 : checkE uE t = 0 := by simpa using h1
    rw [h1] at h
    exact h
theorem parse_go (t : Tr) (hok : okT uE t) (hc : t.count <= 100000) (hsh : shT t) (hnum : numT t) {row col : Int} (hg : goodB row col = true) (Φ : DV -> List Blk -> Prop) (h0 : checkE uE (brT t) = 0 -> Φ (.tup [(brT t).dv, .int .i64 0, .int .i64 0]) []) (h1 : checkE uE (brT t) ≠ 0 -> Φ (.tup [.agg zeroE, .int .i64 0, .int .i64 (checkE uE (brT t))]) []) : GoC cfg Pr Ow 15 [.str (toldT row col t), cel row col] [] Φ := by
  obtain ⟨h3, h4⟩ := goodB_far hg
  obtain ⟨⟨b1, b8⟩, hr⟩ := told_rd (s := toldT row col t) (row := row) (col := col) t hok hnum hsh
  have hlen := told_len row col t hok hnum hsh
  have hs : (toldT row col t).length <= 4000000000 := by omega
  have hb0 : blN (toldT row col t) 0 = 0 := hr.nb (q := 0) (r := []) (by simp)
  have hv := hr.v (n := 1) (by omega) (by omega) 0 [] (by rw [hb0]; simp) .nil
  rw [hb0, Nat.zero_add] at hv
  have hb : blN (toldT row col t) (toldT row col t).length = (toldT row col t).length := blN_stop (by omega)
  rw [hb] at hv
  have hrd := rds_ok (Pr := Pr) (Ow := Ow) (toldT row col t) row col hs (leaf := leafG (toldT row col t) row col uE) (head := headG (toldT row col t)) (fun p q t p2 hp hq h => leafG_ok lb.a lb.b hs h3 h4 p q t p2 hp hq h) (fun p q op p1 hp hq h => headG_ok lb.a hs p q op p1 hp hq h) hv (by omega)
  have hbc := br_count t
  exact go15 (toldT row col t) hs row col hg _ 0 (brT t) (checkE uE (brT t)) hrd hb (check_any lb (brT t) (by omega) (br_sh t hsh)) Φ h0 h1
theorem boS_ok {g : Nat} {c : Prop} {xs0 : List DV} {Q : Bool -> Prop} (h : c -> ∀ Φ : DV -> List Blk -> Prop, (∀ b : Bool, Q b -> Φ (.bool b) []) -> GoC cfg Pr Ow g xs0 [] Φ) : SpecOK cfg Pr Ow g (boS c xs0 Q) := by
  intro xs ex k hk
  cases ex with
  | cons _ _ => exact hk.elim
  | nil =>
    obtain ⟨hc, rfl, hk⟩ := hk
    exact h hc k hk
omit lb in
theorem wk_zeroE : WkV (.agg zeroE) (Tr.mk 0 v0 r0 r0 0 0 []).dv := wk_cells (Tr.mk 0 v0 r0 r0 0 0 []) 18
theorem same_zero (Φ : DV -> List Blk -> Prop) (h : Φ (.bool true) []) : GoC cfg Pr Ow 22 [.agg zeroE, .agg zeroE] [] Φ := by
  have hc : (Tr.mk 0 v0 r0 r0 0 0 []).count = 1 := rfl
  refine go_wk (xs := [(Tr.mk 0 v0 r0 r0 0 0 []).dv, (Tr.mk 0 v0 r0 r0 0 0 []).dv]) ⟨.inr wk_zeroE, .inr wk_zeroE, trivial⟩ ?_
  exact Same_go _ _ (by rw [lb.pl, hc]; omega) (lb.wk _ (by rw [hc]; omega)) _ ⟨_, .inl rfl, h⟩
theorem TextMoves_go (hkn : ∀ Φ : DV -> List Blk -> Prop, Φ (.bool true) [] -> GoC cfg Pr Ow 8 [] [] Φ) (t : Tr) (hrng : rngT t) (ra ca rb cb : Int) (Φ : DV -> List Blk -> Prop) (hΦ : Φ (.bool true) []) : GoC cfg Pr Ow 5 [t.dv, cel ra ca, cel rb cb] [] Φ := by
  have cc : ∀ c : ((t.count : Int) <= 100 /\ shortT t), t.count <= 100 := fun c => by have := c.1; omega
  have few : SpecOK cfg Pr Ow 9 (boS True [t.dv, .int .i64 100] (fun b => b = true -> (t.count : Int) <= 100 /\ shortT t)) := boS_ok lb fun _ Φ h => Few_goM (M := 100) (by omega) t Φ h
  have lst : SpecOK cfg Pr Ow 14 (boS ((t.count : Int) <= 100 /\ shortT t) [t.dv] (fun b => b = false -> nolT t)) := boS_ok lb fun c Φ h => least_goX t (by have := cc c; omega) Φ h
  have too : SpecOK cfg Pr Ow 11 (callG ((t.count : Int) <= 100 /\ shortT t) [t.dv] t.dv) := callG_ok fun c => to_go t (by have := cc c; omega)
  have gd : ∀ r c : Int, SpecOK cfg Pr Ow 24 (callG True [cel r c] (.bool (goodB r c))) := fun r c => callG_ok fun _ => go24 r c
  have sh : ((t.count : Int) <= 100 /\ shortT t) -> shT t := fun c => sh_of_short t c.2
  have tx : ∀ r c : Int, SpecOK cfg Pr Ow 10 (callG ((((t.count : Int) <= 100 /\ shortT t) /\ nolT t) /\ goodB r c = true) [t.dv, cel r c] (.tup [.str (bif checkE uE t == 0 then toldT r c t else []), .int .i64 (checkE uE t)])) := fun r c => callG_ok fun hh => text_go lb t (by have := cc hh.1.1; omega) (sh hh.1.1) (num_of t hrng hh.1.2) hh.2
  have lft : ∀ b : Bool, (!b) = false -> b = true := fun b h => by simpa using h
  by_cases hB : checkE uE (brT t) = 0
  · have pr : ∀ r c : Int, SpecOK cfg Pr Ow 15 (callG (((((t.count : Int) <= 100 /\ shortT t) /\ nolT t) /\ goodB r c = true /\ checkE uE t = 0 /\ True)) [.str (bif checkE uE t == 0 then toldT r c t else []), cel r c] (.tup [(brT t).dv, .int .i64 0, .int .i64 0])) := fun r c => callG_ok fun hh Φ h => by
      rw [hh.2.2.1]
      exact parse_go lb t (okT_of_check hh.2.2.1) (by have := cc hh.1.1; omega) (sh hh.1.1) (num_of t hrng hh.1.2) hh.2.1 Φ (fun _ => h) (fun h' => absurd hB h')
    have sm : SpecOK cfg Pr Ow 22 (callG (((t.count : Int) <= 100 /\ shortT t) /\ nolT t) [(brT t).dv, (brT t).dv] (.bool true)) := callG_ok fun hh => by
      have hbc := br_count t
      have := cc hh.1
      exact Same_go _ _ (by rw [lb.pl]; omega) (lb.wk _ (by omega))
    refine fn_of0 (E := E5 t (brT t) ra ca rb cb (checkE uE t) 0 (bif checkE uE t == 0 then toldT ra ca t else []) (bif checkE uE t == 0 then toldT rb cb t else []) (goodB ra ca) (goodB rb cb) ((t.count : Int) <= 100 /\ shortT t) (((t.count : Int) <= 100 /\ shortT t) /\ nolT t) True (fun b => b = true -> (t.count : Int) <= 100 /\ shortT t) (fun b => b = false -> nolT t))
      (envOK ⟨callS0_ok hkn, few, lst, too, sm, trivial⟩ ⟨gd ra ca, gd rb cb, tx ra ca, tx rb cb, pr ra ca, pr rb cb, trivial⟩ trivial) rfl ?_
    rw [vc5]
    refine ⟨trivial, rfl, fun b hb => brB_of (fun _ => hΦ) fun h1 => ?_⟩
    have c0 := hb (lft b h1)
    refine ⟨c0, rfl, fun b2 hb2 => brB_of (fun _ => hΦ) fun h2 => ⟨trivial, rfl, brB_of (fun _ => hΦ) fun h3 => ⟨trivial, rfl, brB_of (fun _ => hΦ) fun h4 => ?_⟩⟩⟩
    have c1 : ((t.count : Int) <= 100 /\ shortT t) /\ nolT t := ⟨c0, hb2 h2⟩
    refine ⟨c0, rfl, ⟨c1, lft _ h3⟩, rfl, ⟨c1, lft _ h4⟩, rfl, brB_of (fun h5 => ?_) fun _ => brB_of (fun _ => hΦ) fun h6 => ?_⟩
    · simp at h5
    · have hf : checkE uE t = 0 := by simpa using h6
      exact ⟨⟨c1, lft _ h3, hf, trivial⟩, rfl, ⟨c1, lft _ h4, hf, trivial⟩, rfl, brB_of (fun _ => ⟨c1, rfl, hΦ⟩) fun h7 => by simp at h7⟩
  · have pr : ∀ r c : Int, SpecOK cfg Pr Ow 15 (callG (((((t.count : Int) <= 100 /\ shortT t) /\ nolT t) /\ goodB r c = true /\ checkE uE t = 0 /\ True)) [.str (bif checkE uE t == 0 then toldT r c t else []), cel r c] (.tup [.agg zeroE, .int .i64 0, .int .i64 (checkE uE (brT t))])) := fun r c => callG_ok fun hh Φ h => by
      rw [hh.2.2.1]
      exact parse_go lb t (okT_of_check hh.2.2.1) (by have := cc hh.1.1; omega) (sh hh.1.1) (num_of t hrng hh.1.2) hh.2.1 Φ (fun h' => absurd h' hB) (fun _ => h)
    have sm : SpecOK cfg Pr Ow 22 (callG (((t.count : Int) <= 100 /\ shortT t) /\ nolT t) [.agg zeroE, .agg zeroE] (.bool true)) := callG_ok fun _ => same_zero lb
    refine fn_of0 (E := E5z t ra ca rb cb (checkE uE t) (checkE uE (brT t)) (bif checkE uE t == 0 then toldT ra ca t else []) (bif checkE uE t == 0 then toldT rb cb t else []) (goodB ra ca) (goodB rb cb) ((t.count : Int) <= 100 /\ shortT t) (((t.count : Int) <= 100 /\ shortT t) /\ nolT t) True (fun b => b = true -> (t.count : Int) <= 100 /\ shortT t) (fun b => b = false -> nolT t))
      (envOK ⟨callS0_ok hkn, few, lst, too, sm, trivial⟩ ⟨gd ra ca, gd rb cb, tx ra ca, tx rb cb, pr ra ca, pr rb cb, trivial⟩ trivial) rfl ?_
    rw [vc5z]
    refine ⟨trivial, rfl, fun b hb => brB_of (fun _ => hΦ) fun h1 => ?_⟩
    have c0 := hb (lft b h1)
    refine ⟨c0, rfl, fun b2 hb2 => brB_of (fun _ => hΦ) fun h2 => ⟨trivial, rfl, brB_of (fun _ => hΦ) fun h3 => ⟨trivial, rfl, brB_of (fun _ => hΦ) fun h4 => ?_⟩⟩⟩
    have c1 : ((t.count : Int) <= 100 /\ shortT t) /\ nolT t := ⟨c0, hb2 h2⟩
    refine ⟨c0, rfl, ⟨c1, lft _ h3⟩, rfl, ⟨c1, lft _ h4⟩, rfl, brB_of (fun h5 => ?_) fun _ => brB_of (fun _ => hΦ) fun h6 => ?_⟩
    · simp at h5
    · have hf : checkE uE t = 0 := by simpa using h6
      exact ⟨⟨c1, lft _ h3, hf, trivial⟩, rfl, ⟨c1, lft _ h4, hf, trivial⟩, rfl, brB_of (fun _ => ⟨c1, rfl, hΦ⟩) fun h7 => by simp at h7⟩
end
end Go.Det.Sea
end

section
namespace Go.Det.Sea
open Go Go.Det Go.Proofs
theorem ixH : SpecOK cfg prH owG 154 idxS := by
  intro xs ex k hk
  unfold idxS at hk
  split at hk
  · exact go_prim (.inl (.inl (.inr (.inl ⟨rfl, _, _, rfl, rfl⟩)))) hk
  · exact hk.elim
theorem itoH : SpecOK cfg prH owG 54 itoaS := by
  intro xs ex k hk
  unfold itoaS at hk
  split at hk
  · exact go_prim (.inr (.inr (.inl ⟨rfl, _, by omega, hk.1.2, rfl, rfl⟩))) hk.2
  · exact hk.elim
theorem jnH : SpecOK cfg prH owG 61 joinS2 := by
  intro xs ex k hk
  unfold joinS2 at hk
  split at hk
  · obtain ⟨l, ⟨rfl, rfl⟩ | ⟨hne, rfl⟩, ⟨h1, h2⟩, hk⟩ := hk
    · exact go_prim (.inr (.inr (.inr (.inr (.inr (.inr (.inr (.inl ⟨rfl, _, rfl, rfl⟩)))))))) hk
    · exact go_prim (.inl (.inl (.inr (.inr (.inl ⟨rfl, l, _, hne, h1, by omega, rfl, rfl⟩))))) hk
  · exact hk.elim
theorem lbA : LbA prH owG where
  ix := ixH
  a140 := fun Φ h => go_prim (.inr (.inr (.inr (.inr (.inr (.inr (.inr (.inr (.inr (.inr ⟨rfl, rfl, rfl⟩)))))))))) h
  pi := fun n hn Φ h => go_prim (.inr (.inr (.inr (.inr (.inr (.inl ⟨rfl, _, _, by have := dec_len_le (n := n) (k := 6) (by omega) (by omega); omega, parse_dec hn, rfl, rfl⟩)))))) h
  fi := fun n hn Φ h => go_prim (.inr (.inr (.inr (.inl ⟨rfl, (n : Int), by omega, by omega, rfl, by
    have : ¬ ((n : Int) < 0) := by omega
    simp [Lib.itoa, this]⟩)))) h
  fd := fun i hi Φ h => go_prim (.inr (.inr (.inr (.inr (.inr (.inr (.inr (.inr (.inl ⟨rfl, i, hi, rfl, rfl⟩))))))))) h
theorem vsH (s : List UInt8) (hs : s.length <= 3000) (Φ : DV -> List Blk -> Prop) (h : Φ (.bool (Lib.validD s)) []) : GoC cfg prH owG 155 [.str s] [] Φ := go_prim (.inr (.inl ⟨rfl, s, by omega, rfl, rfl⟩)) h
theorem lbB {uN uE : List UInt8 -> Int} (hu : ∀ s : List UInt8, s.length <= 3000 -> UnitsOK prH owG uN uE s) : LbB prH owG uN uE where
  fu := fun n hn Φ h => go_prim (.inr (.inr (.inr (.inr (.inl ⟨rfl, n, by omega, rfl, rfl⟩))))) h
  rp := fun k hk Φ h => go_prim (.inr (.inr (.inr (.inr (.inr (.inr (.inl ⟨rfl, [48], k, by omega, by simp, rfl, by rw [repeat_zero]⟩))))))) h
  ra := fun x hx Φ h => go_prim (.inl (.inl (.inr (.inr (.inr ⟨rfl, x, [34], [34, 34], by omega, by simp, by
    have := Lib.count_le x [34]
    show x.length + Lib.count x [34] * 2 <= _
    omega, rfl, by rw [rep_all]⟩))))) h
  un := hu
theorem lbC : LbC prH owG where
  it := itoH
  nm := fun i hi Φ h => go_prim (.inr (.inr (.inr (.inr (.inr (.inr (.inr (.inr (.inr (.inl ⟨rfl, i, hi, rfl, rfl⟩)))))))))) h
  jn := jnH
theorem lb_ex : ∃ uN uE : List UInt8 -> Int, Lb prH owG uN uE := by
  obtain ⟨uN, uE, hu⟩ := units_ex (Pr := prH) (Ow := owG) Lib.validD vsH
  exact ⟨uN, uE, lbA, lbB hu, lbC, fun T hT Φ h => go_prim (.inl (.inl (.inl ⟨rfl, T, hT, rfl, rfl⟩))) h, Tr.pre_len⟩
theorem knH (Φ : DV -> List Blk -> Prop) (h : Φ (.bool true) []) : GoC cfg prH owG 8 [] [] Φ := go_prim (.inl (.inr ⟨rfl, rfl, rfl⟩)) h
namespace TextMoves
theorem callOK (t : Tr) (hr : rngT t) (ra ca rb cb : Int) (n : Int) : CallOK Tryz.prog (cfgH n) 5 [t.dv, cel ra ca, cel rb cb] [] (.bool true) [] := by
  obtain ⟨uN, uE, lb⟩ := lb_ex
  exact callOK_ofH (TextMoves_go lb knH t hr ra ca rb cb _ ⟨rfl, rfl⟩) n
end TextMoves
end Go.Det.Sea
end
