/- TextMovesCardSaid: part 18 of the texts behind it: Rng, Top1, Top2, Top3, Top4. No premise of its own. -/
import Derived.Test.YtpfjeinhmmmhkaaGreatDoorD17
import Derived.ChangeArms
import Derived.ChangeReads
import Derived.Deep.Slices
import Derived.DataReads
import Derived.Test.YtpfjeinhmmmhkaaGreatDoorCards
import Derived.Test.YtpfjeinhmmmhkaaGreatDoorTie
import Derived.WalkKit
import Derived.ProofKit
import Derived.OpenShut
import Derived.Deep.DeepHandedRow
import Derived.Lib.LaidTab
import Derived.ChangeStays
import Derived.ChangeOld
import Derived.Lay
import Derived.LaidOnce
import Derived.SevenTiedAt
import Derived.Shelf.Vars
set_option linter.all false
section
namespace Go.Det
mutual
def rngT : Tr -> Prop
  | .mk k v a b s o ks => (-9223372036854775808 <= v.m /\ v.m <= 9223372036854775807) /\ rngTs ks
def rngTs : List Tr -> Prop
  | [] => True
  | t :: l => rngT t /\ rngTs l
end
theorem rngTs_of : ∀ {l : List Tr}, (∀ x ∈ l, rngT x) -> rngTs l
  | [], _ => trivial
  | x :: l, h => ⟨h x (by simp), rngTs_of fun y hy => h y (by simp [hy])⟩
end Go.Det
end

section
namespace Go.Det.Sea
open Go Go.Det Go.Proofs
def allM (W : World) : Ro := ⟨fun r => match W.heap[r]? with
  | some (.cells c _ _) => some c
  | _ => none, fun _ => none⟩
theorem allM_ok (W : World) : RoOK (allM W) W := by
  refine ⟨fun r c h => ?_, fun r x h => by cases h⟩
  simp only [allM] at h
  split at h
  · rename_i c' el fr hh
    simp only [Option.some.injEq] at h; subst h
    exact ⟨el, fr, hh⟩
  · cases h
theorem l2 {cs : List Value} (h : cs.length = 2) : ∃ c0 c1, cs = [c0, c1] := by
  match cs, h with
  | [c0, c1], _ => exact ⟨c0, c1, rfl⟩
theorem l4 {cs : List Value} (h : cs.length = 4) : ∃ c0 c1 c2 c3, cs = [c0, c1, c2, c3] := by
  match cs, h with
  | [c0, c1, c2, c3], _ => exact ⟨c0, c1, c2, c3, rfl⟩
theorem l6 {cs : List Value} (h : cs.length = 6) : ∃ c0 c1 c2 c3 c4 c5, cs = [c0, c1, c2, c3, c4, c5] := by
  match cs, h with
  | [c0, c1, c2, c3, c4, c5], _ => exact ⟨c0, c1, c2, c3, c4, c5, rfl⟩
theorem l8 {cs : List Value} (h : cs.length = 8) : ∃ c0 c1 c2 c3 c4 c5 c6 c7, cs = [c0, c1, c2, c3, c4, c5, c6, c7] := by
  match cs, h with
  | [c0, c1, c2, c3, c4, c5, c6, c7], _ => exact ⟨c0, c1, c2, c3, c4, c5, c6, c7, rfl⟩
theorem l18 {cs : List Value} (h : cs.length = 18) : ∃ c0 c1 c2 c3 c4 c5 c6 c7 c8 c9 c10 c11 c12 c13 c14 c15 c16 c17, cs = [c0, c1, c2, c3, c4, c5, c6, c7, c8, c9, c10, c11, c12, c13, c14, c15, c16, c17] := by
  match cs, h with
  | [c0, c1, c2, c3, c4, c5, c6, c7, c8, c9, c10, c11, c12, c13, c14, c15, c16, c17], _ => exact ⟨c0, c1, c2, c3, c4, c5, c6, c7, c8, c9, c10, c11, c12, c13, c14, c15, c16, c17, rfl⟩
section
variable {H : Type} {enc : TypeId × Value -> H} {W : World} {sp : Nat -> Bool} {hd : Bool}
theorem cells3 : Tryz.prog.cellsOf 3 = 1 := by kernel_rfl
theorem cells2 : Tryz.prog.cellsOf 2 = 1 := by kernel_rfl
theorem cells4 : Tryz.prog.cellsOf 4 = 1 := by kernel_rfl
theorem cells9 : Tryz.prog.cellsOf 9 = 1 := by kernel_rfl
theorem cells23 : Tryz.prog.cellsOf 23 = 2 := by kernel_rfl
theorem cells25 : Tryz.prog.cellsOf 25 = 6 := by kernel_rfl
theorem cells27 : Tryz.prog.cellsOf 27 = 4 := by kernel_rfl
theorem cells29 : Tryz.prog.cellsOf 29 = 8 := by kernel_rfl
theorem cells30 : Tryz.prog.cellsOf 30 = 1 := by kernel_rfl
theorem cells32 : Tryz.prog.cellsOf 32 = 18 := by kernel_rfl
theorem rd3 {n : Nat} {cs : List Value} {x : DataW H × List MemPlace} (h : DataW.trod enc Tryz.prog W 0 sp hd n 3 cs = some x) : ∃ k, cs = [.int .i64 k] := let ⟨k, e, _⟩ := DataW.trod_int Tryz.underlying3 h; ⟨k, e⟩
theorem rd2r {n : Nat} {cs : List Value} {x : DataW H × List MemPlace} (h : DataW.trod enc Tryz.prog W 0 sp hd n 2 cs = some x) : ∃ k, cs = [.int .i64 k] /\ -9223372036854775808 <= k /\ k <= 9223372036854775807 := by
  obtain ⟨k, e, _, w⟩ := DataW.trod_int Tryz.underlying2 h
  refine ⟨k, e, ?_⟩
  have e0 : IntKind.i64.min = -9223372036854775808 := by decide
  have e1 : IntKind.i64.max = 9223372036854775807 := by decide
  simp only [Lit.wf, decide_eq_true_eq, Bool.and_eq_true] at w
  omega
theorem rd4 {n : Nat} {cs : List Value} {x : DataW H × List MemPlace} (h : DataW.trod enc Tryz.prog W 0 sp hd n 4 cs = some x) : ∃ b, cs = [.bool b] := let ⟨k, e, _⟩ := DataW.trod_bool Tryz.underlying4 h; ⟨k, e⟩
theorem rd9 {n : Nat} {cs : List Value} {x : DataW H × List MemPlace} (h : DataW.trod enc Tryz.prog W 0 sp hd n 9 cs = some x) : ∃ s : List UInt8, cs = [.string ⟨s.toArray⟩] := let ⟨k, e, _⟩ := DataW.trod_string Tryz.underlying9 h; ⟨k.data.toList, by simpa using e⟩
theorem at_some {α : Type} {xs : List α} {k i : Nat} (h : xs.length = k) (hi : i < k) : ∃ y, xs[i]? = some y := ⟨xs[i]'(by omega), List.getElem?_eq_getElem (by omega)⟩
theorem fld {α : Type} {xs : List α} {k i : Nat} {a : Option α} (h : xs.length = k) (hi : i < k) (e : a = xs[i]?) : ∃ y, a = some y := let ⟨y, hy⟩ := at_some h hi; ⟨y, e.trans hy⟩
theorem rd27 {n : Nat} {cs : List Value} {x : DataW H × List MemPlace} (h : DataW.trod enc Tryz.prog W 0 sp hd n 27 cs = some x) : ∃ r : Rf, cs = [.int .i64 r.row, .int .i64 r.col, .bool r.rr, .bool r.rc] := by
  obtain ⟨xs, n, rfl, rfl, hl, hx, hf⟩ := DataW.trod_struct Tryz.underlying27 h
  rw [cells27] at hl
  obtain ⟨c0, c1, c2, c3, rfl⟩ := l4 hl
  obtain ⟨y0, h0⟩ := fld hx (by decide) (hf 0 _ rfl)
  obtain ⟨y1, h1⟩ := fld hx (by decide) (hf 1 _ rfl)
  obtain ⟨y2, h2⟩ := fld hx (by decide) (hf 2 _ rfl)
  obtain ⟨y3, h3⟩ := fld hx (by decide) (hf 3 _ rfl)
  simp [cells3, cells4] at h0 h1 h2 h3
  obtain ⟨k0, e0⟩ := rd3 h0
  obtain ⟨k1, e1⟩ := rd3 h1
  obtain ⟨k2, e2⟩ := rd4 h2
  obtain ⟨k3, e3⟩ := rd4 h3
  simp at e0 e1 e2 e3
  subst e0 e1 e2 e3
  exact ⟨⟨k0, k1, k2, k3⟩, rfl⟩
theorem rd29 {n : Nat} {cs : List Value} {x : DataW H × List MemPlace} (h : DataW.trod enc Tryz.prog W 0 sp hd n 29 cs = some x) : ∃ a b : Rf, cs = [.int .i64 a.row, .int .i64 a.col, .bool a.rr, .bool a.rc, .int .i64 b.row, .int .i64 b.col, .bool b.rr, .bool b.rc] := by
  obtain ⟨xs, n, rfl, rfl, hl, hx, hf⟩ := DataW.trod_struct Tryz.underlying29 h
  rw [cells29] at hl
  obtain ⟨c0, c1, c2, c3, c4, c5, c6, c7, rfl⟩ := l8 hl
  obtain ⟨y0, h0⟩ := fld hx (by decide) (hf 0 _ rfl)
  obtain ⟨y1, h1⟩ := fld hx (by decide) (hf 1 _ rfl)
  simp [cells27] at h0 h1
  obtain ⟨a, e0⟩ := rd27 h0
  obtain ⟨b, e1⟩ := rd27 h1
  simp at e0 e1
  obtain ⟨rfl, rfl, rfl, rfl⟩ := e0
  obtain ⟨rfl, rfl, rfl, rfl⟩ := e1
  exact ⟨a, b, rfl⟩
theorem rd23 {n : Nat} {cs : List Value} {x : DataW H × List MemPlace} (h : DataW.trod enc Tryz.prog W 0 sp hd n 23 cs = some x) : ∃ m s, cs = [.int .i64 m, .int .i64 s] /\ -9223372036854775808 <= m /\ m <= 9223372036854775807 := by
  obtain ⟨xs, n, rfl, rfl, hl, hx, hf⟩ := DataW.trod_struct Tryz.underlying23 h
  rw [cells23] at hl
  obtain ⟨c0, c1, rfl⟩ := l2 hl
  obtain ⟨y0, h0⟩ := fld hx (by decide) (hf 0 _ rfl)
  obtain ⟨y1, h1⟩ := fld hx (by decide) (hf 1 _ rfl)
  simp [cells2, cells3] at h0 h1
  obtain ⟨a, e0, er⟩ := rd2r h0
  obtain ⟨b, e1⟩ := rd3 h1
  simp at e0 e1
  subst e0 e1
  exact ⟨a, b, rfl, er⟩
theorem rd25 {n : Nat} {cs : List Value} {x : DataW H × List MemPlace} (h : DataW.trod enc Tryz.prog W 0 sp hd n 25 cs = some x) : ∃ v : Vl, cs = [.int .i64 v.kind, .int .i64 v.m, .int .i64 v.s, .string ⟨v.txt.toArray⟩, .bool v.b, .int .i64 v.e] /\ -9223372036854775808 <= v.m /\ v.m <= 9223372036854775807 := by
  obtain ⟨xs, n, rfl, rfl, hl, hx, hf⟩ := DataW.trod_struct Tryz.underlying25 h
  rw [cells25] at hl
  obtain ⟨c0, c1, c2, c3, c4, c5, rfl⟩ := l6 hl
  obtain ⟨y0, h0⟩ := fld hx (by decide) (hf 0 _ rfl)
  obtain ⟨y1, h1⟩ := fld hx (by decide) (hf 1 _ rfl)
  obtain ⟨y2, h2⟩ := fld hx (by decide) (hf 2 _ rfl)
  obtain ⟨y3, h3⟩ := fld hx (by decide) (hf 3 _ rfl)
  obtain ⟨y4, h4⟩ := fld hx (by decide) (hf 4 _ rfl)
  simp [cells3, cells23, cells9, cells4] at h0 h1 h2 h3 h4
  obtain ⟨k0, e0⟩ := rd3 h0
  obtain ⟨k1, k1', e1, er⟩ := rd23 h1
  obtain ⟨k2, e2⟩ := rd9 h2
  obtain ⟨k3, e3⟩ := rd4 h3
  obtain ⟨k4, e4⟩ := rd3 h4
  simp at e0 e1 e2 e3 e4
  obtain ⟨rfl, rfl⟩ := e1
  subst e0 e2 e3 e4
  exact ⟨⟨k0, k1, k1', k2, k3, k4⟩, rfl, er⟩
theorem cells_at {W : World} {a : Addr} {n : Nat} {cs : List Value} (h : W.cells? 0 a n = some cs) (hn : 0 < n) : a.spot = none /\ cs.length = n /\ ∃ c el fr, W.heap[a.block]? = some (.cells c el fr) /\ ∀ j u, cs[j]? = some u -> c[a.off + j]? = some u := by
  unfold World.cells? at h
  rw [if_pos (Nat.zero_le _)] at h
  have hlen : cs.length = n := by have := mapM_some_length h; simpa using this
  have hget : ∀ i, i < n -> W.cell? (a.add i) = cs[i]? := fun i hi => mapM_some_get h i i (by simp [hi])
  have h0 := hget 0 hn
  have hs : a.spot = none /\ ∃ c el fr, W.heap[a.block]? = some (.cells c el fr) := by
    obtain ⟨u, hu⟩ := at_some hlen hn
    rw [hu] at h0
    simp only [Addr.add, if_true, World.cell?] at h0
    split at h0
    · rename_i c el fr hc
      split at h0
      · cases h0
      · rename_i hh; exact ⟨by simpa using hh, c, el, fr, hc⟩
    · cases h0
  obtain ⟨hs, c, el, fr, hc⟩ := hs
  refine ⟨hs, hlen, c, el, fr, hc, fun j u hj => ?_⟩
  have hj' : j < n := by rw [← hlen]; exact (List.getElem?_eq_some_iff.1 hj).1
  have := hget j hj'
  rw [hj] at this
  unfold Addr.add at this
  split at this
  · rename_i e; subst e
    simp only [World.cell?, hc, hs] at this
    simpa using this
  · simp only [World.cell?, hc] at this
    simpa using this
theorem ments_encs : ∀ ts : List Tr, mentsL (Tr.encs ts) = []
  | [] => rfl
  | t :: ts => by
    have h1 : (Tr.enc t).ments = [] := by rw [Tr.enc_eq]; rfl
    simp only [Tr.encs, mentsL, h1, ments_encs ts, List.append_nil]
theorem choose_list {P : Nat -> Tr -> Prop} : ∀ (n : Nat), (∀ i, i < n -> ∃ t, P i t) -> ∃ ts : List Tr, ts.length = n /\ ∀ i, i < n -> P i (ts.getD i default)
  | 0, _ => ⟨[], rfl, fun i hi => by omega⟩
  | n + 1, h => by
    obtain ⟨ts, h1, h2⟩ := choose_list n fun i hi => h i (by omega)
    obtain ⟨t, ht⟩ := h n (by omega)
    refine ⟨ts ++ [t], by simp [h1], fun i hi => ?_⟩
    rw [List.getD_eq_getElem?_getD]
    by_cases e : i < n
    · rw [List.getElem?_append_left (by omega), ← List.getD_eq_getElem?_getD]; exact h2 i e
    · have : i = n := by omega
      subst this
      rw [List.getElem?_append_right (by omega), h1]
      simpa using ht
set_option maxHeartbeats 1000000 in
theorem rd32r (ρ : Rho) : ∀ (n : Nat) (cs : List Value) (x : DataW H × List MemPlace), DataW.trod enc Tryz.prog W 0 sp hd n 32 cs = some x -> ∃ t : Tr, VRL ρ (allM W) t.cells cs /\ cs.length = 18 /\ (∀ u ∈ cs, u.oneCell' = true) /\ rngT t := by
  intro n
  induction n with
  | zero => intro cs x h; simp [DataW.trod] at h
  | succ n0 ih =>
  intro cs x h
  obtain ⟨xs, n, hn, rfl, hl, hx, hf⟩ := DataW.trod_struct Tryz.underlying32 h
  obtain rfl : n0 = n := by omega
  rw [cells32] at hl
  obtain ⟨c0, c1, c2, c3, c4, c5, c6, c7, c8, c9, c10, c11, c12, c13, c14, c15, c16, c17, rfl⟩ := l18 hl
  obtain ⟨y0, h0⟩ := fld hx (by decide) (hf 0 _ rfl)
  obtain ⟨y1, h1⟩ := fld hx (by decide) (hf 1 _ rfl)
  obtain ⟨y2, h2⟩ := fld hx (by decide) (hf 2 _ rfl)
  obtain ⟨y3, h3⟩ := fld hx (by decide) (hf 3 _ rfl)
  obtain ⟨y4, h4⟩ := fld hx (by decide) (hf 4 _ rfl)
  obtain ⟨y5, h5⟩ := fld hx (by decide) (hf 5 _ rfl)
  simp [cells3, cells25, cells29, cells30] at h0 h1 h2 h3 h4 h5
  obtain ⟨k0, e0⟩ := rd3 h0
  obtain ⟨v, e1, er⟩ := rd25 h1
  obtain ⟨a, b, e2⟩ := rd29 h2
  obtain ⟨k3, e3⟩ := rd3 h3
  obtain ⟨k4, e4⟩ := rd3 h4
  simp at e0 e1 e2 e3 e4
  obtain ⟨rfl, rfl, rfl, rfl, rfl, rfl⟩ := e1
  obtain ⟨rfl, rfl, rfl, rfl, rfl, rfl, rfl, rfl⟩ := e2
  subst e0 e3 e4
  have hk : ∃ ts : List Tr, VR ρ (allM W) (.psl 18 (Tr.encs ts)) c17 /\ c17.oneCell' = true /\ rngTs ts := by
    rcases DataW.trod_slice Tryz.underlying30 h5 with ⟨e5, _⟩ | ⟨ad, len, cap, elems, rest, n', _, e5, _, _, hlc, _, hlen, hel, _, _⟩
    · simp at e5; subst e5
      refine ⟨[], ?_, rfl, trivial⟩
      simp only [VR]
      exact ⟨none, 0, Nat.le_refl _, rfl, rfl, .inl rfl⟩
    · simp at e5; subst e5
      have hP : ∀ i, i < len -> ∃ t : Tr, ∃ cs', W.cells? 0 (ad.add (i * 18)) 18 = some cs' /\ VRL ρ (allM W) t.cells cs' /\ cs'.length = 18 /\ (∀ u ∈ cs', u.oneCell' = true) /\ rngT t := by
        intro i hi
        obtain ⟨y, hy⟩ := at_some hlen hi
        have := (hel i hi).trans hy
        rw [cells32] at this
        obtain ⟨cs', k1, k2⟩ := Option.bind_eq_some_iff.1 this
        obtain ⟨t, q1, q2, q3, q4⟩ := ih cs' y (DataW.trod_le (by omega) k2)
        exact ⟨t, cs', k1, q1, q2, q3, q4⟩
      obtain ⟨ts, htl, hts⟩ := choose_list len hP
      have hel' : (Tr.encs ts).length = len := by rw [Tr.encs_eq, List.length_map, htl]
      refine ⟨ts, ?_, rfl, rngTs_of fun x hx => ?_⟩
      rotate_left
      · obtain ⟨i, hi, rfl⟩ := List.mem_iff_getElem.1 hx
        obtain ⟨_, _, _, _, _, q⟩ := hts i (by omega)
        rwa [List.getD_eq_getElem?_getD, List.getElem?_eq_getElem hi] at q
      simp only [VR]
      refine ⟨some ad, cap, by omega, by rw [hel'], ments_encs ts, ?_⟩
      cases len with
      | zero =>
        have : ts = [] := List.length_eq_zero_iff.1 htl
        subst this
        exact .inl rfl
      | succ len =>
        right
        obtain ⟨cs0, k1, k2, k3, k4, _⟩ := hts 0 (by omega)
        have hz : ad.add (0 * 18) = ad := by simp [Addr.add]
        rw [hz] at k1
        obtain ⟨hs, _, c, el, fr, hc, _⟩ := cells_at k1 (by omega)
        have hm : (allM W) ad.block = some c := by simp [allM, hc]
        refine ⟨ad.block, ad.off, c, hm, by cases ad; simp at hs; simp [hs], VRE.of_get fun i x hx => ?_⟩
        have hi : i < len + 1 := by rw [← hel']; exact (List.getElem?_eq_some_iff.1 hx).1
        obtain ⟨cs', q1, q2, q3, q4, _⟩ := hts i hi
        have hx' : x = (ts.getD i default).dv := by
          have := Tr.encs_get (l := ts) (i := i) (by omega)
          rw [this] at hx
          exact (Option.some.inj hx).symm
        subst hx'
        obtain ⟨_, _, c2, el2, fr2, hc2, hcells⟩ := cells_at q1 (by omega)
        have hb : (ad.add (i * 18)).block = ad.block := by unfold Addr.add; split <;> rfl
        have ho : (ad.add (i * 18)).off = ad.off + i * 18 := by
          unfold Addr.add
          split
          · rename_i e; omega
          · rfl
        rw [hb, hc] at hc2
        cases hc2
        refine ⟨.agg cs'.toArray, ?_, by simp [Value.cells, q3], by simpa [Value.cells] using q4, fun j u hj => ?_⟩
        · simp only [Tr.dv, VR]
          exact ⟨cs'.toArray, rfl, by simpa using q2, by simpa using q4⟩
        · rw [← ho]
          exact hcells j u (by simpa [Value.cells] using hj)
  obtain ⟨ts, hts, hone, hrg⟩ := hk
  refine ⟨.mk k0 v a b k3 k4 ts, ?_, rfl, ?_, ⟨er, hrg⟩⟩
  · simp only [Tr.cells, Tr.cellsK, Tr.kind, Tr.v, Tr.a, Tr.b, Tr.sheet, Tr.op, Tr.kids, VRL]
    refine ⟨_, _, rfl, by simp only [VR], _, _, rfl, by simp only [VR], _, _, rfl, by simp only [VR], _, _, rfl, by simp only [VR], _, _, rfl, by simp only [VR], _, _, rfl, by simp only [VR], _, _, rfl, by simp only [VR], _, _, rfl, by simp only [VR], _, _, rfl, by simp only [VR], _, _, rfl, by simp only [VR], _, _, rfl, by simp only [VR], _, _, rfl, by simp only [VR], _, _, rfl, by simp only [VR], _, _, rfl, by simp only [VR], _, _, rfl, by simp only [VR], _, _, rfl, by simp only [VR], _, _, rfl, by simp only [VR], _, _, rfl, hts, rfl⟩
  · intro u hu
    simp at hu
    rcases hu with rfl | rfl | rfl | rfl | rfl | rfl | rfl | rfl | rfl | rfl | rfl | rfl | rfl | rfl | rfl | rfl | rfl | rfl <;> first | rfl | exact hone
end
end Go.Det.Sea
end

section
namespace Go.Det.Sea
open Go Go.Det Go.Proofs Go.ChangeShapes Go.WideShapes Go.ChangeAt Go.RowKit
section
variable {H : Type} {enc : TypeId × Value -> H} {W W' : World}
theorem laidOut : laidOutB Tryz.prog = true := by kernel_rfl
theorem mapsRow : mapsRowed Tryz.prog = true := by kernel_rfl
theorem slicesB : ((List.range Tryz.prog.types.size).all fun t => match Tryz.prog.underlying t with
  | some (.slice e) => Nat.ble 1 (Tryz.prog.cellsOf e)
  | _ => true) = true := by kernel_rfl
theorem slices_pos {t e : TypeId} (ht : t < Tryz.prog.types.size) (hu : Tryz.prog.underlying t = some (.slice e)) : 0 < Tryz.prog.cellsOf e := by
  have := List.all_eq_true.1 slicesB t (List.mem_range.2 ht)
  rw [hu] at this
  exact Nat.le_of_ble_eq_true this
theorem evo_same (e : Evo [] W W') {p : MemPlace} (hp : p.block < W.heap.size) : W.sameAt W' p := by
  cases p with
  | cell b off => exact World.cell?_of_block (e.keep b hp (by simp))
  | map b => exact e.keep b hp (by simp)
theorem all_stays (e : Evo [] W W') {sp : Nat -> Bool} : ∀ {ts : List TypeId} {vs : List Value} {ds : List (DataW H)} {ps : List MemPlace}, (∀ t ∈ ts, t < Tryz.prog.types.size) -> DataW.TrodAll enc Tryz.prog W 0 (fun _ => true) true ts vs ds ps -> 
    (∀ p ∈ ps, p.block < W.heap.size /\ sp p.block = true) -> DataW.TrodAll enc Tryz.prog W' 0 sp true ts vs ds ps
  | [], vs, ds, ps, _, h, _ => by
    obtain ⟨rfl, rfl, rfl⟩ := trodAll_nil h
    exact trodAll_mk0
  | t :: ts, vs, ds, ps, ht, h, hp => by
    obtain ⟨v, vs', d, ds', p, q, rfl, rfl, rfl, ⟨n, h0⟩, hs⟩ := trodAll_cons h
    refine trodAll_cons_mk ⟨n, ?_⟩ (all_stays e (fun t h => ht t (List.mem_cons_of_mem _ h)) hs fun p hp' => hp p (List.mem_append_right _ hp'))
    exact DataW.trod_stays (kids_rows laidOut mapsRow) (fun h1 h2 => slices_pos h1 h2) (fun h => by cases h) (ht t List.mem_cons_self) h0
      (fun p' hp' => evo_same e (hp p' (List.mem_append_left _ hp')).1) fun p' hp' => (hp p' (List.mem_append_left _ hp')).2
theorem evo_kept (e : Evo [] W W') (may : MemPlace -> Prop) : W.keptBut W' may := by
  refine ⟨e.os, e.output, fun i hi => ?_⟩
  rw [e.keep i hi (by simp)]
  cases h : W.heap[i]? with
  | none => simp
  | some o => cases o <;> simp
theorem post_evo {f : Func} {s : ChangeSpec} {args : Array Value} {ds gs : List (DataW H)} {before : List MemPlace} (hv : s.vars = []) (hfn : ∀ ds : List (DataW H), ds.length = f.params.size -> (s.fn H ds).results = [.lit (.bool true)] /\ (s.fn H ds).args = ds /\ (s.fn H ds).vars = [])
    (hres : f.resultTypes = #[4]) (hpt : ∀ t ∈ f.params.toList, t < Tryz.prog.types.size) (hW : DataW.Whole enc Tryz.prog f.params.toList s.vars false W args.toList ds gs before) (hl : ds.length = f.params.size) (e : Evo [] W W') :
    s.post enc Tryz.prog f false true false false W args (.bool true) W' := by
  have hlt := hW.lt
  obtain ⟨p, q, hA, hV, rfl, hz, hn⟩ := id hW
  rw [hv] at hV
  obtain ⟨rfl, rfl⟩ := trodVars_none hV
  obtain ⟨h1, h2, h3⟩ := hfn ds hl
  rw [List.append_nil] at hlt
  refine ⟨ds, [], _, [], p, [], hW, ?_, ?_, ?_, evo_kept e _, fun h => by cases h⟩
  · rw [List.append_nil, h1, hres]
    exact trodAll_mk1 (shut_bool Tryz.underlying4 true)
  · rw [List.append_nil, h2]
    exact all_stays e hpt hA fun p hp => ⟨hlt p hp, by simpa using hlt p hp⟩
  · rw [List.append_nil, h3, hv]
    exact rfl
end
end Go.Det.Sea
end

section
namespace Go.Det.Sea
open Go Go.Det Go.Proofs Go.ChangeShapes Go.WideShapes Go.ChangeAt Go.RowKit Go.Proofs.YtpfjeinhmmmhkaaGreatDoor
theorem own : ownKnob Tryz.prog.godebug = none := by kernel_rfl
def zeroExpr : Value := .agg #[.int .i64 0, .int .i64 0, .int .i64 0, .int .i64 0, .string ⟨#[]⟩, .bool false, .int .i64 0, .int .i64 0, .int .i64 0, .bool false, .bool false, .int .i64 0, .int .i64 0, .bool false, .bool false, .int .i64 0, .int .i64 0, .slice none 0 0]
namespace TextStrips
end TextStrips
end Go.Det.Sea
end

section
namespace Go.Det
mutual
theorem Tr.pre_len : ∀ (t : Tr) (d : Int), (t.pre d).length = t.count
  | .mk k v a b s o ks, d => by simp [Tr.pre, Tr.count, Tr.pres_len ks, Nat.add_comm]
theorem Tr.pres_len : ∀ (l : List Tr) (d : Int), (Tr.pres l d).length = Tr.counts l
  | [], _ => rfl
  | t :: l, d => by simp [Tr.pres, Tr.counts, Tr.pre_len t, Tr.pres_len l]
end
end Go.Det
namespace Go.Det.Sea
open Go Go.Det Go.Proofs Go.ChangeShapes Go.WideShapes Go.ChangeAt Go.RowKit Go.Proofs.YtpfjeinhmmmhkaaGreatDoor
theorem maxLen3 {W : World} (h : W.ShapedOpen Tryz.prog) : ∃ (m : Int) (t : TypeId) (fr : Nat × Nat), W.heap[3]? = some (.cells #[.int .i64 m] t fr) := by
  have h0 : ((begin Tryz.prog (fun _ _ => 0) default).world.heap[3]?).bind Obj.row? = some (#[.int .i64 0], 3) := by kernel_rfl
  have hs : 3 < Tryz.prog.globals.size := Nat.le_of_ble_eq_true (show Nat.ble 4 Tryz.prog.globals.size = true by kernel_rfl)
  obtain ⟨m, hm⟩ := cell_of_shapedOpen_int h hs h0 rfl (by kernel_rfl) (by kernel_rfl) Tryz.underlying3
  obtain ⟨cs, hc, hz, _⟩ := h.1 3 _ _ hs h0
  refine ⟨m, 3, (0, 0), ?_⟩
  rw [hc]
  simp only [World.cell?, hc] at hm
  have h1 : cs[0]? = some (.int .i64 m) := by simpa using hm
  have : cs = #[.int .i64 m] := by
    obtain ⟨l⟩ := cs
    match l, hz, h1 with
    | [x], _, h1 => simp at h1; subst h1; rfl
  rw [this]
namespace TextStrips
section
variable {H : Type} (enc : TypeId × Value -> H)
end
end TextStrips
end Go.Det.Sea
end
