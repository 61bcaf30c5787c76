/- TextMovesCardSaid: part 34 of the texts behind it: Top8. No premise of its own. -/
import Derived.Test.YtpfjeinhmmmhkaaGreatDoorD33
set_option linter.all false
section
namespace Go.Det.Sea
open Go Go.Det Go.Proofs Go.ChangeShapes Go.WideShapes Go.ChangeAt Go.RowKit Go.Proofs.YtpfjeinhmmmhkaaGreatDoor
def zeroCell : Value := .agg #[.int .i64 0, .int .i64 0]
namespace TextMoves
theorem laid4 {W : World} (h : laidMetH Tryz.prog Rows.textMovesRow.laid W) : Laid4 W :=
  laid4_of h (by kernel_rfl)
    (List.mem_of_getElem? (i := 6) (show Rows.textMovesRow.laid[6]? = some ("unicode/utf8.first", Lib.firstData) by kernel_rfl))
    (List.mem_of_getElem? (i := 3) (show Rows.textMovesRow.laid[3]? = some ("unicode/utf8.acceptRanges", Lib.acceptData) by kernel_rfl))
    (List.mem_of_getElem? (i := 2) (show Rows.textMovesRow.laid[2]? = some ("internal/strconv.uint64pow10", Lib.tabData .u64 Lib.pow10Tab) by kernel_rfl))
section
variable {H : Type} (enc : TypeId × Value -> H)
set_option maxRecDepth 100000 in
theorem contractG (W W0 : World) (base : Nat) (args : Array Value) (ds gs : List (DataW H)) (before : List MemPlace) (e0 : W0.heap = W.heap) (hX : laidMetH Tryz.prog Rows.textMovesRow.laid W0)
    (hval : ∀ (j : Nat) t v, Tryz.f5.params[j]? = some t -> args[j]? = some v -> Value.okWide Tryz.prog W .any base t v)
    (hW : DataW.Whole enc Tryz.prog Tryz.f5.params.toList Rows.textMovesSpec.vars false W args.toList ds gs before) (hsh : W.ShapedOpen Tryz.prog) :
    Calls Tryz.prog 5 args W fun e W' => ∃ v, e = .returned v /\ Rows.textMovesSpec.post enc Tryz.prog Tryz.f5 false true false false W args v W' := by
  have hW' := hW
  obtain ⟨p, q, hA0, hV, rfl, _, _⟩ := hW
  have hA : DataW.TrodAll enc Tryz.prog W 0 (fun _ => true) true Tryz.f5.params.toList args.toList ds p := hA0
  rw [Tryz.params5] at hA hval
  obtain ⟨v1, r1, d1, ds1, p1, q1, ha1, rfl, rfl, ⟨n1, h1⟩, hA⟩ := trodAll_cons hA
  obtain ⟨v2, r2, d2, ds2, p2, q2, rfl, rfl, rfl, ⟨n2, h2⟩, hA⟩ := trodAll_cons hA
  obtain ⟨v3, r3, d3, ds3, p3, q3, rfl, rfl, rfl, ⟨n3, h3⟩, hA⟩ := trodAll_cons hA
  obtain ⟨rfl, rfl, rfl⟩ := trodAll_nil hA
  have hargs2 : args = #[v1, v2, v3] := by cases args; simp_all
  subst hargs2
  obtain ⟨cs1, rfl, _⟩ := okWide_struct Tryz.underlying32 (hval 0 32 v1 (by simp) (by simp))
  obtain ⟨cs2, rfl, _⟩ := okWide_struct Tryz.underlying34 (hval 1 34 v2 (by simp) (by simp))
  obtain ⟨cs3, rfl, _⟩ := okWide_struct Tryz.underlying34 (hval 2 34 v3 (by simp) (by simp))
  obtain ⟨t, k1, k2, k3, hr⟩ := rd32r (fun _ => none) n1 _ _ h1
  obtain ⟨ra, ca, e2⟩ := rd34 h2
  obtain ⟨rb, cb, e3⟩ := rd34 h3
  have hx : VRL (fun _ => none) (allM W) [t.dv, cel ra ca, cel rb cb] [.agg cs1, .agg cs2, .agg cs3] := by
    have a1 : VR (fun _ => none) (allM W) t.dv (.agg cs1) := by
      simp only [Tr.dv, VR]
      exact ⟨cs1, rfl, by simpa [Value.cells] using k1, by simpa [Value.cells] using k3⟩
    have a2 := cell_vr (m := allM W) ra ca cs2 (by simpa [Value.cells] using e2)
    have a3 := cell_vr (m := allM W) rb cb cs3 (by simpa [Value.cells] using e3)
    simp only [VRL]
    exact ⟨_, _, rfl, a1, _, _, rfl, a2, _, _, rfl, a3, rfl⟩
  refine (calls_evoH hsh e0 (laid4 hX) (fun n => callOK t hr ra ca rb cb n) hx).mono ?_
  rintro e W' ⟨v', m', rfl, hv, he⟩
  simp only [VR] at hv
  subst hv
  refine ⟨_, rfl, post_evo (gs := gs) rfl (fun ds hl => ?_) (by kernel_rfl) (fun t ht => ?_) hW' (by rw [Tryz.params5]; rfl) he⟩
  · rw [Tryz.params5] at hl
    match ds, hl with
    | [d1, d2, d3], _ => exact ⟨rfl, rfl, rfl⟩
  · rw [Tryz.params5] at ht
    have : t = 32 \/ t = 34 := by simpa using ht
    rcases this with rfl | rfl
    · exact Nat.le_of_ble_eq_true (show Nat.ble 33 Tryz.prog.types.size = true by kernel_rfl)
    · exact Nat.le_of_ble_eq_true (show Nat.ble 35 Tryz.prog.types.size = true by kernel_rfl)
end
theorem laid_met (os : Os) (args : Array Value) : laidMetH Tryz.prog Rows.textMovesRow.laid ((World.laidAll Tryz.prog os Rows.textMovesRow.laid).forCall (fun _ _ => 0) ⟨#[], args, []⟩).memory := by
  rw [MakeChecks.laidMetH_plain _ _ _ (by kernel_rfl)]
  exact laidMet_laidAll _ (by kernel_rfl) (by kernel_rfl)
theorem laid_shaped (os : Os) : (World.laidAll Tryz.prog os Rows.textMovesRow.laid).Shaped Tryz.prog := World.shaped_of_ZipB (by kernel_rfl) (by kernel_rfl)
set_option maxRecDepth 100000 in
theorem liftedG (os : Os) (started : os.Started) (H : Type) (enc : TypeId × Value -> H) :
    ReturnsInHanded {} Tryz.checked os 5 .any (fun w args => (Rows.textMovesSpec.pre enc Tryz.prog Tryz.f5 [] false w args /\ laidMetH Tryz.prog Rows.textMovesRow.laid w) /\ sizedMet enc Tryz.prog Tryz.f5 (OpenSpec.ofChange Rows.textMovesSpec) false w args)
      (Rows.textMovesSpec.post enc Tryz.prog Tryz.f5 false true false false) := by
  refine returns_laid (C := Tryz.checked) (X := fun w _ => laidMetH Tryz.prog Rows.textMovesRow.laid w) own started (by kernel_rfl) Tryz.func5
    (ChangeSpec.witness_shaped (enc := enc) (C := Tryz.checked) (os := os) (X := fun w _ => laidMetH Tryz.prog Rows.textMovesRow.laid w) false (World.laidAll Tryz.prog os Rows.textMovesRow.laid) #[zeroExpr, zeroCell, zeroCell] 8 (World.laidAll_os _ _ _)
      (laid_shaped os) (by kernel_rfl) (by kernel_rfl) (by kernel_rfl) (laid_met os _)) ?_
  intro W W0 base args ds gs before e0 hX hval0 hW hsh
  exact contractG enc W W0 base args ds gs before e0 hX hval0 hW hsh
theorem plain (f : FuncId) (fn : Func) (hf : Tryz.pinned.checked.prog.funcNamed "cashbook/cashbooklaw13.TextMoves" = some f) (hfn : Tryz.pinned.checked.prog.funcs[f]? = some fn) :
    true = Tryz.pinned.checked.prog.looks [] /\ ∀ (j : Nat) t, fn.params[j]? = some t -> Tryz.pinned.checked.prog.wantsStandIn t = false := by
  obtain rfl : f = 5 := Option.some.inj ((show Tryz.prog.funcNamed "cashbook/cashbooklaw13.TextMoves" = some 5 by kernel_rfl).symm.trans hf) |>.symm
  obtain rfl : fn = Tryz.f5 := (Option.some.inj (Tryz.func5.symm.trans hfn)).symm
  refine ⟨by kernel_rfl, fun j t ht => ?_⟩
  rw [Tryz.params5] at ht
  have : t = 32 \/ t = 34 := by
    have := Array.mem_of_getElem? ht
    simpa using this
  rcases this with rfl | rfl
  · exact (show Tryz.prog.wantsStandIn 32 = false by kernel_rfl)
  · exact (show Tryz.prog.wantsStandIn 34 = false by kernel_rfl)
set_option maxRecDepth 100000 in
theorem said' : Rows.TextMovesSaid :=
  OpenClaim.holds_of_wide 5 Tryz.f5 rfl rfl rfl rfl rfl rfl rfl ⟨rfl, rfl, rfl, rfl, rfl⟩ rfl rfl rfl rfl rfl (by kernel_rfl) Tryz.func5 (by kernel_rfl)
    (of_decide_eq_true (by kernel_rfl)) (by unfold Func.isWrapper; first | (rw [if_pos (by decide +kernel)]; kernel_rfl) | (rw [if_neg (by decide +kernel)]; exact ⟨rfl, rfl⟩))
    (fun os started H enc _ => liftedG os started H enc)
theorem card' : Rows.TextMovesCardSaid :=
  Claim7.holds_tied_plain_at .later [] _ _ _ _ said' (fun _ h => by cases h) (by kernel_rfl) (fun _ h => by cases h) textMoves_row_tie rfl ⟨rfl, rfl⟩ (by kernel_rfl) rfl plain (by kernel_rfl)
end TextMoves
end Go.Det.Sea
end
