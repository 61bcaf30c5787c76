/- TextMovesCardSaid: part 29 of the texts behind it: Top7. No premise of its own. -/
import Derived.Test.YtpfjeinhmmmhkaaGreatDoorD28
import Derived.Lib.LaidU8T
set_option linter.all false
section
namespace Go.Det.Sea
open Go Go.Det Go.Proofs Go.ChangeShapes Go.WideShapes Go.ChangeAt Go.RowKit Go.Proofs.YtpfjeinhmmmhkaaGreatDoor
theorem heap_of_var {W : World} {nm : String} {g : Nat} {cs : Array Value} (hg : Tryz.prog.globalNamed nm = some g) (h : W.var? Tryz.prog nm = some cs) : ∃ el fr, W.heap[g]? = some (.cells cs el fr) := by
  unfold World.var? at h
  rw [hg] at h
  simp only [Option.bind_some] at h
  split at h
  · rename_i c el fr hc
    obtain rfl := Option.some.inj h
    exact ⟨el, fr, hc⟩
  · cases h
theorem int_ments (k : IntKind) : ∀ zs : List Int, mentsL (zs.map (DV.int k)) = []
  | [] => rfl
  | z :: zs => by simp only [List.map_cons, mentsL, DV.ments, int_ments k zs, List.nil_append]
theorem glob_at {W : World} {g : Nat} {k : IntKind} {zs : List Int} {el : TypeId} {fr : Nat × Nat} (h : W.heap[g]? = some (.cells (zs.map (Value.int k)).toArray el fr)) :
    ∃ c, allM W g = some c /\ VRL (fun _ => none) (allM W) (zs.map (DV.int k)) c.toList /\ mentsL (zs.map (DV.int k)) = [] /\ ∀ u ∈ c.toList, u.oneCell' = true := by
  refine ⟨(zs.map (Value.int k)).toArray, by simp only [allM, h], ?_, int_ments k zs, ?_⟩
  · simpa using vrl_ints' zs
  · intro u hu
    simp only [List.mem_map] at hu
    obtain ⟨z, _, rfl⟩ := hu
    rfl
theorem globOK_H {W : World} {n : Int} {t0 t1 t2 t3 : TypeId} {f0 f1 f2 f3 : Nat × Nat} (h0 : W.heap[0]? = some (.cells (firstZ.map (Value.int .u8)).toArray t0 f0)) (h1 : W.heap[1]? = some (.cells (accZ.map (Value.int .u8)).toArray t1 f1))
    (h2 : W.heap[2]? = some (.cells (Lib.pow10Tab.map (Value.int .u64)).toArray t2 f2)) (h3 : W.heap[3]? = some (.cells #[.int .i64 n] t3 f3)) : GlobOK (cfgH n) (allM W) := by
  intro g cs hg
  have hg' : globH n g = some cs := hg
  unfold globH at hg'
  cases b0 : Nat.beq g 0 with
  | true =>
    rw [b0] at hg'
    simp only [cond_true, Option.some.injEq] at hg'
    obtain rfl := Nat.eq_of_beq_eq_true b0
    subst hg'
    exact glob_at h0
  | false =>
    rw [b0] at hg'
    simp only [cond_false] at hg'
    cases b1 : Nat.beq g 1 with
    | true =>
      rw [b1] at hg'
      simp only [cond_true, Option.some.injEq] at hg'
      obtain rfl := Nat.eq_of_beq_eq_true b1
      subst hg'
      exact glob_at h1
    | false =>
      rw [b1] at hg'
      simp only [cond_false] at hg'
      cases b2 : Nat.beq g 2 with
      | true =>
        rw [b2] at hg'
        simp only [cond_true, Option.some.injEq] at hg'
        obtain rfl := Nat.eq_of_beq_eq_true b2
        subst hg'
        exact glob_at h2
      | false =>
        rw [b2] at hg'
        simp only [cond_false] at hg'
        cases b3 : Nat.beq g 3 with
        | true =>
          rw [b3] at hg'
          simp only [cond_true, Option.some.injEq] at hg'
          obtain rfl := Nat.eq_of_beq_eq_true b3
          subst hg'
          exact glob_at (zs := [n]) (k := .i64) h3
        | false => rw [b3] at hg'; cases hg'
structure Laid4 (W : World) : Prop where
  first : Lib.VarReads Tryz.prog W "unicode/utf8.first" Lib.firstData
  acc : Lib.VarReads Tryz.prog W "unicode/utf8.acceptRanges" Lib.acceptData
  pow : Lib.VarReads Tryz.prog W "internal/strconv.uint64pow10" (Lib.tabData .u64 Lib.pow10Tab)
theorem laid_first {W : World} (h : Laid4 W) : ∃ el fr, W.heap[0]? = some (.cells (firstZ.map (Value.int .u8)).toArray el fr) := by
  obtain ⟨g, t, cs, fuel, p, hg, hty, hvar, hd⟩ := h.first
  obtain rfl := Option.some.inj (Tryz.u8extra.n3.symm.trans hg)
  obtain rfl := Option.some.inj (Tryz.u8extra.y3.symm.trans hty)
  have hcs := Lib.cells_of_tab Tryz.u8types.t119 Tryz.u8types.t5 Tryz.u8extra.c5 Tryz.u8extra.c119 hd
  have : cs = (firstZ.map (Value.int .u8)).toArray := by
    rw [show firstZ = Lib.firstTab from rfl]
    cases cs; simpa using hcs
  subst this
  exact heap_of_var Tryz.u8extra.n3 hvar
theorem laid_pow {W : World} (h : Laid4 W) : ∃ el fr, W.heap[2]? = some (.cells (Lib.pow10Tab.map (Value.int .u64)).toArray el fr) := by
  obtain ⟨g, t, cs, fuel, p, hg, hty, hvar, hd⟩ := h.pow
  have hn : Tryz.prog.globalNamed "internal/strconv.uint64pow10" = some 2 := by kernel_rfl
  have hy : (Tryz.prog.globals[2]?).map (·.type) = some 241 := by kernel_rfl
  obtain rfl := Option.some.inj (hn.symm.trans hg)
  obtain rfl := Option.some.inj (hy.symm.trans hty)
  have hcs := Lib.cells_of_tab (n := 20) (e := 201) (k := .u64) (show Tryz.prog.underlying 241 = some (.array 20 201) by kernel_rfl) (show Tryz.prog.underlying 201 = some (.int .u64) by kernel_rfl) (show Tryz.prog.cellsOf 201 = 1 by kernel_rfl) (show Tryz.prog.cellsOf 241 = 20 by kernel_rfl) hd
  have : cs = (Lib.pow10Tab.map (Value.int .u64)).toArray := by cases cs; simpa using hcs
  subst this
  exact heap_of_var hn hvar
theorem laid_acc {W : World} (h : Laid4 W) : ∃ el fr, W.heap[1]? = some (.cells (accZ.map (Value.int .u8)).toArray el fr) := by
  have hu := utf8Tabs_of_readsT Tryz.u8types Tryz.u8extra h.first h.acc
  obtain ⟨g, t, cs, fuel, p, hg, hty, hvar, hd⟩ := h.acc
  obtain rfl := Option.some.inj (Tryz.u8extra.n4.symm.trans hg)
  obtain rfl := Option.some.inj (Tryz.u8extra.y4.symm.trans hty)
  obtain ⟨_, _, _, _, hl, _, _⟩ := DataW.trod_array Tryz.u8types.t139 hd
  rw [show Tryz.prog.cellsOf (Tryz.laysValid_ren.t 139) = 32 by kernel_rfl] at hl
  obtain ⟨el, fr, hw⟩ := heap_of_var Tryz.u8extra.n4 hvar
  have : cs = (accZ.map (Value.int .u8)).toArray := by
    apply Array.toList_inj.1
    apply List.ext_getElem?
    intro i
    by_cases hi : i < 32
    · have hc := cell_at hw i
      have hv : cs.toList[i]? = cs[i]? := by simp
      rw [hv, ← hc]
      obtain ⟨q1, q2⟩ := hu.2 (i / 2) (by omega)
      rcases Nat.mod_two_eq_zero_or_one i with e | e
      · have e2 : 2 * (i / 2) = i := by omega
        rw [e2] at q1
        rw [q1]
        simp [accZ, hi, e]
      · have e2 : 2 * (i / 2) + 1 = i := by omega
        rw [e2] at q2
        rw [q2]
        simp [accZ, hi, e]
    · rw [List.getElem?_eq_none (by omega), List.getElem?_eq_none (by simp [accZ]; omega)]
  subst this
  exact ⟨el, fr, hw⟩
theorem laid_heap {W W0 : World} (e : W0.heap = W.heap) (h : Laid4 W0) {n : Int} {t3 : TypeId} {f3 : Nat × Nat} (h3 : W.heap[3]? = some (.cells #[.int .i64 n] t3 f3)) : GlobOK (cfgH n) (allM W) := by
  obtain ⟨_, _, h0⟩ := laid_first h
  obtain ⟨_, _, h1⟩ := laid_acc h
  obtain ⟨_, _, h2⟩ := laid_pow h
  rw [e] at h0 h1 h2
  exact globOK_H h0 h1 h2 h3
theorem calls_evoH {W W0 : World} (h : W.ShapedOpen Tryz.prog) (e0 : W0.heap = W.heap) (hl : Laid4 W0) {g : Nat} {xs : List DV} {r : DV} {args : Array Value} (hc : ∀ n, CallOK Tryz.prog (cfgH n) g xs [] r []) (hx : VRL (fun _ => none) (allM W) xs args.toList) :
    Calls Tryz.prog g args W fun e W' => ∃ v' m', e = .returned v' /\ VR (fun _ => none) m' r v' /\ Evo [] W W' := by
  obtain ⟨m, t, fr, hm⟩ := maxLen3 h
  obtain ⟨h1, h2, h3⟩ := hc m
  refine (h3 (fun _ => none) (allM W) W args [] (laid_heap e0 hl hm) (allM_ok W) hx ⟨rfl, by simp, by simp⟩).mono ?_
  rintro e W' ⟨v', m', rfl, q1, _, _, _, q2⟩
  exact ⟨v', m', rfl, q1, q2⟩
theorem returns_laid {H : Type} {enc : TypeId × Value -> H} {a : Assume} {C : Checked} {os : Os} {f : FuncId} {fn : Func} {s : ChangeSpec} {conds : List PathCond} {apart fresh handsOn again : Bool} {X : World -> Array Value -> Prop}
    (own : ownKnob C.prog.godebug = none) (started : os.Started) (noInit : C.prog.inits.idxOf? f = none) (hfn : C.prog.funcs[f]? = some fn)
    (witness : ∃ (w : World) (tape : Tape) (i : Input), w.os = os /\ (w.forCall tape i).Shaped C.prog /\ i.vars = [] /\ Input.okWide C.prog (w.forCall tape i) .any w.heap.size f i /\
      ((s.pre enc C.prog fn conds apart (w.forCall tape i).memory i.args /\ X (w.forCall tape i).memory i.args) /\ sizedMet enc C.prog fn (OpenSpec.ofChange s) apart (w.forCall tape i).memory i.args) /\ a.holds C.prog (lone (Frame.enter C.prog f i.args .normal) [] (w.forCall tape i)))
    (contract : ∀ (W W0 : World) (base : Nat) (args : Array Value) (ds gs : List (DataW H)) (before : List MemPlace), W0.heap = W.heap -> X W0 args -> (∀ (j : Nat) t v, fn.params[j]? = some t -> args[j]? = some v -> Value.okWide C.prog W .any base t v) -> 
      DataW.Whole enc C.prog fn.params.toList s.vars apart W args.toList ds gs before -> W.ShapedOpen C.prog -> 
      Calls C.prog f args W fun e W' => ∃ v, e = .returned v /\ s.post enc C.prog fn apart fresh handsOn again W args v W') :
    ReturnsInHanded a C os f .any (fun w args => (s.pre enc C.prog fn conds apart w args /\ X w args) /\ sizedMet enc C.prog fn (OpenSpec.ofChange s) apart w args) (s.post enc C.prog fn apart fresh handsOn again) := by
  refine returnsInHanded_of_calls own started noInit witness ?_
  intro w tape i _ hsh _ hok hpre _
  obtain ⟨_, _, _, fn', hfn', _, _, _, _, hval⟩ := hok
  obtain rfl : fn' = fn := Option.some.inj (hfn'.symm.trans hfn)
  obtain ⟨⟨⟨ds, gs, before, hw, _⟩, hX⟩, _⟩ := hpre
  refine (contract (w.forCall tape i) _ w.heap.size i.args ds gs before (by rfl) hX hval (DataW.Whole.of_heap (w' := w.forCall tape i) (by rfl) hw) hsh).mono ?_
  rintro e W' ⟨v, rfl, hp⟩
  exact ChangeSpec.post_blind hp
theorem laid4_of {l : List (String × DataW Unit)} {W : World} (h : laidMetH Tryz.prog l W) (hp : (l.all fun x => x.2.handleName?.isNone) = true) (h1 : ("unicode/utf8.first", Lib.firstData) ∈ l) (h2 : ("unicode/utf8.acceptRanges", Lib.acceptData) ∈ l) (h3 : ("internal/strconv.uint64pow10", Lib.tabData .u64 Lib.pow10Tab) ∈ l) : Laid4 W := by
  rw [MakeChecks.laidMetH_plain _ _ _ hp] at h
  exact ⟨Lib.laidMet.reads h h1, Lib.laidMet.reads h h2, Lib.laidMet.reads h h3⟩
theorem rd34 {H : Type} {enc : TypeId × Value -> H} {W : World} {sp : Nat -> Bool} {hd : Bool} {n : Nat} {cs : List Value} {x : DataW H × List MemPlace} (h : DataW.trod enc Tryz.prog W 0 sp hd n 34 cs = some x) : ∃ a b, cs = [.int .i64 a, .int .i64 b] := by
  obtain ⟨xs, n, rfl, rfl, hl, hx, hf⟩ := DataW.trod_struct Tryz.underlying34 h
  rw [show Tryz.prog.cellsOf 34 = 2 by kernel_rfl] at hl
  obtain ⟨c0, c1, rfl⟩ := l2 hl
  obtain ⟨y0, h0⟩ := fld hx (by decide) (hf 0 _ rfl)
  obtain ⟨y1, h1⟩ := fld hx (by decide) (hf 1 _ rfl)
  simp [cells3] at h0 h1
  obtain ⟨a, e0⟩ := rd3 h0
  obtain ⟨b, e1⟩ := rd3 h1
  simp at e0 e1
  subst e0 e1
  exact ⟨a, b, rfl⟩
theorem cell_vr {m : Ro} (a b : Int) (cs : Array Value) (h : cs.toList = [.int .i64 a, .int .i64 b]) : VR (fun _ => none) m (.agg [.int .i64 a, .int .i64 b]) (.agg cs) := by
  simp only [VR, VRL]
  refine ⟨cs, rfl, ⟨_, _, h, rfl, _, _, rfl, rfl, rfl⟩, fun u hu => ?_⟩
  rw [h] at hu
  simp at hu
  rcases hu with rfl | rfl <;> rfl
end Go.Det.Sea
end
