/- TextMovesCardSaid: part 2 of the texts behind it: DetG, DetH, DetI, DetJ, DetK, DetL, DetM, DetN, DetO. No premise of its own. -/
import Derived.Test.YtpfjeinhmmmhkaaGreatDoorD1
import Derived.Lib.ConvBytes
import Derived.Deep.Upon
set_option linter.all false
section
namespace Go.Det
section
variable {P : Program} {ρ : Rho} {m : Ro} {T : Nat -> Option Ti} (hT : ∀ t ti, T t = some ti -> TiOK P t ti)
include hT
theorem guard_ok {op : BinOp} {t : Nat} {x y : DV} {b : Bool} {xo yo : Operand} {a c : Value} (h : eqT T 20 t x y = some b) (hx : VR ρ m x a) (hy : VR ρ m y c) (hn : nilPair x y = true -> (isC xo || isC yo) = true) (w : World) :
    (eqGuard op t xo yo a c).run P w = .ok () w := by
  unfold eqT at h
  split at h
  · simp at h
  · rename_i ti ht
    have hk := hT t ti ht
    obtain ⟨dd, hu, hd⟩ := hk.desc
    split at h <;> (try (simp at h; done)) <;> (rename_i he; rw [he] at hd; simp only [TdOK] at hd)
    · simp only [VR] at hx hy; subst hx hy; cases op <;> simp [eqGuard]
    · simp only [VR] at hx hy; subst hx hy; cases op <;> simp [eqGuard]
    · simp only [VR] at hx hy; subst hx hy; cases op <;> simp [eqGuard]
    · simp only [VR] at hx hy; subst hx hy; cases op <;> simp [eqGuard]
    · simp only [VR] at hx hy; subst hx; obtain ⟨p, cap, _, _, _, rfl⟩ := hy; cases op <;> simp [eqGuard]
    · simp only [VR] at hx hy; subst hy; obtain ⟨p, cap, _, _, _, rfl⟩ := hx; cases op <;> simp [eqGuard]
    · simp only [VR] at hx hy; subst hx; obtain ⟨aa, cap, _, rfl, _⟩ := hy; cases op <;> simp [eqGuard]
    · simp only [VR] at hx hy; subst hy; obtain ⟨aa, cap, _, rfl, _⟩ := hx; cases op <;> simp [eqGuard]
    · simp only [VR] at hx hy; subst hx hy
      have := hn rfl
      simp only [Bool.or_eq_true] at this
      rcases this with hc | hc
      · cases xo <;> simp only [isC] at hc <;> first | (exact absurd hc (by decide)) | (cases op <;> simp [eqGuard])
      · cases yo <;> simp only [isC] at hc <;> first | (exact absurd hc (by decide)) | (cases op <;> simp [eqGuard])
    · simp only [VR] at hx hy; subst hx; obtain ⟨x', rfl, _⟩ := hy; cases op <;> simp [eqGuard]
    · simp only [VR] at hx hy; subst hy; obtain ⟨x', rfl, _⟩ := hx; cases op <;> simp [eqGuard]
    · obtain ⟨fields, rfl, rfl, hn', hs, hg, _⟩ := hd
      simp only [VR] at hx hy
      obtain ⟨va, rfl, ka, oa⟩ := hx
      obtain ⟨vb, rfl, kb, ob⟩ := hy
      exact run_eqGuard_agg w op t xo yo va vb hg
theorem eqlOp_ok {t : Nat} {x y : DV} {b : Bool} {a c : Value} (h : eqT T 20 t x y = some b) (hx : VR ρ m x a) (hy : VR ρ m y c) (w : World)
    (hi : ∀ k n k' n', ¬ (x = .int k n /\ y = .int k' n')) (hs : ∀ s s', ¬ (x = .str s /\ y = .str s')) :
    (Go.binOp .eql t a c).run P w = .ok (.bool b) w /\ (Go.binOp .neq t a c).run P w = .ok (.bool (!b)) w := by
  have he := eqT_ok hT 20 10000 t x y b a c w (by omega) h hx hy
  have key : Go.binOp .eql t a c = (do pure (.bool (← Op.equal t a c))) /\ Go.binOp .neq t a c = (do pure (.bool (!(← Op.equal t a c)))) := by
    unfold eqT at h
    split at h
    · simp at h
    · split at h <;> (try (simp at h; done))
      · simp only [VR] at hx hy; subst hx hy; exact ⟨rfl, rfl⟩
      · exact absurd ⟨rfl, rfl⟩ (hi _ _ _ _)
      · exact absurd ⟨rfl, rfl⟩ (hs _ _)
      · simp only [VR] at hx hy; subst hx hy; exact ⟨rfl, rfl⟩
      · simp only [VR] at hx hy; subst hx; obtain ⟨p, cap, _, _, _, rfl⟩ := hy; exact ⟨rfl, rfl⟩
      · simp only [VR] at hx hy; subst hy; obtain ⟨p, cap, _, _, _, rfl⟩ := hx; exact ⟨rfl, rfl⟩
      · simp only [VR] at hx hy; subst hx; obtain ⟨aa, cap, _, rfl, _⟩ := hy; exact ⟨rfl, rfl⟩
      · simp only [VR] at hx hy; subst hy; obtain ⟨aa, cap, _, rfl, _⟩ := hx; exact ⟨rfl, rfl⟩
      · simp only [VR] at hx hy; subst hx hy; exact ⟨rfl, rfl⟩
      · simp only [VR] at hx hy; subst hx; obtain ⟨x', rfl, _⟩ := hy; exact ⟨rfl, rfl⟩
      · simp only [VR] at hx hy; subst hy; obtain ⟨x', rfl, _⟩ := hx; exact ⟨rfl, rfl⟩
      · simp only [VR] at hx hy
        obtain ⟨va, rfl, ka, oa⟩ := hx
        obtain ⟨vb, rfl, kb, ob⟩ := hy
        exact ⟨rfl, rfl⟩
  rw [key.1, key.2]
  simp only [Sem.run_bind, Op.equal, Op.maxDepth, he, Result.andThen_ok, Sem.run_pure, and_self]
theorem binOp_ok {op : BinOp} {t : Nat} {x y z : DV} {xo yo : Operand} {a c : Value} (h : binOp T op t x y = some z) (hx : VR ρ m x a) (hy : VR ρ m y c) (hn : nilPair x y = true -> (isC xo || isC yo) = true) (w : World) :
    ∃ v, (do eqGuard op t xo yo a c; Go.binOp op t a c : Sem Value).run P w = .ok v w /\ VR ρ m z v := by
  unfold binOp at h
  split at h
  · rename_i k n k' n'
    simp only [VR] at hx hy; subst hx hy
    have hg : (eqGuard op t xo yo (.int k n) (.int k' n')).run P w = .ok () w := by cases op <;> simp [eqGuard]
    simp only [Sem.run_bind, hg, Result.andThen_ok]
    split at h
    · exact shiftOp_ok h t w
    · exact shiftOp_ok h t w
    · rename_i h1 h2
      split at h
      · rename_i e; subst e
        exact intOp_ok h h1 h2 t w
      · simp at h
  · rename_i s s'
    simp only [VR] at hx hy; subst hx hy
    have hg : (eqGuard op t xo yo (.string ⟨s.toArray⟩) (.string ⟨s'.toArray⟩)).run P w = .ok () w := by cases op <;> simp [eqGuard]
    simp only [Sem.run_bind, hg, Result.andThen_ok]
    exact strOp_ok h t w
  · rename_i hni hns
    split at h
    · simp only [Option.map_eq_some_iff] at h
      obtain ⟨b, hb, rfl⟩ := h
      have := eqlOp_ok hT hb hx hy w (fun k n k' n' ⟨e1, e2⟩ => hni k n k' n' e1 e2) (fun s s' ⟨e1, e2⟩ => hns s s' e1 e2)
      exact ⟨_, by simp only [Sem.run_bind, guard_ok hT hb hx hy hn w, Result.andThen_ok]; exact this.1, rfl⟩
    · simp only [Option.map_eq_some_iff] at h
      obtain ⟨b, hb, rfl⟩ := h
      have := eqlOp_ok hT hb hx hy w (fun k n k' n' ⟨e1, e2⟩ => hni k n k' n' e1 e2) (fun s s' ⟨e1, e2⟩ => hns s s' e1 e2)
      exact ⟨_, by simp only [Sem.run_bind, guard_ok hT hb hx hy hn w, Result.andThen_ok]; exact this.2, rfl⟩
    · simp at h
omit hT in
theorem unOp_ok {op : UnOp} {x z : DV} {a : Value} (h : unOp op x = some z) (hx : VR ρ m x a) (w : World) : ∃ v, (Op.unary op a).run P w = .ok v w /\ VR ρ m z v := by
  unfold unOp at h
  split at h
  · simp only [VR] at hx; subst hx
    simp only [intOp, Option.some.injEq] at h; subst h
    exact ⟨_, by simp [Op.unary, Op.intArith], rfl⟩
  · simp only [VR] at hx; subst hx
    simp only [intOp, Option.some.injEq] at h; subst h
    refine ⟨_, ?_, rfl⟩
    simp [Op.unary, Op.intBits]
  · simp only [VR] at hx; subst hx
    simp only [Option.some.injEq] at h; subst h
    exact ⟨_, by simp [Op.unary], rfl⟩
  · simp at h
omit hT in
theorem asNat_ok {x : DV} {n : Nat} {a : Value} (h : asNat x = some n) (hx : VR ρ m x a) : ∃ k i, a = .int k i /\ 0 <= i /\ i.toNat = n := by
  unfold asNat at h
  split at h
  · split at h
    · rename_i h0
      simp only [VR] at hx; subst hx
      simp only [Option.some.injEq] at h
      exact ⟨_, _, rfl, h0, h⟩
    · simp at h
  · simp at h
theorem fieldOp_ok {t : Nat} {x z : DV} {f : Nat} {a : Value} (h : fieldOp T t x f = some z) (hx : VR ρ m x a) (w : World) : ∃ v, (Instr.field t a f).run P w = .ok v w /\ VR ρ m z v := by
  unfold fieldOp at h
  split at h
  · rename_i ti cs ht
    have hk := hT t ti ht
    obtain ⟨dd, hu, hd⟩ := hk.desc
    split at h
    · rename_i fs he
      rw [he] at hd; simp only [TdOK] at hd
      obtain ⟨fields, rfl, rfl, _⟩ := hd
      split at h
      · rename_i off ft hf
        simp only [VR] at hx
        obtain ⟨vs, rfl, kv, ov⟩ := hx
        obtain ⟨v, h1, h2⟩ := partT_ok hT h kv ov w
        refine ⟨v, ?_, h2⟩
        simp only [List.getElem?_map, Option.map_eq_some_iff] at hf
        obtain ⟨g, hg, he⟩ := hf
        simp only [Prod.mk.injEq] at he
        obtain ⟨rfl, rfl⟩ := he
        have hg' : fields[f]? = some g := by simpa using hg
        simp only [Instr.field, Sem.run_bind, run_underlying hu, Result.andThen_ok, hg', asAgg, Sem.run_pure, h1]
      · simp at h
    · simp at h
  · simp at h
theorem indexOp_ok {t : Nat} {x i z : DV} {a b : Value} (h : indexOp T t x i = some z) (hx : VR ρ m x a) (hi : VR ρ m i b) (w : World) : ∃ v, (Instr.index t a b).run P w = .ok v w /\ VR ρ m z v := by
  unfold indexOp at h
  split at h
  · rename_i n ti hn ht
    obtain ⟨k, j, rfl, hj0, hjn⟩ := asNat_ok hn hi
    have hk := hT t ti ht
    obtain ⟨dd, hu, hd⟩ := hk.desc
    split at h
    · rename_i s he
      rw [he] at hd; simp only [TdOK] at hd; subst hd
      simp only [VR] at hx; subst hx
      simp only [Option.map_eq_some_iff] at h
      obtain ⟨c, hc, rfl⟩ := h
      refine ⟨.int .u8 c.toNat, ?_, rfl⟩
      have hget : (⟨s.toArray⟩ : ByteArray)[j.toNat]? = some c := by
        rw [hjn]
        obtain ⟨hl, hv⟩ := List.getElem?_eq_some_iff.1 hc
        have : n < (⟨s.toArray⟩ : ByteArray).size := hl
        rw [getElem?_pos (⟨s.toArray⟩ : ByteArray) n this]
        exact congrArg some hv
      simp only [Instr.index, asIntOf, Sem.run_bind, Sem.run_pure, Result.andThen_ok, run_underlying hu, hj0, if_true, hget]
    · rename_i len e cs he
      rw [he] at hd; simp only [TdOK] at hd; subst hd
      simp only [VR] at hx
      obtain ⟨vs, rfl, kv, ov⟩ := hx
      split at h
      · rename_i hlt
        split at h
        · rename_i te hte
          obtain ⟨v, h1, h2⟩ := partT_ok hT h kv ov w
          refine ⟨v, ?_, h2⟩
          have hc : 0 <= j /\ j < (len : Int) := ⟨hj0, by omega⟩
          simp only [Instr.index, asIntOf, Sem.run_bind, Sem.run_pure, Result.andThen_ok, run_underlying hu, hc, and_self, if_true, Sem.run_ite, run_size (hT e te hte), hjn]
          exact h1
        · simp at h
      · simp at h
    · simp at h
  · simp at h
theorem lenOp_ok {t : Nat} {x z : DV} {a : Value} (h : lenOp T t x = some z) (hx : VR ρ m x a) (ts : Array TypeId) (h0 : ts[0]? = some t) (ty : TypeId) (w : World) :
    ∃ v, (Builtin.len_ ts ty #[a]).run P w = .ok v w /\ VR ρ m z v := by
  unfold lenOp at h
  split at h
  · simp at h
  · rename_i ti ht
    have hk := hT t ti ht
    obtain ⟨dd, hu, hd⟩ := hk.desc
    have hb : ∀ k : Sem Value, ((do
      let (some t, some x) := (ts[0]?, (#[a] : Array Value)[0]?) | stuck "len: one argument expected"
      k) : Sem Value) = k := by intro k; simp [h0]
    split at h <;> (try (simp at h; done)) <;> (rename_i he; rw [he] at hd; simp only [TdOK] at hd; subst hd; simp only [Option.some.injEq] at h; subst h; simp only [VR] at hx)
    · subst hx
      exact ⟨_, by simp [Builtin.len_, h0, run_underlying hu]; rfl, rfl⟩
    · subst hx
      exact ⟨_, by simp [Builtin.len_, h0, run_underlying hu]; rfl, rfl⟩
    · obtain ⟨aa, cap, _, rfl, _⟩ := hx
      exact ⟨_, by simp [Builtin.len_, h0, run_underlying hu]; rfl, rfl⟩
    · obtain ⟨p, cap, _, _, _, rfl⟩ := hx
      exact ⟨_, by simp [Builtin.len_, h0, run_underlying hu]; rfl, rfl⟩
    · subst hx
      exact ⟨_, by simp [Builtin.len_, h0, run_underlying hu]; rfl, rfl⟩
end
end Go.Det
end

section
namespace Go.Det
theorem add_at (r o k : Nat) : (⟨r, o, none⟩ : Addr).add k = ⟨r, o + k, none⟩ := by
  unfold Addr.add; split
  · rename_i e; subst e; rfl
  · rfl
section
variable {P : Program} {ρ : Rho} {m : Ro}
theorem bound_none {d y : Nat} {n : Nat} (h : bound none d y = some n) : n = d := by simpa [bound, eq_comm] using h
theorem bound_some {x : DV} {d y n : Nat} {a : Value} (h : bound (some x) d y = some n) (hx : VR ρ m x a) : n <= y /\ ∃ k i, a = .int k i /\ 0 <= i /\ i.toNat = n := by
  unfold bound at h
  simp only at h
  split at h
  · rename_i k hk
    split at h
    · rename_i hle
      simp only [Option.some.injEq] at h; subst h
      exact ⟨hle, asNat_ok hk hx⟩
    · simp at h
  · simp at h
theorem run_bound {a : Value} {y n : Nat} (ha : ∃ k i, a = .int k i /\ 0 <= i /\ i.toNat = n) (hn : n <= y) (code : BoundsCode) (w : World) : (Instr.sliceBound a y code).run P w = .ok n w := by
  obtain ⟨k, i, rfl, h0, rfl⟩ := ha
  have hc : 0 <= i /\ i <= (y : Int) := ⟨h0, by omega⟩
  simp only [Instr.sliceBound, asIntOf, Sem.run_bind, Sem.run_pure, Result.andThen_ok, Sem.run_ite, hc, and_self, if_true]
theorem run_bounds {isSlice : Bool} {len cap hn ln : Nat} {lo hi : Option DV} {la ha : Option Value} (hlen : len <= cap) (h1 : bound hi len len = some hn) (h2 : bound lo 0 hn = some ln)
    (hha : (hi = none /\ ha = none) \/ ∃ x a, hi = some x /\ ha = some a /\ VR ρ m x a) (hla : (lo = none /\ la = none) \/ ∃ x a, lo = some x /\ la = some a /\ VR ρ m x a) (w : World) :
    ln <= hn /\ hn <= len /\ (Instr.sliceBounds isSlice len cap la ha none).run P w = .ok (ln, hn, cap) w := by
  have e1 : hn <= len /\ ∀ w' : World, ((match ha, (none : Option Value) with
      | some v, some _ => Instr.sliceBound v cap .slice3B
      | some v, none => Instr.sliceBound v cap (if isSlice then .sliceAcap else .sliceAlen)
      | none, none => pure len
      | none, some _ => stuck "Slice: max without high") : Sem Nat).run P w' = .ok hn w' := by
    rcases hha with ⟨rfl, rfl⟩ | ⟨x, a, rfl, rfl, hx⟩
    · have := bound_none h1; subst this
      exact ⟨Nat.le_refl _, fun _ => rfl⟩
    · obtain ⟨h3, h4⟩ := bound_some h1 hx
      exact ⟨h3, fun w' => run_bound h4 (by omega) _ w'⟩
  have e2 : ln <= hn /\ ∀ w' : World, ((match la with
      | some v => Instr.sliceBound v hn .sliceB
      | none => pure 0) : Sem Nat).run P w' = .ok ln w' := by
    rcases hla with ⟨rfl, rfl⟩ | ⟨x, a, rfl, rfl, hx⟩
    · have := bound_none h2; subst this
      exact ⟨by omega, fun _ => rfl⟩
    · obtain ⟨h3, h4⟩ := bound_some h2 hx
      exact ⟨h3, fun w' => run_bound h4 h3 _ w'⟩
  refine ⟨e2.1, e1.1, ?_⟩
  have k1 := e1.2 w
  have k2 := e2.2 w
  rcases ha with _ | va <;> rcases la with _ | vb <;> simp only [Sem.run_pure, Result.ok.injEq, and_true] at k1 k2 <;>
    simp [Instr.sliceBounds, k1, k2]
theorem mentsL_take (n : Nat) {l : List DV} (h : mentsL l = []) : mentsL (l.take n) = [] :=
  mentsL_nil_iff.2 fun x hx => mentsL_nil_iff.1 h x (List.mem_of_mem_take hx)
theorem mentsL_drop (n : Nat) {l : List DV} (h : mentsL l = []) : mentsL (l.drop n) = [] :=
  mentsL_nil_iff.2 fun x hx => mentsL_nil_iff.1 h x (List.mem_of_mem_drop hx)
theorem VRE.take {n : Nat} (k : Nat) {l : List DV} {c : Array Value} {o : Nat} (h : VRE ρ m n l c o) : VRE ρ m n (l.take k) c o :=
  VRE.of_get fun i x hx => VRE.get h i x (by
    rw [List.getElem?_take] at hx
    split at hx
    · exact hx
    · cases hx)
theorem VRE.drop {n : Nat} (k : Nat) {l : List DV} {c : Array Value} {o : Nat} (h : VRE ρ m n l c o) : VRE ρ m n (l.drop k) c (o + k * n) :=
  VRE.of_get fun i x hx => by
    rw [List.getElem?_drop] at hx
    obtain ⟨v, h1, h2, h3, h4⟩ := VRE.get h _ x hx
    exact ⟨v, h1, h2, h3, fun j u hu => by rw [show o + k * n + i * n + j = o + (k + i) * n + j by rw [Nat.add_mul]; omega]; exact h4 j u hu⟩
variable {T : Nat -> Option Ti} (hT : ∀ t ti, T t = some ti -> TiOK P t ti)
include hT
theorem sliceOp_ok {t : Nat} {x z : DV} {lo hi : Option DV} {a : Value} {la ha : Option Value} (h : sliceOp T t x lo hi = some z) (hx : VR ρ m x a)
    (hla : (lo = none /\ la = none) \/ ∃ x a, lo = some x /\ la = some a /\ VR ρ m x a) (hha : (hi = none /\ ha = none) \/ ∃ x a, hi = some x /\ ha = some a /\ VR ρ m x a) (w : World) :
    ∃ v, (Instr.sliceAt t a la ha none).run P w = .ok v w /\ VR ρ m z v := by
  unfold sliceOp at h
  split at h
  · simp at h
  · rename_i ti ht
    have hk := hT t ti ht
    obtain ⟨dd, hu, hd⟩ := hk.desc
    split at h <;> (try (simp at h; done)) <;> (rename_i he; rw [he] at hd; simp only [TdOK] at hd; subst hd)
    · rename_i s
      simp only [VR] at hx; subst hx
      split at h
      · rename_i hn h1
        split at h
        · rename_i ln h2
          simp only [Option.some.injEq] at h; subst h
          obtain ⟨k1, k2, k3⟩ := run_bounds (P := P) (isSlice := false) (Nat.le_refl _) h1 h2 hha hla w
          refine ⟨.string ((⟨s.toArray⟩ : ByteArray).extract ln hn), ?_, ?_⟩
          · simp only [Instr.sliceAt, Instr.slice, Sem.run_bind, run_underlying hu, Result.andThen_ok]
            have : (⟨s.toArray⟩ : ByteArray).size = s.length := rfl
            simp [this, k3]
          · simp only [VR, Value.string.injEq]
            rw [Lib.extract_eq]
            congr 2
            rw [List.drop_take]
        · simp at h
      · simp at h
    · rename_i e
      simp only [VR] at hx; subst hx
      split at h
      · simp at h
      · rename_i te hte
        split at h
        · rename_i hn h1
          split at h
          · rename_i ln h2
            simp only [Option.some.injEq] at h; subst h
            obtain ⟨k1, k2, k3⟩ := run_bounds (P := P) (isSlice := true) (Nat.le_refl _) h1 h2 hha hla w
            have hn0 : hn = 0 := by omega
            have ln0 : ln = 0 := by omega
            subst hn0 ln0
            refine ⟨.slice none 0 0, ?_, rfl⟩
            simp [Instr.sliceAt, Instr.slice, run_underlying hu, k3, run_size (hT e te hte)]
          · simp at h
        · simp at h
    · rename_i e n es
      simp only [VR] at hx
      obtain ⟨aa, cap, hcap, rfl, hm, hes⟩ := hx
      split at h
      · simp at h
      · rename_i te hte
        split at h
        · simp at h
        · rename_i hsz
          have hsz' : te.size = n := by omega
          split at h
          · rename_i hn h1
            split at h
            · rename_i ln h2
              simp only [Option.some.injEq] at h; subst h
              obtain ⟨k1, k2, k3⟩ := run_bounds (P := P) (isSlice := true) hcap h1 h2 hha hla w
              refine ⟨.slice (if cap = ln then aa else aa.map (·.add (ln * n))) (hn - ln) (cap - ln), ?_, ?_⟩
              · simp [Instr.sliceAt, Instr.slice, run_underlying hu, k3, run_size (hT e te hte), hsz']
              · simp only [VR]
                have hl : ((es.take hn).drop ln).length = hn - ln := by simp; omega
                refine ⟨_, cap - ln, by omega, by rw [hl], mentsL_drop _ (mentsL_take _ hm), ?_⟩
                by_cases h0 : hn - ln = 0
                · exact .inl (List.length_eq_zero_iff.1 (by omega))
                · rcases hes with rfl | ⟨r, base, c, g1, rfl, g3⟩
                  · simp at k2; omega
                  · refine .inr ⟨r, base + ln * n, c, g1, ?_, (g3.take hn).drop ln⟩
                    rw [if_neg (by omega)]
                    simp [add_at]
            · simp at h
          · simp at h
    · rename_i e b n off len
      simp only [VR] at hx
      obtain ⟨p, cap, hp, hcap, hsize, rfl⟩ := hx
      split at h
      · simp at h
      · rename_i te hte
        split at h
        · simp at h
        · rename_i hsz
          have hsz' : te.size = n := by omega
          split at h
          · rename_i hn h1
            split at h
            · rename_i ln h2
              obtain ⟨k1, k2, k3⟩ := run_bounds (P := P) (isSlice := true) hcap h1 h2 hha hla w
              refine ⟨.slice (if cap = ln then some ⟨p.blk, p.base + off * n, none⟩ else (some (⟨p.blk, p.base + off * n, none⟩ : Addr)).map (·.add (ln * n))) (hn - ln) (cap - ln), ?_, ?_⟩
              · simp [Instr.sliceAt, Instr.slice, run_underlying hu, k3, run_size (hT e te hte), hsz']
              · split at h
                · rename_i hc
                  simp only [Option.some.injEq] at h; subst h
                  simp only [VR]
                  refine ⟨p, cap - ln, hp, by omega, ?_, ?_⟩
                  · rw [show off + ln + (cap - ln) = off + cap by omega]; exact hsize
                  · by_cases e0 : cap = ln
                    · have : ln = 0 := by omega
                      subst this
                      simp [e0]
                    · rw [if_neg e0]
                      simp [add_at, Nat.add_mul, Nat.add_assoc]
                · rename_i hc
                  simp only [Option.some.injEq] at h; subst h
                  simp only [VR]
                  have : hn - ln = 0 := by omega
                  exact ⟨_, cap - ln, by simp, by rw [this]; rfl, rfl, .inl trivial⟩
            · simp at h
          · simp at h
omit hT in
theorem shiftPtr_ok {x z : DV} {o : Nat} {a : Value} (h : shiftPtr x o = some z) (hx : VR ρ m x a) : ∃ ad : Addr, a = .pointer (some ad) /\ VR ρ m z (.pointer (some (ad.add o))) := by
  unfold shiftPtr at h
  split at h
  · split at h
    · simp only [Option.some.injEq] at h; subst h
      simp only [VR] at hx ⊢
      obtain ⟨p, hp, rfl⟩ := hx
      exact ⟨_, rfl, p, hp, by rw [add_at]; simp [Nat.add_assoc]⟩
    · simp at h
  · split at h
    · simp only [Option.some.injEq] at h; subst h
      simp only [VR] at hx ⊢
      obtain ⟨r, base, c, g1, g2, g3, g4, rfl⟩ := hx
      exact ⟨_, rfl, r, base, c, g1, g2, g3, g4, by rw [add_at]; simp [Nat.add_assoc]⟩
    · simp at h
  · simp only [Option.some.injEq] at h; subst h
    simp only [VR] at hx ⊢
    subst hx
    exact ⟨_, rfl, by rw [add_at]⟩
  · simp at h
theorem fieldAddrOp_ok {t : Nat} {x z : DV} {f : Nat} {a : Value} (h : fieldAddrOp T t x f = some z) (hx : VR ρ m x a) (w : World) : ∃ v, (Instr.fieldAt t a f).run P w = .ok v w /\ VR ρ m z v := by
  unfold fieldAddrOp at h
  split at h
  · rename_i ti ht
    have hk := hT t ti ht
    obtain ⟨dd, hu, hd⟩ := hk.desc
    split at h
    · rename_i fs he
      rw [he] at hd; simp only [TdOK] at hd
      obtain ⟨fields, rfl, rfl, _⟩ := hd
      split at h
      · rename_i off ft hf
        split at h
        · rename_i tf htf
          split at h
          · simp at h
          · rename_i hsz
            obtain ⟨ad, rfl, hz⟩ := shiftPtr_ok h hx
            simp only [List.getElem?_map, Option.map_eq_some_iff] at hf
            obtain ⟨g, hg, hge⟩ := hf
            simp only [Prod.mk.injEq] at hge
            obtain ⟨rfl, rfl⟩ := hge
            have hg' : fields[f]? = some g := by simpa using hg
            refine ⟨_, ?_, hz⟩
            simp [Instr.fieldAt, run_underlying hu, hg', Instr.sureAddr, fieldPlace, run_size (hT _ tf htf), hsz]
        · simp at h
      · simp at h
    · simp at h
  · simp at h
theorem indexAddrOp_ok {t : Nat} {x i z : DV} {a b : Value} (h : indexAddrOp T t x i = some z) (hx : VR ρ m x a) (hi : VR ρ m i b) (w : World) : ∃ v, (Instr.indexAt t a b).run P w = .ok v w /\ VR ρ m z v := by
  unfold indexAddrOp at h
  split at h
  · rename_i k n es hn
    obtain ⟨kk, j, rfl, hj0, hjn⟩ := asNat_ok hn hi
    split at h
    · rename_i ti ht
      obtain ⟨dd, hu, hd⟩ := (hT t ti ht).desc
      split at h
      · rename_i e he
        rw [he] at hd; simp only [TdOK] at hd; subst hd
        split at h
        · rename_i te hte
          split at h
          · rename_i hc
            obtain ⟨hc1, hc2⟩ := hc
            simp only [Option.some.injEq] at h; subst h
            simp only [VR] at hx
            obtain ⟨aa, cap, hcap, rfl, hm, hes⟩ := hx
            rcases hes with rfl | ⟨r, base, c, g1, rfl, g3⟩
            · simp at hc2
            · have hlt : 0 <= j /\ j < (es.length : Int) := ⟨hj0, by omega⟩
              refine ⟨.pointer (some ⟨r, base + k * n, none⟩), ?_, ?_⟩
              · simp [Instr.indexAt, asIntOf, run_underlying hu, hlt, run_size (hT e te hte), hc1, hjn, add_at]
              · simp only [VR]
                exact ⟨r, base, c, g1, hm, g3, hc2, by simp⟩
          · simp at h
        · simp at h
      · simp at h
    · simp at h
  · rename_i k bb n off len hn
    obtain ⟨kk, j, rfl, hj0, hjn⟩ := asNat_ok hn hi
    split at h
    · rename_i ti ht
      obtain ⟨dd, hu, hd⟩ := (hT t ti ht).desc
      split at h
      · rename_i e he
        rw [he] at hd; simp only [TdOK] at hd; subst hd
        split at h
        · rename_i te hte
          split at h
          · rename_i hc
            obtain ⟨hc1, hc2⟩ := hc
            simp only [Option.some.injEq] at h; subst h
            simp only [VR] at hx
            obtain ⟨p, cap, hp, hcap, hsize, rfl⟩ := hx
            have hlt : 0 <= j /\ j < (len : Int) := ⟨hj0, by omega⟩
            refine ⟨.pointer (some ⟨p.blk, p.base + off * n + k * n, none⟩), ?_, ?_⟩
            · simp [Instr.indexAt, asIntOf, run_underlying hu, hlt, run_size (hT e te hte), hc1, hjn, add_at]
            · simp only [VR]
              exact ⟨p, hp, by simp [Nat.add_mul, Nat.add_assoc]⟩
          · simp at h
        · simp at h
      · simp at h
    · simp at h
  · rename_i k x' hn hnp hnr
    obtain ⟨kk, j, rfl, hj0, hjn⟩ := asNat_ok hn hi
    split at h
    · rename_i ti ht
      obtain ⟨dd, hu, hd⟩ := (hT t ti ht).desc
      split at h
      · rename_i len e he
        rw [he] at hd; simp only [TdOK] at hd; subst hd
        split at h
        · rename_i te hte
          split at h
          · rename_i hc
            obtain ⟨hc1, hc2⟩ := hc
            obtain ⟨ad, rfl, hz⟩ := shiftPtr_ok h hx
            have hlt : 0 <= j /\ j < (len : Int) := ⟨hj0, by omega⟩
            refine ⟨_, ?_, hz⟩
            simp [Instr.indexAt, asIntOf, run_underlying hu, Instr.sureAddr, hlt, run_size (hT e te hte), hjn]
          · simp at h
        · simp at h
      · simp at h
    · simp at h
  · simp at h
end
end Go.Det
end

section
namespace Go.Det
section
variable {P : Program} {ρ : Rho} {m : Ro}
theorem VRL.over : ∀ {l : List DV} {ls : List Value} {cs : List DV} {c : Array Value} (o : Nat), VRL ρ m cs c.toList -> VRL ρ m l ls -> VRL ρ m (over cs o l) (overA c o ls).toList
  | [], ls, cs, c, o, h, k => by simp only [VRL] at k; subst k; exact h
  | x :: l, ls, cs, c, o, h, k => by
    simp only [VRL] at k
    obtain ⟨v, r, rfl, k1, k2⟩ := k
    exact VRL.over (o + 1) (by simpa using VRL.set k1 o h) k2
theorem overA_one : ∀ (l : List Value) (c : Array Value) (o : Nat), (∀ u ∈ c.toList, u.oneCell' = true) -> (∀ u ∈ l, u.oneCell' = true) -> ∀ u ∈ (overA c o l).toList, u.oneCell' = true
  | [], c, o, h, _ => h
  | v :: l, c, o, h, k => overA_one l _ (o + 1) (by
      intro u hu
      rw [Array.toList_setIfInBounds] at hu
      rcases List.mem_or_eq_of_mem_set hu with hu | rfl
      · exact h u hu
      · exact k _ (by simp)) (fun u hu => k u (by simp [hu]))
theorem foldl_over (l : List Value) : ∀ (c : Array Value) (o k : Nat), (l.zipIdx k).foldl (fun cs (p : Value × Nat) => cs.setIfInBounds (o + p.2) p.1) c = overA c (o + k) l := by
  induction l with
  | nil => intro c o k; rfl
  | cons v l ih =>
    intro c o k
    simp only [List.zipIdx_cons, List.foldl_cons, overA]
    rw [ih]
    congr 1
inductive PR (ρ : Rho) (m : Ro) : List (Nat × DV) -> List (Nat × Value) -> Prop
  | nil : PR ρ m [] []
  | cons {i : Nat} {x : DV} {v : Value} {l : List (Nat × DV)} {l' : List (Nat × Value)} : VR ρ m x v -> PR ρ m l l' -> PR ρ m ((i, x) :: l) ((i, v) :: l')
theorem fill_ok {place : Nat -> Option (Nat × Nat)} : ∀ (parts : List (Nat × DV)) (parts' : List (Nat × Value)) {cs z : List DV} {c : Array Value}, fill place cs parts = some z -> VRL ρ m cs c.toList -> (∀ u ∈ c.toList, u.oneCell' = true) -> 
    PR ρ m parts parts' -> 
    ∃ c', Instr.fill place c parts' = some c' /\ VRL ρ m z c'.toList /\ (∀ u ∈ c'.toList, u.oneCell' = true) /\ c'.size = c.size
  | [], parts', cs, z, c, h, hc, h1, hf => by
    cases hf
    simp only [fill, Option.some.injEq] at h; subst h
    exact ⟨c, rfl, hc, h1, rfl⟩
  | (i, x) :: rest, parts', cs, z, c, h, hc, h1, hf => by
    cases hf with
    | cons hv hrest =>
      rename_i v rest'
      simp only [fill] at h
      split at h
      · simp at h
      · rename_i off size hpl
        split at h
        · rename_i hcond
          obtain ⟨hl, h0, hb⟩ := hcond
          obtain ⟨kv, ko⟩ := hv.cells (by intro e; rw [e] at hl; simp at hl; omega)
          have hsz : v.cells.size = size := by have := kv.length; simp at this; omega
          have hcs := hc.length
          simp at hcs
          obtain ⟨c', g1, g2, g3, g4⟩ := fill_ok rest rest' (c := overA c off v.cells.toList) h (VRL.over off hc kv) (overA_one _ _ _ h1 ko) hrest
          refine ⟨c', ?_, g2, g3, by rw [g4, overA_size]⟩
          have hcnd : ¬ (v.cells.size ≠ size \/ off + v.cells.size > c.size) := by omega
          simp only [Instr.fill, hpl, hsz]
          have hcnd' : ¬ ((size ≠ size || decide (off + size > c.size)) = true) := by simp; omega
          rw [if_neg (by simpa using hcnd')]
          rw [← g1]
          congr 1
          have := foldl_over v.cells.toList c off 0
          simp only [Nat.add_zero] at this
          rw [← this, ← Array.foldl_toList, Array.toList_zipIdx]
        · simp at h
variable {T : Nat -> Option Ti} (hT : ∀ t ti, T t = some ti -> TiOK P t ti)
include hT
theorem zero_ok {t : Nat} {ti : Ti} (ht : T t = some ti) (h0 : ti.zero ≠ []) : ∃ i z, P.info? t = some i /\ i.zero = some z /\ i.size = ti.size /\ i.bytes = ti.bytes /\ VRL ρ m ti.zero z.cells.toList /\ (∀ u ∈ z.cells.toList, u.oneCell' = true) := by
  obtain ⟨i, hi, hs, hb, hz⟩ := (hT t ti ht).info
  obtain ⟨z, k1, k2, k3, k4⟩ := hz h0
  exact ⟨i, z, hi, k1, hs, hb, VRL.mono (m := Ro.none) (fun _ _ h => by cases h) _ (VRL.rho _ (fun b hb => by rw [k4] at hb; cases hb) k2), k3⟩
theorem buildOp_ok {t : Nat} {ps : List (Nat × DV)} {z : DV} {ps' : Array (Nat × Value)} (h : buildOp T t ps = some z) (hf : PR ρ m ps ps'.toList) (w : World) :
    ∃ v, (Instr.build t ps').run P w = .ok v w /\ VR ρ m z v := by
  unfold buildOp at h
  split at h
  · rename_i ti ht
    obtain ⟨dd, hu, hd⟩ := (hT t ti ht).desc
    split at h
    · rename_i fs he
      rw [he] at hd; simp only [TdOK] at hd
      obtain ⟨fields, rfl, rfl, _, _, _, hinf⟩ := hd
      split at h
      · simp at h
      · rename_i hz0
        simp only [Option.map_eq_some_iff] at h
        obtain ⟨cs, hcs, rfl⟩ := h
        obtain ⟨i, zz, hi, hz, hs, hb, kz, oz⟩ := zero_ok (ρ := ρ) (m := m) hT ht hz0
        obtain ⟨places, hpl⟩ : ∃ places, fields.toList.mapM (fun f => (P.info? f.type).map fun i => (f.offset, i.size)) = some places := by
          clear hcs he hu
          generalize fields.toList = fl at hinf
          induction fl with
          | nil => exact ⟨[], rfl⟩
          | cons f fl ih =>
            obtain ⟨r, hr⟩ := ih (fun g hg => hinf g (by simp [hg]))
            obtain ⟨i', hi'⟩ := Option.isSome_iff_exists.1 (hinf f (by simp))
            exact ⟨(f.offset, i'.size) :: r, by simp [List.mapM_cons, hi', hr]⟩
        have hplace : ∀ k o s, placeOf T (fields.toList.map fun f => (f.offset, f.type)) k = some (o, s) -> places[k]? = some (o, s) := by
          intro k o s hk
          unfold placeOf at hk
          split at hk
          · rename_i off ft hft
            split at hk
            · rename_i tf htf
              simp only [Option.some.injEq, Prod.mk.injEq] at hk
              obtain ⟨rfl, rfl⟩ := hk
              simp only [List.getElem?_map, Option.map_eq_some_iff] at hft
              obtain ⟨g, hg, hge⟩ := hft
              simp only [Prod.mk.injEq] at hge
              obtain ⟨rfl, rfl⟩ := hge
              obtain ⟨i', hi', hs', _⟩ := (hT _ tf htf).info
              clear hcs he hu hinf
              generalize fields.toList = fl at hpl hg
              induction fl generalizing k places with
              | nil => simp at hg
              | cons f fl ih =>
                simp only [List.mapM_cons, Option.bind_eq_bind, Option.pure_def, Option.bind_eq_some_iff, Option.some.injEq] at hpl
                obtain ⟨pp, hpp, rest, hrest, rfl⟩ := hpl
                cases k with
                | zero =>
                  simp at hg; subst hg
                  simp only [Option.map_eq_some_iff] at hpp
                  obtain ⟨i2, hi2, rfl⟩ := hpp
                  rw [hi'] at hi2
                  simp only [Option.some.injEq] at hi2; subst hi2
                  simp [hs']
                | succ k => simpa using ih rest k hrest (by simpa using hg)
            · simp at hk
          · simp at hk
        have hmono : ∀ (parts : List (Nat × DV)) (cs0 cs1 : List DV), fill (placeOf T (fields.toList.map fun f => (f.offset, f.type))) cs0 parts = some cs1 -> fill (fun k => places[k]?) cs0 parts = some cs1 := by
          intro parts
          induction parts with
          | nil => intro cs0 cs1 h; exact h
          | cons p parts ih =>
            intro cs0 cs1 h
            obtain ⟨k, x⟩ := p
            simp only [fill] at h ⊢
            split at h
            · simp at h
            · rename_i o s hos
              rw [hplace k o s hos]
              split at h
              · rename_i hc
                exact (if_pos hc).trans (ih _ _ h)
              · simp at h
        obtain ⟨c', g1, g2, g3, g4⟩ := fill_ok ps ps'.toList (hmono _ _ _ hcs) kz oz hf
        have hb : P.built t ps'.toList = some c' := by
          simp only [Program.built, hi, hu, hz, hpl]
          simpa using g1
        exact ⟨_, run_build w t ps' c' hb, by simp only [VR]; exact ⟨c', rfl, g2, g3⟩⟩
    · rename_i len e he
      rw [he] at hd; simp only [TdOK] at hd; subst hd
      split at h
      · rename_i te hte
        split at h
        · simp at h
        · rename_i hz0
          simp only [Option.map_eq_some_iff] at h
          obtain ⟨cs, hcs, rfl⟩ := h
          obtain ⟨i, zz, hi, hz, hs, hb, kz, oz⟩ := zero_ok (ρ := ρ) (m := m) hT ht hz0
          obtain ⟨ie, hie, hse, _⟩ := (hT e te hte).info
          obtain ⟨c', g1, g2, g3, g4⟩ := fill_ok ps ps'.toList hcs kz oz hf
          have hb : P.built t ps'.toList = some c' := by
            simp only [Program.built, hi, hu, hz, hie, hse]
            exact g1
          exact ⟨_, run_build w t ps' c' hb, by simp only [VR]; exact ⟨c', rfl, g2, g3⟩⟩
      · simp at h
    · simp at h
  · simp at h
end
end Go.Det
end

section
namespace Go.Det
def GlobOK (C : Cfg) (m : Ro) : Prop := ∀ g cs, C.glob g = some cs -> ∃ c, m g = some c /\ VRL (fun _ => none) m cs c.toList /\ mentsL cs = [] /\ ∀ u ∈ c.toList, u.oneCell' = true
theorem GlobOK.mono {C : Cfg} {m m' : Ro} (h : GlobOK C m) (hm : Sub m m') : GlobOK C m' := fun g cs hg => by
  obtain ⟨c, h1, h2, h3⟩ := h g cs hg
  exact ⟨c, hm _ _ h1, VRL.mono hm _ h2, h3⟩
section
variable {P : Program} {ρ : Rho} {m : Ro}
theorem cells_len {c : Array Value} {vs : List Value} {o : Nat} (h : ∀ j u, vs[j]? = some u -> c[o + j]? = some u) : vs = [] \/ o + vs.length <= c.size := by
  by_cases h0 : vs.length = 0
  · exact .inl (List.length_eq_zero_iff.1 h0)
  · refine .inr ?_
    have := h (vs.length - 1) _ (List.getElem?_eq_getElem (by omega))
    have := (Array.getElem?_eq_some_iff.1 this).1
    omega
theorem cells_eq {c : Array Value} {vs : List Value} {o : Nat} (h : ∀ j u, vs[j]? = some u -> c[o + j]? = some u) (off n : Nat) (hn : off + n <= vs.length) :
    (c.toList.drop (o + off)).take n = (vs.drop off).take n := by
  apply List.ext_getElem?
  intro j
  rw [List.getElem?_take, List.getElem?_take]
  split
  · rename_i hj
    rw [List.getElem?_drop, List.getElem?_drop]
    have := h (off + j) _ (List.getElem?_eq_getElem (by omega))
    rw [List.getElem?_eq_getElem (show off + j < vs.length by omega)]
    rw [show o + off + j = o + (off + j) by omega]
    simpa using this
  · rfl
variable {t : Nat} {ti : Ti} (hk : TiOK P t ti)
include hk
theorem loadIn_ok {n : Nat} {e z : DV} {off : Nat} (h : loadIn ti n e off = some z) {w : World} {r : Nat} {c : Array Value} {el : TypeId} {fr : Nat × Nat} (hh : w.heap[r]? = some (.cells c el fr)) {o : Nat} {v : Value}
    (he : VR ρ m e v) (hn : v.cells.size = n) (h1 : ∀ u ∈ v.cells.toList, u.oneCell' = true) (hc : ∀ j u, v.cells[j]? = some u -> c[o + j]? = some u) :
    ∃ v', (loadVar t ⟨r, o + off, none⟩).run P w = .ok v' w /\ VR ρ m z v' := by
  have hc' : ∀ j u, v.cells.toList[j]? = some u -> c[o + j]? = some u := fun j u hu => hc j u (by simpa using hu)
  have hlen := cells_len hc'
  have hl : v.cells.toList.length = n := by simpa using hn
  unfold loadIn at h
  split at h
  · rename_i hcond
    obtain ⟨rfl, hsz, hn0⟩ := hcond
    have hle : o + 0 + ti.size <= c.size := by
      rcases hlen with h' | h'
      · rw [h'] at hl; simp at hl; omega
      · omega
    split at h
    · rename_i ha
      split at h
      · rename_i cs
        simp only [Option.some.injEq] at h; subst h
        refine ⟨_, (run_loadVar hk hh (o + 0) hle).1 ha, ?_⟩
        rw [cells_eq hc' 0 ti.size (by omega), List.drop_zero, List.take_of_length_le (by omega)]
        simp only [VR] at he ⊢
        obtain ⟨vs, rfl, kv, ov⟩ := he
        exact ⟨vs, rfl, kv, ov⟩
      · simp at h
    · rename_i ha
      have ha' : agD ti.d = false := by simpa using ha
      have hfin : ∀ u, v.cells.toList[0]? = some u -> (loadVar t ⟨r, o + 0, none⟩).run P w = .ok u w := fun u hu => (run_loadVar hk hh (o + 0) hle).2 ha' u (hc' 0 u hu)
      split at h
      · rename_i c0 l
        simp only [Option.some.injEq] at h; subst h
        simp only [VR] at he
        obtain ⟨vs, rfl, kv, ov⟩ := he
        obtain ⟨u, hu, hr⟩ := kv.get 0 c0 rfl
        exact ⟨u, hfin u hu, hr⟩
      · simp at h
      · simp at h
      · simp at h
      · rename_i g1 g2 g3 g4
        simp only [Option.some.injEq] at h; subst h
        have hs : e.scal = true := by
          cases e <;> first | rfl | skip
          · exact absurd rfl g3
          · rename_i l; cases l
            · exact absurd rfl g2
            · exact absurd rfl (g1 _ _)
          · exact absurd rfl (g4 _)
        have h1 := he.one hs
        exact ⟨v, hfin v (by rw [oneCells h1]; rfl), he⟩
  · split at h
    · rename_i hcond
      obtain ⟨hle1, hsz⟩ := hcond
      have hne : e.cells ≠ [] := by intro e0; rw [e0] at hle1; simp at hle1; omega
      obtain ⟨kv, ov⟩ := he.cells hne
      have hkl := kv.length
      have hle : o + off + ti.size <= c.size := by
        rcases hlen with h' | h'
        · rw [h'] at hkl; simp at hkl; omega
        · omega
      split at h
      · rename_i ha
        simp only [Option.some.injEq] at h; subst h
        refine ⟨_, (run_loadVar hk hh (o + off) hle).1 ha, ?_⟩
        rw [cells_eq hc' off ti.size (by omega)]
        exact kv.aggPart ov off ti.size
      · rename_i ha
        obtain ⟨u, hu, hr⟩ := kv.get off z h
        exact ⟨u, (run_loadVar hk hh (o + off) hle).2 (by simpa using ha) u (hc' off u hu), hr⟩
    · simp at h
theorem loadBox_ok {cs : List DV} {c : Array Value} {off : Nat} {z : DV} (h : (if agD ti.d then some (DV.agg ((cs.drop off).take ti.size)) else cs[off]?) = some z) (hle : off + ti.size <= cs.length)
    (kv : VRL ρ m cs c.toList) (ov : ∀ u ∈ c.toList, u.oneCell' = true) {w : World} {r : Nat} {el : TypeId} {fr : Nat × Nat} (hh : w.heap[r]? = some (.cells c el fr)) :
    ∃ v', (loadVar t ⟨r, off, none⟩).run P w = .ok v' w /\ VR ρ m z v' := by
  have hl := kv.length
  simp at hl
  split at h
  · rename_i ha
    simp only [Option.some.injEq] at h; subst h
    exact ⟨_, (run_loadVar hk hh off (by omega)).1 ha, kv.aggPart ov off ti.size⟩
  · rename_i ha
    obtain ⟨u, hu, hr⟩ := kv.get off z h
    exact ⟨u, (run_loadVar hk hh off (by omega)).2 (by simpa using ha) u (by simpa using hu), hr⟩
end
section
variable {P : Program} {C : Cfg} (hT : ∀ t ti, C.T t = some ti -> TiOK P t ti)
include hT
theorem loadOp_ok {ρ : Rho} {m : Ro} {L : List Nat} {N : Nat} {h : Heap} {w : World} {t : Nat} {x z : DV} {a : Value} (e : loadOp C h t x = some z) (i : Inv ρ m L N h w) (hG : GlobOK C m) (hx : VR ρ m x a) :
    ∃ v, (Instr.loadAt t a).run P w = .ok v w /\ VR ρ m z v := by
  unfold loadOp at e
  split at e
  · simp at e
  · rename_i ti ht
    have hk := hT t ti ht
    split at e
    · rename_i b n j off
      simp only [VR] at hx
      obtain ⟨p, hp, rfl⟩ := hx
      split at e
      · rename_i cs hb
        split at e
        · rename_i hc
          obtain ⟨rfl, rfl, hle, hs0⟩ := hc
          obtain ⟨p', h1, h2, h3⟩ := i.blk b _ hb
          rw [hp] at h1; simp only [Option.some.injEq] at h1; subst h1
          simp only [BR] at h2
          obtain ⟨c, el, fr, g1, g2, g3, g4, g5, g6⟩ := h2
          obtain ⟨v', k1, k2⟩ := loadBox_ok hk e hle g5 g6 g1
          refine ⟨v', ?_, k2⟩
          rw [show p.base + 0 * cs.length + off = off by rw [g2]; simp]
          simpa [Instr.loadAt, Instr.sureAddr] using k1
        · simp at e
      · rename_i n' es hb
        split at e
        · rename_i hn; subst hn
          split at e
          · rename_i ee hee
            obtain ⟨p', h1, h2, h3⟩ := i.blk b _ hb
            rw [hp] at h1; simp only [Option.some.injEq] at h1; subst h1
            simp only [BR] at h2
            obtain ⟨c, el, fr, g1, g2, g3, g4, g5, g6, g7⟩ := h2
            obtain ⟨v, q1, q2, q3, q4⟩ := g7.get j ee hee
            obtain ⟨v', k1, k2⟩ := loadIn_ok hk e g1 q1 q2 q3 q4
            exact ⟨v', by simpa [Instr.loadAt, Instr.sureAddr] using k1, k2⟩
          · simp at e
        · simp at e
      · simp at e
    · rename_i n es j off
      simp only [VR] at hx
      obtain ⟨r, base, c, g1, g2, g3, g4, rfl⟩ := hx
      split at e
      · rename_i ee hee
        obtain ⟨v, q1, q2, q3, q4⟩ := g3.get j ee hee
        obtain ⟨el, fr, hh⟩ := i.ro r c g1
        obtain ⟨v', k1, k2⟩ := loadIn_ok hk e hh q1 q2 q3 q4
        exact ⟨v', by simpa [Instr.loadAt, Instr.sureAddr] using k1, k2⟩
      · simp at e
    · rename_i g off
      simp only [VR] at hx; subst hx
      split at e
      · rename_i cs hg
        split at e
        · rename_i hc
          obtain ⟨c, g1, g2, g3, g4⟩ := hG g cs hg
          obtain ⟨el, fr, hh⟩ := i.ro g c g1
          obtain ⟨v', k1, k2⟩ := loadBox_ok hk e hc.1 (VRL.rho (ρ := fun _ => none) _ (fun b hb => by rw [g3] at hb; cases hb) g2 : VRL ρ m cs c.toList) g4 hh
          exact ⟨v', by simpa [Instr.loadAt, Instr.sureAddr] using k1, k2⟩
        · simp at e
      · simp at e
    · simp at e
end
end Go.Det
end

section
namespace Go.Det
section
variable {ρ : Rho} {m : Ro}
theorem mentsL_set {l : List DV} {x : DV} (h : mentsL l = []) (hx : x.ments = []) (i : Nat) : mentsL (l.set i x) = [] :=
  mentsL_nil_iff.2 fun y hy => by
    rcases List.mem_or_eq_of_mem_set hy with hy | rfl
    · exact mentsL_nil_iff.1 h y hy
    · exact hx
theorem mentsL_over : ∀ (l : List DV) {cs : List DV} (o : Nat), mentsL cs = [] -> mentsL l = [] -> mentsL (over cs o l) = []
  | [], _, _, h, _ => h
  | x :: l, _, o, h, k => by
    simp only [mentsL, List.append_eq_nil_iff] at k
    exact mentsL_over l (o + 1) (mentsL_set h k.1 o) k.2
theorem pure_cells {x : DV} (h : x.pure = true) : mentsL x.cells = [] := by
  simp only [DV.pure, List.isEmpty_iff] at h
  cases x <;> first | (simp only [DV.cells, mentsL, List.append_nil]; exact h) | rfl | exact h
theorem VRE.put {n : Nat} {es : List DV} {c : Array Value} {base i off : Nat} {x y : DV} {u : Value} {ls : List Value} (h : VRE ρ m n es c base) (hi : es[i]? = some x) (hb : base + es.length * n <= c.size) (hoff : off + ls.length <= n)
    (hy : VR ρ m y u) (hu : u.cells.size = n) (h1 : ∀ z ∈ u.cells.toList, z.oneCell' = true)
    (hnew : ∀ j z, u.cells[j]? = some z -> (overA c (base + i * n + off) ls)[base + i * n + j]? = some z) : VRE ρ m n (es.set i y) (overA c (base + i * n + off) ls) base := by
  have hil : i < es.length := (List.getElem?_eq_some_iff.1 hi).1
  have hin : (i + 1) * n <= es.length * n := Nat.mul_le_mul_right n hil
  rw [Nat.succ_mul] at hin
  refine VRE.of_get fun k z hz => ?_
  by_cases e : k = i
  · subst e
    rw [List.getElem?_set_self hil] at hz
    simp only [Option.some.injEq] at hz; subst hz
    exact ⟨u, hy, hu, h1, hnew⟩
  · rw [List.getElem?_set_ne (Ne.symm e)] at hz
    obtain ⟨q, q1, q2, q3, q4⟩ := h.get k z hz
    refine ⟨q, q1, q2, q3, fun j s hs => ?_⟩
    have hj : j < n := by have := (Array.getElem?_eq_some_iff.1 hs).1; omega
    rw [overA_get ls c _ _ (by omega), if_neg ?_]
    · exact q4 j s hs
    · rintro ⟨a1, a2⟩
      rcases Nat.lt_or_gt_of_ne e with hlt | hgt
      · have : (k + 1) * n <= i * n := Nat.mul_le_mul_right n hlt
        rw [Nat.succ_mul] at this; omega
      · have : (i + 1) * n <= k * n := Nat.mul_le_mul_right n hgt
        rw [Nat.succ_mul] at this; omega
end
section
variable {P : Program} {C : Cfg} (hT : ∀ t ti, C.T t = some ti -> TiOK P t ti)
include hT
theorem storeOp_ok {w0 w : World} {ρ : Rho} {m : Ro} {L : List Nat} {h : Heap} {t : Nat} {x y : DV} {out : Out} {a c : Value} (e : storeOp C h t x y = some out) (i : Inv ρ m L w0.heap.size h w) (ev : Evo L w0 w) (hx : VR ρ m x a) (hy : VR ρ m y c) :
    ∃ w', (Instr.storeAt t a c).run P w = .ok () w' /\ Post L w0.heap.size h w0 w ρ m out undef w' ρ m := by
  have hun : VR ρ m (.tup []) undef := by simp only [VR, VRL, undef]; exact ⟨#[], rfl, rfl⟩
  unfold storeOp at e
  split at e
  · simp at e
  · rename_i ti ht
    have hk := hT t ti ht
    split at e
    · simp at e
    · rename_i hsz
      have hlen : y.cells.length = ti.size /\ ti.size ≠ 0 := by omega
      obtain ⟨hlen, hs0⟩ := hlen
      have hne : y.cells ≠ [] := by intro e0; rw [e0] at hlen; simp at hlen; omega
      obtain ⟨kv, ov⟩ := hy.cells hne
      have hcl : c.cells.toList.length = ti.size := by rw [kv.length, hlen]
      have hcs : c.cells.size = ti.size := by simpa using hcl
      split at e
      · rename_i b n j off
        simp only [VR] at hx
        obtain ⟨p, hp, rfl⟩ := hx
        split at e
        · rename_i cs hb
          split at e
          · rename_i hc
            obtain ⟨rfl, rfl, hle⟩ := hc
            simp only [Option.some.injEq] at e; subst e
            obtain ⟨p', h1, h2, h3, h4⟩ := i.blk b _ hb
            rw [hp] at h1; simp only [Option.some.injEq] at h1; subst h1
            simp only [BR] at h2
            obtain ⟨cc, el, fr, g1, g2, g3, g4, g5, g6⟩ := h2
            have hl5 := g5.length
            simp at hl5
            have hoff : p.base + 0 * cs.length + off = off := by rw [g2]; simp
            have hrun := run_storeVar hk g1 g4 off c hcs (by omega) ov
            refine ⟨World.setBlk w p.blk (.cells (overA cc off c.cells.toList) el fr), ?_, ⟨hun, Grows.refl _ m, fun _ _ => rfl, ?_, ?_⟩⟩
            · rw [hoff]; simpa [Instr.storeAt, Instr.sureAddr] using hrun
            · simp only [forgetH_nil, setAll]
              refine i.setBlk hb hp _ ?_ rfl
              simp only [BR]
              refine ⟨_, el, fr, ?_, g2, by rw [overA_size]; exact g3, ?_, VRL.over off g5 kv, overA_one _ _ _ g6 ov⟩
              · rw [setBlk_get]; simp [(Array.getElem?_eq_some_iff.1 g1).1]
              · intro o ho; rw [overA_size] at ho; exact g4 o ho
            · exact ev.setBlk _ h4.1
          · simp at e
        · rename_i n' es hb
          split at e
          · rename_i hc
            obtain ⟨rfl, hpure⟩ := hc
            obtain ⟨p', h1, h2, h3, h4⟩ := i.blk b _ hb
            rw [hp] at h1; simp only [Option.some.injEq] at h1; subst h1
            simp only [BR] at h2
            obtain ⟨cc, el, fr, g1, g2, g3, g4, g5, g6, g7⟩ := h2
            split at e
            · rename_i ee hee
              have hil : j < es.length := (List.getElem?_eq_some_iff.1 hee).1
              have hin : (j + 1) * n <= es.length * n := Nat.mul_le_mul_right n hil
              rw [Nat.succ_mul] at hin
              obtain ⟨q, q1, q2, q3, q4⟩ := g7.get j ee hee
              have key : ∀ (yy : DV) (u : Value), off + ti.size <= n -> VR ρ m yy u -> u.cells.size = n -> (∀ z ∈ u.cells.toList, z.oneCell' = true) -> yy.ments = [] -> 
                  (∀ k z, u.cells[k]? = some z -> (overA cc (p.base + j * n + off) c.cells.toList)[p.base + j * n + k]? = some z) -> 
                  ∃ w', (Instr.storeAt t (.pointer (some ⟨p.blk, p.base + j * n + off, none⟩)) c).run P w = .ok () w' /\ Post L w0.heap.size h w0 w ρ m { v := .tup [], δ := [(b, some (.row n (es.set j yy)))] } undef w' ρ m := by
                intro yy u hoff hyy hu h1 hm hnew
                have hrun := run_storeVar hk g1 g3 (p.base + j * n + off) c hcs (by omega) ov
                refine ⟨World.setBlk w p.blk (.cells (overA cc (p.base + j * n + off) c.cells.toList) el fr), by simpa [Instr.storeAt, Instr.sureAddr] using hrun, ⟨hun, Grows.refl _ m, fun _ _ => rfl, ?_, ?_⟩⟩
                · simp only [forgetH_nil, setAll]
                  refine i.setBlk hb hp _ ?_ rfl
                  simp only [BR]
                  refine ⟨_, el, fr, ?_, by rw [overA_size]; exact g2, ?_, g4, by simpa using g5, mentsL_set g6 hm j, VRE.put g7 hee (by omega) (by omega) hyy hu h1 hnew⟩
                  · rw [setBlk_get]; simp [(Array.getElem?_eq_some_iff.1 g1).1]
                  · intro o ho; rw [overA_size] at ho; exact g3 o ho
                · exact ev.setBlk _ h4.1
              split at e
              · rename_i hc
                obtain ⟨rfl, hsn⟩ := hc
                simp only [Option.some.injEq] at e; subst e
                refine key y c (by omega) hy (by omega) ov (by simpa [DV.pure, List.isEmpty_iff] using hpure) fun k z hz => ?_
                have hkz : k < c.cells.toList.length := by have := (Array.getElem?_eq_some_iff.1 hz).1; simpa using this
                rw [overA_get _ _ _ _ (by omega), if_pos (by omega)]
                rw [show p.base + j * n + k - (p.base + j * n + 0) = k by omega]
                simpa using hz
              · split at e
                · rename_i cs
                  split at e
                  · rename_i hle
                    simp only [Option.some.injEq] at e; subst e
                    simp only [VR] at q1
                    obtain ⟨vs, rfl, kvs, ovs⟩ := q1
                    change vs.size = n at q2
                    change ∀ (j_1 : Nat) (u : Value), vs[j_1]? = some u -> _ at q4
                    refine key (.agg (over cs off y.cells)) (.agg (overA vs off c.cells.toList)) (by omega) ?_ (by show (overA vs off c.cells.toList).size = n; rw [overA_size]; exact q2) ?_ ?_ ?_
                    · simp only [VR]
                      exact ⟨_, rfl, VRL.over off kvs kv, overA_one _ _ _ ovs ov⟩
                    · exact overA_one _ _ _ ovs ov
                    · simp only [DV.ments]
                      exact mentsL_over _ _ (by have := mentsL_nil_iff.1 g6 _ (List.mem_of_getElem? hee); simpa [DV.ments] using this) (pure_cells hpure)
                    · intro k z hz
                      change (overA vs off c.cells.toList)[k]? = some z at hz
                      have hkn : k < n := by have := (Array.getElem?_eq_some_iff.1 hz).1; rw [overA_size] at this; omega
                      rw [overA_get _ _ _ _ (by omega)] at hz
                      rw [overA_get _ _ _ _ (by omega)]
                      split at hz
                      · rename_i hr
                        rw [if_pos (by omega), show p.base + j * n + k - (p.base + j * n + off) = k - off by omega]
                        exact hz
                      · rename_i hr
                        rw [if_neg (by omega)]
                        exact q4 k z hz
                  · simp at e
                · simp at e
            · simp at e
          · simp at e
        · simp at e
      · simp at e
end
end Go.Det
end

section
namespace Go.Det
section
variable {ρ : Rho} {m : Ro}
theorem post_grow {w0 w w' : World} {L : List Nat} {h : Heap} (i : Inv ρ m L w0.heap.size h w) (ev : Evo L w0 w) (hold : ∀ r, r < w.heap.size -> w'.heap[r]? = w.heap[r]?) (h1 : w'.os = w.os) (h2 : w'.tape = w.tape) (h3 : w'.output = w.output) (h4 : w.heap.size <= w'.heap.size)
    (d : Nat) (x : Blk) (sz : Nat) (hx : BR (upd ρ d ⟨w.heap.size, 0, sz⟩) m w' ⟨w.heap.size, 0, sz⟩ x) {v : DV} {v' : Value} (val : VR (upd ρ d ⟨w.heap.size, 0, sz⟩) m v v') :
    Post L w0.heap.size h w0 w ρ m { v := v, δ := [(d, some x)], φ := [d] } v' w' (upd ρ d ⟨w.heap.size, 0, sz⟩) m :=
  ⟨val, Grows.refl _ m, fun b hb => (upd_other _ _ _ (by simpa using hb)).symm, by simp only [setAll]; exact i.grow ev.size hold [d] d (by simp) x sz hx, ev.grow hold h1 h2 h3 h4⟩
theorem post_alloc {w0 w : World} {L : List Nat} {h : Heap} (i : Inv ρ m L w0.heap.size h w) (ev : Evo L w0 w) (o : Obj) (d : Nat) (x : Blk) (sz : Nat) (hx : BR (upd ρ d ⟨w.heap.size, 0, sz⟩) m (w.alloc o) ⟨w.heap.size, 0, sz⟩ x) {v : DV} {v' : Value} (val : VR (upd ρ d ⟨w.heap.size, 0, sz⟩) m v v') :
    Post L w0.heap.size h w0 w ρ m { v := v, δ := [(d, some x)], φ := [d] } v' (w.alloc o) (upd ρ d ⟨w.heap.size, 0, sz⟩) m :=
  post_grow i ev (fun r hr => alloc_get_lt w o hr) rfl rfl rfl (by rw [World.size_alloc]; omega) d x sz hx val
theorem post_same {w0 w : World} {L : List Nat} {h : Heap} (i : Inv ρ m L w0.heap.size h w) (ev : Evo L w0 w) {v : DV} {v' : Value} (val : VR ρ m v v') : Post L w0.heap.size h w0 w ρ m { v := v } v' w ρ m :=
  ⟨val, Grows.refl _ m, fun _ _ => rfl, by simp only [forgetH_nil, setAll]; exact i, ev⟩
theorem nf_zero (c : Array Value) : nf c (0, 0) := fun o _ ⟨_, h⟩ => by simp at h
theorem VRL.of_get : ∀ {l : List DV} {vs : List Value}, vs.length = l.length -> (∀ (i : Nat) (x : DV), l[i]? = some x -> ∃ v, vs[i]? = some v /\ VR ρ m x v) -> VRL ρ m l vs
  | [], vs, hl, _ => by simp only [VRL]; exact List.length_eq_zero_iff.1 hl
  | x :: l, [], hl, _ => by simp at hl
  | x :: l, v :: vs, hl, h => by
    obtain ⟨v', h1, h2⟩ := h 0 x rfl
    simp at h1; subst h1
    exact VRL.cons h2 (VRL.of_get (by simpa using hl) fun i y hy => by simpa using h (i + 1) y (by simpa using hy))
theorem zeros_length (k : Nat) (z : List DV) : (zeros k z).length = k * z.length := by
  induction k with
  | zero => simp [zeros]
  | succ k ih => simp only [zeros, List.replicate_succ, List.flatten_cons, List.length_append] at ih ⊢; rw [ih, Nat.succ_mul]; omega
theorem zeros_get (k : Nat) (z : List DV) (i : Nat) (hi : i < k * z.length) : (zeros k z)[i]? = z[i % z.length]? := by
  induction k generalizing i with
  | zero => simp at hi
  | succ k ih =>
    simp only [zeros, List.replicate_succ, List.flatten_cons]
    rw [Nat.succ_mul] at hi
    by_cases h : i < z.length
    · rw [List.getElem?_append_left h, Nat.mod_eq_of_lt h]
    · rw [List.getElem?_append_right (by omega)]
      have := ih (i - z.length) (by omega)
      simp only [zeros] at this
      rw [this]
      congr 1
      rw [← Nat.mod_eq_sub_mod (by omega)]
theorem zeros_ok {z : List DV} {zv : Array Value} (h : VRL ρ m z zv.toList) (k n : Nat) (hn : n = k * z.length) : VRL ρ m (zeros k z) (madeCells zv n).toList := by
  subst hn
  have hl := h.length
  simp at hl
  refine VRL.of_get (by simp [madeCells, zeros_length]) fun i x hx => ?_
  have hi : i < k * z.length := by have := (List.getElem?_eq_some_iff.1 hx).1; rwa [zeros_length] at this
  rw [zeros_get k z i hi] at hx
  obtain ⟨v, h1, h2⟩ := h.get _ x hx
  refine ⟨v, ?_, h2⟩
  have h3 : zv[i % z.length]? = some v := by simpa using h1
  obtain ⟨hlt, hv⟩ := Array.getElem?_eq_some_iff.1 h3
  simp only [madeCells, Array.toList_map, List.getElem?_map, Array.toList_range, List.getElem?_range hi, Option.map_some, hl]
  rw [getElem!_pos zv _ hlt, hv]
theorem made_one {zv : Array Value} (h : ∀ u ∈ zv.toList, u.oneCell' = true) (hz : 0 < zv.size) (n : Nat) : ∀ u ∈ (madeCells zv n).toList, u.oneCell' = true := by
  intro u hu
  simp only [madeCells, Array.toList_map, List.mem_map] at hu
  obtain ⟨i, _, rfl⟩ := hu
  have hlt : i % zv.size < zv.size := Nat.mod_lt _ hz
  rw [getElem!_pos zv _ hlt]
  exact h _ (by simp)
theorem rowOf_ok {ag : Bool} {n : Nat} (hag : ag = true \/ n = 1) : ∀ (k : Nat) {cs : List DV} {vs : List Value} {c : Array Value} {o : Nat}, VRL ρ m cs vs -> cs.length = k * n -> (∀ u ∈ vs, u.oneCell' = true) -> (∀ j u, vs[j]? = some u -> c[o + j]? = some u) -> 
    VRE ρ m n (rowOf ag n k cs) c o
  | 0, _, _, _, _, _, _, _, _ => by simp [rowOf, VRE]
  | k + 1, cs, vs, c, o, h, hl, h1, hc => by
    rw [Nat.succ_mul] at hl
    have hvl := h.length
    simp only [rowOf, VRE]
    refine ⟨?_, rowOf_ok hag k (h.drop n) (by simp; omega) (fun u hu => h1 u (List.mem_of_mem_drop hu)) (fun j u hu => by rw [List.getElem?_drop] at hu; rw [Nat.add_assoc]; exact hc _ _ hu)⟩
    have ht := h.take n
    have hone : ∀ u ∈ vs.take n, u.oneCell' = true := fun u hu => h1 u (List.mem_of_mem_take hu)
    have hcc : ∀ j u, (vs.take n)[j]? = some u -> c[o + j]? = some u := fun j u hu => by
      rw [List.getElem?_take] at hu
      split at hu
      · exact hc _ _ hu
      · cases hu
    cases ag with
    | true =>
      refine ⟨.agg (vs.take n).toArray, ?_, by simp [Value.cells]; omega, by simpa [Value.cells] using hone, fun j u hu => hcc j u (by simpa [Value.cells] using hu)⟩
      simp only [whole, if_true, VR]
      exact ⟨_, rfl, by simpa using ht, by simpa using hone⟩
    | false =>
      have hn1 : n = 1 := by
        rcases hag with h' | h'
        · cases h'
        · exact h'
      subst hn1
      cases cs with
      | nil => simp at hl
      | cons x cs =>
        simp only [VRL] at h
        obtain ⟨v, r, rfl, h2, h3⟩ := h
        have ho := h1 v (by simp)
        refine ⟨v, by simpa [whole] using h2, by rw [oneCells ho]; rfl, by rw [oneCells ho]; simpa using ho, fun j u hu => ?_⟩
        rw [oneCells ho] at hu
        cases j with
        | zero => exact hc 0 u (by simpa using hu)
        | succ j => simp at hu
theorem rowOf_length (ag : Bool) (n : Nat) : ∀ (k : Nat) (cs : List DV), (rowOf ag n k cs).length = k
  | 0, _ => rfl
  | k + 1, cs => by simp [rowOf, rowOf_length ag n k]
theorem run_buildSlice' {P : Program} {t e len : Nat} {i : TypeInfo} {z : Value} (hu : P.underlying t = some (.slice e)) (hi : P.info? e = some i) (hz : i.zero = some z) (hs : ¬ (len * i.size > 2 ^ 24)) (h0 : len * i.size = 0 -> madeCells z.cells 0 = #[]) {parts : Array (Nat × Value)} {c : Array Value}
    (hf : Instr.fill (fun k => some (k * i.size, i.size)) (madeCells z.cells (len * i.size)) parts.toList = some c) (w : World) :
    (Instr.buildSlice t len parts).run P w = .ok (.slice (some ⟨w.heap.size, 0, none⟩) len len) (w.alloc (.cells c e)) := by
  by_cases h : len * i.size = 0
  · rw [h, h0 h] at hf
    simp [Instr.buildSlice, run_underlying hu, sizeOf, typeInfo, hi, h, newRow, hf, Array.range_zero']
  · simp only [madeCells] at hf
    simp [Instr.buildSlice, run_underlying hu, sizeOf, typeInfo, zeroValue, hi, hz, h, hs, newRow, hf]
variable {P : Program} {C : Cfg} (hT : ∀ t ti, C.T t = some ti -> TiOK P t ti)
include hT
theorem sliceLit_ok {w0 w : World} {L : List Nat} {h : Heap} {own : Bool} {dst t len : Nat} {ps : List (Nat × DV)} {ps' : Array (Nat × Value)} {out : Out} (e : sliceLit C own dst t len ps = some out) (i : Inv ρ m L w0.heap.size h w) (ev : Evo L w0 w) (hf : PR ρ m ps ps'.toList) :
    ∃ v' w' ρ' m', (Instr.buildSlice t len ps').run P w = .ok v' w' /\ Post L w0.heap.size h w0 w ρ m out v' w' ρ' m' := by
  unfold sliceLit at e
  split at e
  · rename_i ti ht
    obtain ⟨dd, hu, hd⟩ := (hT t ti ht).desc
    split at e
    · rename_i el he
      rw [he] at hd; simp only [TdOK] at hd; subst hd
      split at e
      · rename_i te ag hte hag
        split at e
        · simp at e
        · rename_i hcond
          have hs0 : te.size ≠ 0 := by omega
          have hsz : ¬ (2 ^ 20 < len * te.size) := by omega
          have hzl : te.zero.length = te.size := by omega
          have hag1 : ag = true \/ te.size = 1 := by
            cases ag with
            | true => exact .inl rfl
            | false => exact .inr (Decidable.byContradiction fun h1 => hcond (.inr (.inr (.inl ⟨rfl, h1⟩))))
          split at e
          · rename_i cs hcs
            obtain ⟨ie, ze, hie, hze, hse, hbe, kz, oz⟩ := zero_ok (ρ := ρ) (m := m) hT hte (by intro e0; rw [e0] at hzl; simp at hzl; omega)
            have hzsz : ze.cells.size = te.size := by have := kz.length; simp at this; omega
            obtain ⟨c', g1, g2, g3, g4⟩ := fill_ok ps ps'.toList hcs (zeros_ok kz len (len * te.size) (by rw [hzl])) (made_one oz (by omega) _) hf
            have hcl : cs.length = len * te.size := by
              have := g2.length
              simp [g4, size_madeCells] at this; omega
            have hrun := run_buildSlice' (P := P) (t := t) (e := el) (len := len) hu hie hze (by rw [hse]; omega) (by intro _; simp [madeCells]) (parts := ps') (c := c') (by rw [hse]; exact g1) w
            have hVRE : VRE ρ m te.size (rowOf ag te.size len cs) c' 0 := rowOf_ok hag1 len g2 hcl g3 (fun j u hu => by simpa using hu)
            dsimp only at e
            split at e
            · rename_i hpure
              have hm : mentsL (rowOf ag te.size len cs) = [] := by simpa [pureL, List.isEmpty_iff] using hpure
              split at e
              · simp only [Option.some.injEq] at e; subst e
                refine ⟨_, _, _, _, hrun, post_alloc i ev (.cells c' el) dst _ (len * te.size) ?_ ?_⟩
                · simp only [BR]
                  refine ⟨c', el, (0, 0), alloc_get_new w _, by simp [g4, size_madeCells], nf_zero _, by omega, by simp [rowOf_length], hm, VRE.rho _ (by rw [hm]; simp) hVRE⟩
                · simp only [VR]
                  exact ⟨_, len, upd_same .., Nat.le_refl _, by simp, by simp⟩
              · simp only [Option.some.injEq] at e; subst e
                have hsub := sub_seal1 c' i.new_ro
                refine ⟨_, _, ρ, seal1 m w.heap.size c', hrun, ⟨?_, ⟨hsub, fun r hr => by show (if r = w.heap.size then some c' else m r) = m r; rw [if_neg (by have := ev.size; omega)], fun _ _ h => h⟩, fun _ _ => rfl, by simp only [forgetH_nil, setAll]; exact i.allocSealed c' el (0, 0), ev.alloc _⟩⟩
                simp only [VR]
                refine ⟨some ⟨w.heap.size, 0, none⟩, len, by simp [rowOf_length], by rw [rowOf_length], hm, .inr ⟨w.heap.size, 0, c', by simp [seal1], rfl, VRE.mono hsub _ hVRE⟩⟩
            · simp at e
          · simp at e
      · simp at e
    · simp at e
  · simp at e
end
end Go.Det
end

section
namespace Go.Det
section
variable {P : Program} {C : Cfg} (hT : ∀ t ti, C.T t = some ti -> TiOK P t ti)
include hT
theorem alloc_ok {ρ : Rho} {m : Ro} {w0 w : World} {L : List Nat} {h : Heap} {e : Nat} {te : Ti} {d : Nat} (hte : C.T e = some te) (hz : te.zero.length = te.size /\ te.size ≠ 0) (i : Inv ρ m L w0.heap.size h w) (ev : Evo L w0 w) :
    ∃ v' w' ρ' m', (Instr.alloc e true (.tuple #[])).run P w = .ok v' w' /\ Post L w0.heap.size h w0 w ρ m { v := .ptr d te.size 0 0, δ := [(d, some (.box te.zero))], φ := [d] } v' w' ρ' m' := by
  obtain ⟨ie, z, hi, hz', hse, hbe, kz, oz⟩ := zero_ok (ρ := fun _ => none) (m := m) hT hte (by intro e0; rw [e0] at hz; simp at hz; omega)
  have hzsz : z.cells.size = te.size := by have := kz.length; simp at this; omega
  obtain ⟨_, _, _, _, hzz⟩ := (hT e te hte).info
  have hm : mentsL te.zero = [] := by
    obtain ⟨_, _, _, _, hh⟩ := hzz (by intro e0; rw [e0] at hz; simp at hz; omega)
    exact hh
  refine ⟨.pointer (some ⟨w.heap.size, 0, none⟩), _, _, m, ?_, post_alloc i ev (.cells z.cells e) d _ te.size ?_ ?_⟩
  · simp [Instr.alloc, zeroValue, typeInfo, hi, hz', newVar, newRow]
  · simp only [BR]
    exact ⟨z.cells, e, (0, 0), alloc_get_new w _, by simp, hzsz, nf_zero _, VRL.rho _ (by rw [hm]; simp) kz, oz⟩
  · simp only [VR]
    exact ⟨_, upd_same .., by simp⟩
omit hT in
theorem box_ok {ρ : Rho} {m : Ro} {w0 w : World} {L : List Nat} {h : Heap} {e : Nat} {te : Ti} {d : Nat} {x : DV} {a : Value} (hte : C.T e = some te) (hz : x.cells.length = te.size /\ te.size ≠ 0) (i : Inv ρ m L w0.heap.size h w) (ev : Evo L w0 w) (hx : VR ρ m x a) :
    ∃ v' w' ρ' m', (Instr.box e a).run P w = .ok v' w' /\ Post L w0.heap.size h w0 w ρ m { v := .ptr d te.size 0 0, δ := [(d, some (.box (forgetL [d] x.cells)))], φ := [d] } v' w' ρ' m' := by
  obtain ⟨kv, ov⟩ := hx.cells (by intro e0; rw [e0] at hz; simp at hz; omega)
  have hl := kv.length
  simp at hl
  refine ⟨.pointer (some ⟨w.heap.size, 0, none⟩), _, _, m, ?_, post_alloc i ev (.cells a.cells e) d _ te.size ?_ ?_⟩
  · simp [Instr.box, newVar, newRow]
  · simp only [BR]
    exact ⟨a.cells, e, (0, 0), alloc_get_new w _, by simp, by omega, nf_zero _, VRL.step (Sub.refl m) [d] (fun b hb => (upd_other _ _ _ (by simpa using hb)).symm) _ kv, ov⟩
  · simp only [VR]
    exact ⟨_, upd_same .., by simp⟩
omit hT in
theorem replicate_ments (k : Nat) {x : DV} (h : x.ments = []) : mentsL (List.replicate k x) = [] :=
  mentsL_nil_iff.2 fun y hy => by rw [(List.mem_replicate.1 hy).2]; exact h
theorem makeSliceOp_ok {ρ : Rho} {m : Ro} {w0 w : World} {L : List Nat} {h : Heap} {dst t : Nat} {l c : DV} {a b : Value} {out : Out} (e : makeSliceOp C dst t l c = some out) (i : Inv ρ m L w0.heap.size h w) (ev : Evo L w0 w) (hl : VR ρ m l a) (hc : VR ρ m c b) :
    ∃ v' w' ρ' m', (Instr.makeSlice t a b).run P w = .ok v' w' /\ Post L w0.heap.size h w0 w ρ m out v' w' ρ' m' := by
  unfold makeSliceOp at e
  split at e
  · rename_i ti ln cn ht hln hcn
    obtain ⟨kl, il, rfl, hl0, hl1⟩ := asNat_ok hln hl
    obtain ⟨kc, ic, rfl, hc0, hc1⟩ := asNat_ok hcn hc
    obtain ⟨dd, hu, hd⟩ := (hT t ti ht).desc
    split at e
    · rename_i el he
      rw [he] at hd; simp only [TdOK] at hd; subst hd
      split at e
      · rename_i te ag hte hag
        split at e
        · simp at e
        · rename_i hcond
          simp only [Option.some.injEq] at e; subst e
          have hs0 : te.size ≠ 0 := fun h1 => hcond (.inl h1)
          have hlc : ln <= cn := by have := fun h1 => hcond (.inr (.inl h1)); omega
          have hro : te.bytes * cn <= 2 ^ 32 := by
            have h1 : ¬ (roomy te.bytes cn = false) := fun h1 => hcond (.inr (.inr (.inl h1)))
            simp [roomy] at h1; exact h1.2
          have hcb : cn <= 2 ^ 32 := by have := fun h1 => hcond (.inr (.inr (.inr (.inl h1)))); omega
          have hag1 : ag = true \/ te.size = 1 := by
            cases ag with
            | true => exact .inl rfl
            | false => exact .inr (Decidable.byContradiction fun h1 => hcond (.inr (.inr (.inr (.inr (.inl ⟨rfl, h1⟩))))))
          have hzl : te.zero.length = te.size := Decidable.byContradiction fun h1 => hcond (.inr (.inr (.inr (.inr (.inr h1)))))
          obtain ⟨ie, ze, hie, hze, hse, hbe, kz, oz⟩ := zero_ok (ρ := ρ) (m := m) hT hte (by intro e0; rw [e0] at hzl; simp at hzl; omega)
          have hzsz : ze.cells.size = te.size := by have := kz.length; simp at this; omega
          have hm0 : mentsL te.zero = [] := by
            obtain ⟨_, _, _, _, hzz⟩ := (hT el te hte).info
            obtain ⟨_, _, _, _, hh⟩ := hzz (by intro e0; rw [e0] at hzl; simp at hzl; omega)
            exact hh
          have hrun := run_make (P := P) w t el ie ze hu hie hze kl kc il ic hl0 (by omega) (by
            rw [hbe]
            have h1 : ((te.bytes * cn : Nat) : Int) <= 2 ^ 32 := by exact_mod_cast hro
            rw [Int.natCast_mul] at h1
            have : (cn : Int) = ic := by omega
            rw [this] at h1; omega) (by omega)
          rw [hl1, hc1, hse] at hrun
          have hwm : (whole ag te.zero).ments = [] := by
            cases ag with
            | true => simpa [whole, DV.ments] using hm0
            | false =>
              cases hzz : te.zero with
              | nil => rfl
              | cons x l => rw [hzz] at hm0; simp only [mentsL, List.append_eq_nil_iff] at hm0; exact hm0.1
          refine ⟨_, _, _, m, hrun, post_alloc i ev (.cells (madeCells ze.cells (cn * te.size)) el) dst _ (cn * te.size) ?_ ?_⟩
          · simp only [BR]
            refine ⟨_, el, (0, 0), alloc_get_new w _, by simp [size_madeCells], nf_zero _, by omega, by simp, replicate_ments _ hwm, ?_⟩
            have hrow : List.replicate cn (whole ag te.zero) = rowOf ag te.size cn (zeros cn te.zero) := by
              clear hrun hcond hlc hro hcb hc1 hcn
              induction cn with
              | zero => rfl
              | succ k ih =>
                simp only [List.replicate_succ, rowOf, zeros, List.flatten_cons]
                rw [List.take_append_of_le_length (by omega), List.take_of_length_le (by omega), List.drop_append_of_le_length (by omega), List.drop_of_length_le (by omega), List.nil_append]
                rw [ih]; rfl
            rw [hrow]
            refine VRE.rho _ (by rw [← hrow, replicate_ments _ hwm]; simp) (rowOf_ok hag1 cn (zeros_ok kz cn (cn * te.size) (by rw [hzl])) (by rw [zeros_length, hzl]) (made_one oz (by omega) _) (fun j u hu => by simpa using hu))
          · simp only [VR]
            exact ⟨_, cn, upd_same .., hlc, by simp, by simp⟩
      · simp at e
    · simp at e
  · simp at e
end
end Go.Det
end

section
namespace Go.Det
section
variable {P : Program} {C : Cfg} (hT : ∀ t ti, C.T t = some ti -> TiOK P t ti)
theorem VRE.flat {ρ : Rho} {m : Ro} {n : Nat} : ∀ {l : List DV} {c : Array Value} {o : Nat}, VRE ρ m n l c o -> 
    ∃ vs : List Value, vs.length = l.length * n /\ (∀ j u, vs[j]? = some u -> c[o + j]? = some u) /\ (∀ u ∈ vs, u.oneCell' = true) /\ ∀ (c' : Array Value) (o' : Nat), (∀ j u, vs[j]? = some u -> c'[o' + j]? = some u) -> VRE ρ m n l c' o'
  | [], c, o, _ => ⟨[], by simp, by simp, by simp, fun c' o' _ => by simp [VRE]⟩
  | x :: l, c, o, h => by
    simp only [VRE] at h
    obtain ⟨⟨v, h1, h2, h3, h4⟩, h5⟩ := h
    obtain ⟨vs, k1, k2, k3, k4⟩ := VRE.flat h5
    have hl : v.cells.toList.length = n := by simpa using h2
    refine ⟨v.cells.toList ++ vs, by rw [List.length_append, hl, k1, List.length_cons, Nat.succ_mul]; omega, ?_, ?_, ?_⟩
    · intro j u hu
      by_cases hj : j < n
      · rw [List.getElem?_append_left (by omega)] at hu
        exact h4 j u (by simpa using hu)
      · rw [List.getElem?_append_right (by omega), hl] at hu
        have := k2 _ u hu
        rwa [show o + n + (j - n) = o + j by omega] at this
    · intro u hu
      rcases List.mem_append.1 hu with hu | hu
      · exact h3 u hu
      · exact k3 u hu
    · intro c' o' hc
      simp only [VRE]
      refine ⟨⟨v, h1, h2, h3, fun j u hu => ?_⟩, k4 c' (o' + n) fun j u hu => ?_⟩
      · have hj : j < n := by have := (Array.getElem?_eq_some_iff.1 hu).1; omega
        exact hc j u (by rw [List.getElem?_append_left (by omega)]; simpa using hu)
      · rw [Nat.add_assoc]
        exact hc _ u (by rw [List.getElem?_append_right (by omega), hl, show n + j - n = j by omega]; exact hu)
theorem elems_ok {ρ : Rho} {m : Ro} {L : List Nat} {N : Nat} {h : Heap} {w : World} {n : Nat} {x : DV} {es : List DV} {a : Value} (e : elems h n x = some es) (i : Inv ρ m L N h w) (hx : VR ρ m x a) (hn : n ≠ 0) :
    ∃ vs : List Value, mentsL es = [] /\ vs.length = es.length * n /\ (∀ u ∈ vs, u.oneCell' = true) /\ (∀ c' o', (∀ j u, vs[j]? = some u -> c'[o' + j]? = some u) -> VRE ρ m n es c' o') /\ (∀ w', (Builtin.lenOf a).run P w' = .ok es.length w') /\
      (∀ w' : World, w'.heap = w.heap -> ∀ k, k <= es.length -> (Builtin.firstCells n k a).run P w' = .ok (vs.take (k * n)).toArray w') := by
  have cells : ∀ {r o : Nat} {c : Array Value} {el : TypeId} {fr : Nat × Nat}, w.heap[r]? = some (.cells c el fr) -> ∀ {vs : List Value}, vs.length = es.length * n -> (∀ j u, vs[j]? = some u -> c[o + j]? = some u) -> 
      ∀ w' : World, w'.heap = w.heap -> ∀ k ln cap, k <= es.length -> (Builtin.firstCells n k (.slice (some ⟨r, o, none⟩) ln cap)).run P w' = .ok (vs.take (k * n)).toArray w' := by
    intro r o c el fr hh vs hvl hv w' hw k ln cap hk
    have hle : k * n <= es.length * n := Nat.mul_le_mul_right n hk
    have hl : (vs.take (k * n)).length = k * n := by simp; omega
    have := run_firstCells_some (P := P) w' n k ⟨r, o, none⟩ ln cap (vs.take (k * n)) hl (fun j u hu => by
      rw [List.getElem?_take] at hu
      split at hu
      · rw [add_at, cell_at (by rw [hw]; exact hh)]
        exact hv j u hu
      · cases hu)
    exact this
  unfold elems at e
  split at e
  · simp only [Option.some.injEq] at e; subst e
    simp only [VR] at hx; subst hx
    exact ⟨[], rfl, by simp, by simp, fun _ _ _ => by simp [VRE], fun _ => rfl, fun w' _ k hk => by simp [Builtin.firstCells]⟩
  · rename_i m' es'
    split at e
    · rename_i hc
      simp only [Option.some.injEq] at e; subst e
      simp only [VR] at hx
      obtain ⟨aa, cap, hcap, rfl, hm, hes⟩ := hx
      rcases hes with rfl | ⟨r, base, c, g1, rfl, g3⟩
      · refine ⟨[], rfl, by simp, by simp, fun _ _ _ => by simp [VRE], fun _ => rfl, fun w' _ k hk => ?_⟩
        have : k = 0 := by simpa using hk
        subst this
        cases aa <;> simp [Builtin.firstCells, loadCells, loadCellsFrom]
      · rcases hc with rfl | rfl
        · obtain ⟨el, fr, hh⟩ := i.ro r c g1
          obtain ⟨vs, k1, k2, k3, k4⟩ := g3.flat
          exact ⟨vs, hm, k1, k3, k4, fun _ => rfl, fun w' hw k hk => cells hh k1 k2 w' hw k _ _ hk⟩
        · refine ⟨[], rfl, by simp, by simp, fun _ _ _ => by simp [VRE], fun _ => rfl, fun w' _ k hk => ?_⟩
          have : k = 0 := by simpa using hk
          subst this
          simp [Builtin.firstCells, loadCells, loadCellsFrom]
    · simp at e
  · rename_i b m' off len
    split at e
    · rename_i m'' es' hb
      split at e
      · rename_i hc
        obtain ⟨rfl, rfl, hle⟩ := hc
        simp only [Option.some.injEq] at e; subst e
        simp only [VR] at hx
        obtain ⟨p, cap, hp, hcap, hsize, rfl⟩ := hx
        obtain ⟨p', h1, h2, h3⟩ := i.blk b _ hb
        rw [hp] at h1; simp only [Option.some.injEq] at h1; subst h1
        simp only [BR] at h2
        obtain ⟨c, el, fr, g1, g2, g3, g4, g5, g6, g7⟩ := h2
        obtain ⟨vs, k1, k2, k3, k4⟩ := ((g7.drop off).take len).flat
        have hlen : ((es'.drop off).take len).length = len := by simp; omega
        exact ⟨vs, mentsL_take _ (mentsL_drop _ g6), k1, k3, k4, fun _ => by rw [hlen]; rfl, fun w' hw k hk => cells g1 k1 k2 w' hw k _ _ hk⟩
      · simp at e
    · simp at e
  · rename_i s
    split at e
    · rename_i hn1; subst hn1
      simp only [Option.some.injEq] at e; subst e
      simp only [VR] at hx; subst hx
      refine ⟨s.map fun c => Value.int .u8 c.toNat, ?_, by simp, ?_, ?_, fun _ => ?_, fun w' _ k hk => ?_⟩
      · exact mentsL_nil_iff.2 fun y hy => by
          obtain ⟨c, _, rfl⟩ := List.mem_map.1 hy; rfl
      · intro u hu
        obtain ⟨c, _, rfl⟩ := List.mem_map.1 hu; rfl
      · intro c' o' hc
        refine VRE.of_get fun j y hy => ?_
        rw [List.getElem?_map] at hy
        simp only [Option.map_eq_some_iff] at hy
        obtain ⟨q, hq, rfl⟩ := hy
        refine ⟨.int .u8 q.toNat, rfl, rfl, by simp [Value.cells, Value.oneCell'], fun k u hu => ?_⟩
        cases k with
        | zero =>
          simp [Value.cells] at hu; subst hu
          rw [Nat.mul_one, Nat.add_zero]
          exact hc j _ (by rw [List.getElem?_map, hq]; rfl)
        | succ k => simp [Value.cells] at hu
      · simp [Builtin.lenOf]; rfl
      · simp only [List.length_map] at hk
        simp only [Builtin.firstCells, Sem.run_pure]
        congr 1
        apply Array.ext'
        simp only [Array.toList_map, Nat.mul_one]
        have : ((⟨s.toArray⟩ : ByteArray).extract 0 k).data.toList = s.take k := by
          rw [Lib.extract_data]; simp
        rw [this, List.map_take]
    · simp at e
  · simp at e
theorem setCells_over {r : Nat} {el : TypeId} {fr : Nat × Nat} : ∀ (vs : List Value) (o : Nat) (c : Array Value) (w : World), w.heap[r]? = some (.cells c el fr) -> w.setCells r o vs = World.setBlk w r (.cells (overA c o vs) el fr)
  | [], o, c, w, hh => by simp only [Go.World.setCells, overA]; rw [setBlk_self hh]
  | v :: vs, o, c, w, hh => by
    simp only [Go.World.setCells, overA]
    rw [setCell_cells hh]
    have hlt := (Array.getElem?_eq_some_iff.1 hh).1
    rw [setCells_over (el := el) (fr := fr) vs (o + 1) (c.setIfInBounds o v) _ (by rw [setBlk_get]; simp [hlt]), setBlk_setBlk]
theorem row_new {ρ : Rho} {m : Ro} {w0 w w' : World} {L : List Nat} {h : Heap} (i : Inv ρ m L w0.heap.size h w) (ev : Evo L w0 w) {cells : Array Value} {el : TypeId} (hw : w' = w.drew.alloc (.cells cells el)) (φ : List Nat) (dst n len cap : Nat) (hd : dst ∈ φ) (es : List DV) (δ : List (Nat × Option Blk))
    (hδ : ∀ b x, hget (setAll (forgetH φ h) δ) b = some x -> hget ((forgetH φ h).set dst (some (.row n es))) b = some x) (hn : 0 < n) (hm : mentsL es = []) (hl : es.length = len) (hcap : len <= cap) (hs : cells.size = cap * n)
    (hE : VRE ρ m n es cells 0) : Post L w0.heap.size h w0 w ρ m { v := .rsl dst n 0 len, δ := δ, φ := φ } (.slice (some ⟨w.heap.size, 0, none⟩) len cap) w' (upd ρ dst ⟨w.heap.size, 0, cap * n⟩) m := by
  subst hw
  have hle : len * n <= cap * n := Nat.mul_le_mul_right n hcap
  have hold : ∀ r, r < w.heap.size -> (w.drew.alloc (.cells cells el)).heap[r]? = w.heap[r]? := fun r hr => alloc_get_lt w.drew _ hr
  refine ⟨?_, Grows.refl _ m, fun b hb => (upd_other _ _ _ (fun e => hb (by rw [e]; exact hd))).symm, ?_, ev.grow hold rfl rfl rfl (by rw [World.size_alloc]; show w.heap.size <= w.heap.size + 1; omega)⟩
  · simp only [VR]
    exact ⟨_, cap, upd_same .., hcap, by simp, by simp⟩
  · refine (i.grow ev.size hold φ dst hd (.row n es) (cap * n) ?_).less hδ
    simp only [BR]
    exact ⟨cells, el, (0, 0), alloc_get_new w.drew _, hs, nf_zero _, hn, by rw [hl]; simpa using hle, hm, VRE.rho _ (by rw [hm]; simp) hE⟩
include hT
omit hT in
theorem roomy_le {b k : Nat} (h : roomy b k = true) : k <= 4294967296 /\ b * k <= 4294967296 := by simpa [roomy] using h
theorem appendOp_ok {ρ : Rho} {m : Ro} {w0 w : World} {L : List Nat} {h : Heap} {dst t tx : Nat} {s x : DV} {a c : Value} {out : Out} (e : appendOp C h dst t s x = some out) (i : Inv ρ m L w0.heap.size h w) (ev : Evo L w0 w) (hs : VR ρ m s a) (hx : VR ρ m x c)
    (hk : (∃ e', P.underlying tx = some (.slice e')) \/ P.underlying tx = some .string) (ty : TypeId) :
    ∃ v' w' ρ' m', (Builtin.append_ #[t, tx] ty #[a, c]).run P w = .ok v' w' /\ Post L w0.heap.size h w0 w ρ m out v' w' ρ' m' := by
  unfold appendOp at e
  split at e
  · rename_i ti ht
    obtain ⟨dd, hu, hd⟩ := (hT t ti ht).desc
    split at e
    · rename_i el he
      rw [he] at hd; simp only [TdOK] at hd; subst hd
      split at e
      · rename_i te hte
        split at e
        · simp at e
        · rename_i hs0'
          have hs0 : te.size ≠ 0 := fun h => hs0' (.inl h)
          obtain ⟨ie, hie, hse, hbe, hzz⟩ := (hT el te hte).info
          split at e
          · simp at e
          · rename_i xs hxs
            obtain ⟨vs, k1, k2, k3, k4, k5, k6⟩ := elems_ok (P := P) hxs i hx hs0
            have hsrc : Src P ie.size tx c xs.length vs w := by
              have hfull : vs.take (xs.length * te.size) = vs := List.take_of_length_le (by omega)
              refine ⟨hk, k5, ?_, ?_, by rw [k2, hse], k3⟩
              · have := k6 w rfl xs.length (Nat.le_refl _)
                rwa [hfull, ← hse] at this
              · have := k6 w.drew rfl xs.length (Nat.le_refl _)
                rwa [hfull, ← hse] at this
            have hzsz : te.zero.length = te.size := Decidable.byContradiction fun h => hs0' (.inr h)
            have hzne : te.zero ≠ [] := by intro h; rw [h] at hzsz; simp at hzsz; omega
            obtain ⟨z, hz, kz, oz, mz⟩ := hzz hzne
            split at e
            · simp only [VR] at hs; subst hs
              split at e
              · simp only [Option.some.injEq] at e; subst e
                have hv0 : vs = [] := List.length_eq_zero_iff.1 (by simpa using k2)
                subst hv0
                exact ⟨.slice none 0 0, w, ρ, m, run_append_nothing w t tx ty el ie hu hie none 0 0 (Nat.le_refl _) c hsrc, post_same i ev rfl⟩
              · rename_i hne
                split at e
                · rename_i hro
                  obtain ⟨hro1, hro'⟩ := roomy_le hro
                  simp only [Option.some.injEq] at e; subst e
                  have hpos : 0 < xs.length := by
                    cases xs with
                    | nil => exact absurd rfl hne
                    | cons => simp
                  have hlen : xs.length <= 4294967296 := by omega
                  have hcap : Builtin.nextslicecap (0 + xs.length) 0 * ie.bytes <= 281474976710656 := by
                    have h1 := nextslicecap_le (need := 0 + xs.length) (old := 0) (by omega)
                    have h2 := Nat.mul_le_mul_right ie.bytes h1
                    rw [hbe] at h2 ⊢
                    have h3 : 2 * (0 + xs.length) * te.bytes = 2 * (te.bytes * xs.length) := by rw [Nat.zero_add, Nat.mul_assoc, Nat.mul_comm xs.length]
                    omega
                  have hrun := run_append_grow_src (P := P) w t tx ty el ie z hu hie hz none 0 0 [] (run_firstCells_none w.drew ie.size 0 0 0) c xs.length vs hsrc (by omega) (by omega) hcap
                  have hge := grownCap_ge w (0 + xs.length) 0 el
                  have hzs : z.cells.size = te.size := by have := kz.length; simp at this; rw [this]; exact hzsz
                  rw [Nat.zero_add] at hrun hge
                  refine ⟨_, _, upd ρ dst ⟨w.heap.size, 0, grownCap w xs.length 0 el * te.size⟩, m, hrun, ?_⟩
                  refine row_new i ev rfl [dst] dst te.size xs.length (grownCap w xs.length 0 el) (by simp) xs _ (fun b x hx => by simpa [setAll] using hx) (by omega) k1 rfl (by omega) ?_ ?_
                  · simp [size_zeroCells, k2, hzs]
                    rw [← Nat.add_mul]; congr 1; omega
                  · refine k4 _ 0 fun j u hu => ?_
                    have hj := (List.getElem?_eq_some_iff.1 hu).1
                    rw [Nat.zero_add, Array.getElem?_append_left (by simpa using hj)]
                    simpa using hu
                · simp at e
            · rename_i b n off len
              simp only [VR] at hs
              obtain ⟨p, cap, hp, hcap, hsize, rfl⟩ := hs
              split at e
              · rename_i n' es hb
                split at e
                · rename_i hc
                  obtain ⟨rfl, rfl, hle, hro⟩ := hc
                  obtain ⟨hro1, hro'⟩ := roomy_le hro
                  simp only [Option.some.injEq] at e; subst e
                  obtain ⟨p', h1, h2, h3, h4⟩ := i.blk b _ hb
                  rw [hp] at h1; simp only [Option.some.injEq] at h1; subst h1
                  simp only [BR] at h2
                  obtain ⟨cc, ell, fr, g1, g2, g3, g4, g5, g6, g7⟩ := h2
                  have hsub := (g7.drop off).take len
                  have hsl : ((es.drop off).take len).length = len := by simp; omega
                  have hms : mentsL ((es.drop off).take len) = [] := mentsL_take _ (mentsL_drop _ g6)
                  have hmall : mentsL ((es.drop off).take len ++ xs) = [] := by rw [mentsL_append, hms, k1]; rfl
                  by_cases hroom : len + xs.length <= cap
                  · have hbnd : (off + cap) * te.size = off * te.size + cap * te.size := Nat.add_mul ..
                    have hb2 : (len + xs.length) * te.size <= cap * te.size := Nat.mul_le_mul_right _ hroom
                    rw [Nat.add_mul] at hb2
                    have hrun := run_append_room_src (P := P) w t tx ty el ie hu hie p.blk (p.base + off * te.size) len cap c xs.length vs hsrc hroom
                      (fun j hj => by rw [hse, cell_at g1]; simp; omega) (fun j hj => by rw [hse]; exact frozen_at g1 g3 (by omega))
                    rw [setCells_over vs _ cc w g1, hse] at hrun
                    have hrow : VRE ρ m te.size ((es.drop off).take len ++ xs) (overA cc (p.base + off * te.size + len * te.size) vs) (p.base + off * te.size) := by
                      refine VRE.of_get fun j x hx => ?_
                      by_cases hj : j < len
                      · rw [List.getElem?_append_left (by omega)] at hx
                        obtain ⟨v, q1, q2, q3, q4⟩ := hsub.get j x hx
                        refine ⟨v, q1, q2, q3, fun k u hu => ?_⟩
                        have hk : k < te.size := by have := (Array.getElem?_eq_some_iff.1 hu).1; omega
                        have hjk : (j + 1) * te.size <= len * te.size := Nat.mul_le_mul_right _ hj
                        rw [Nat.succ_mul] at hjk
                        rw [overA_get _ _ _ _ (by omega), if_neg (by omega)]
                        exact q4 k u hu
                      · rw [List.getElem?_append_right (by omega), hsl] at hx
                        have hE := k4 (overA cc (p.base + off * te.size + len * te.size) vs) (p.base + off * te.size + len * te.size) (fun k u hu => by
                          have hk := (List.getElem?_eq_some_iff.1 hu).1
                          rw [overA_get _ _ _ _ (by omega), if_pos (by omega), Nat.add_sub_cancel_left]; exact hu)
                        obtain ⟨v, q1, q2, q3, q4⟩ := hE.get _ x hx
                        refine ⟨v, q1, q2, q3, fun k u hu => ?_⟩
                        have := q4 k u hu
                        rwa [show p.base + off * te.size + len * te.size + (j - len) * te.size + k = p.base + off * te.size + j * te.size + k by
                          have : len * te.size + (j - len) * te.size = j * te.size := by rw [← Nat.add_mul]; congr 1; omega
                          omega] at this
                    refine ⟨_, _, upd ρ dst ⟨p.blk, p.base + off * te.size, p.size⟩, m, hrun, ⟨?_, Grows.refl _ m, fun b' hb' => (upd_other _ _ _ (fun e => hb' (by simp [e]))).symm, ?_, ev.setBlk _ h4.1⟩⟩
                    · simp only [VR]
                      exact ⟨_, cap, upd_same .., hroom, by simp; omega, by simp⟩
                    · refine i.move hb hp (q := ⟨p.blk, p.base + off * te.size, p.size⟩) rfl _ ?_ rfl
                      simp only [BR]
                      refine ⟨_, ell, fr, by rw [setBlk_get]; simp [(Array.getElem?_eq_some_iff.1 g1).1], by rw [overA_size]; exact g2, fun o ho => g3 o (by rwa [overA_size] at ho), by omega, ?_, hmall, VRE.rho _ (by rw [hmall]; simp) hrow⟩
                      rw [List.length_append, hsl, Nat.add_mul]; omega
                  · have hlen' : len + xs.length <= 4294967296 := by omega
                    have hfits : Builtin.nextslicecap (len + xs.length) cap * ie.bytes <= 281474976710656 := by
                      have h1 := nextslicecap_le (need := len + xs.length) (old := cap) (by omega)
                      have h2 := Nat.mul_le_mul_right ie.bytes h1
                      rw [hbe] at h2 ⊢
                      have h3 : 2 * (len + xs.length) * te.bytes = 2 * (te.bytes * (len + xs.length)) := by rw [Nat.mul_assoc, Nat.mul_comm (len + xs.length)]
                      omega
                    obtain ⟨os, q1, q2, q3, q4⟩ := hsub.flat
                    rw [hsl] at q1
                    have hold := run_firstCells_some (P := P) w.drew ie.size len ⟨p.blk, p.base + off * te.size, none⟩ len cap os (by rw [hse]; exact q1) (fun j u hu => by
                      rw [add_at, cell_at (w := w.drew) g1]; exact q2 j u hu)
                    have hrun := run_append_grow_src (P := P) w t tx ty el ie z hu hie hz (some ⟨p.blk, p.base + off * te.size, none⟩) len cap os hold c xs.length vs hsrc (by omega) (by omega) hfits
                    have hge := grownCap_ge w (len + xs.length) cap el
                    have hzs : z.cells.size = te.size := by have := kz.length; simp at this; rw [this]; exact hzsz
                    refine ⟨_, _, upd ρ dst ⟨w.heap.size, 0, grownCap w (len + xs.length) cap el * te.size⟩, m, hrun, ?_⟩
                    refine row_new i ev rfl [b, dst] dst te.size (len + xs.length) (grownCap w (len + xs.length) cap el) (by simp) _ _ (fun b' x hx => set_none_less _ _ _ _ _ _ hx) (by omega) hmall (by rw [List.length_append, hsl]) (by omega) ?_ ?_
                    · simp [size_zeroCells, k2, q1, hzs]
                      rw [← Nat.add_mul, ← Nat.add_mul]; congr 1; omega
                    · have hcells : ∀ j u, (os ++ vs)[j]? = some u -> ((os ++ vs).toArray ++ Builtin.zeroCells z.cells (grownCap w (len + xs.length) cap el - (len + xs.length)))[j]? = some u := fun j u hu => by
                        have hj := (List.getElem?_eq_some_iff.1 hu).1
                        rw [Array.getElem?_append_left (by simpa using hj)]
                        simpa using hu
                      generalize ((os ++ vs).toArray ++ Builtin.zeroCells z.cells (grownCap w (len + xs.length) cap el - (len + xs.length))) = big at hcells
                      refine VRE.of_get fun j x hx => ?_
                      by_cases hj : j < len
                      · rw [List.getElem?_append_left (by omega)] at hx
                        have hE := q4 big 0 (fun k u hu => by
                          have hk := (List.getElem?_eq_some_iff.1 hu).1
                          rw [Nat.zero_add]; exact hcells k u (by rw [List.getElem?_append_left hk]; exact hu))
                        exact hE.get j x hx
                      · rw [List.getElem?_append_right (by omega), hsl] at hx
                        have hE := k4 big (len * te.size) (fun k u hu => hcells _ u (by rw [List.getElem?_append_right (by omega), q1, Nat.add_sub_cancel_left]; exact hu))
                        obtain ⟨v, r1, r2, r3, r4⟩ := hE.get _ x hx
                        refine ⟨v, r1, r2, r3, fun k u hu => ?_⟩
                        have := r4 k u hu
                        rwa [show len * te.size + (j - len) * te.size + k = 0 + j * te.size + k by
                          have : len * te.size + (j - len) * te.size = j * te.size := by rw [← Nat.add_mul]; congr 1; omega
                          omega] at this
                · simp at e
              · simp at e
            · simp at e
      · simp at e
    · simp at e
  · simp at e
end
end Go.Det
end

section
namespace Go.Det
section
variable {P : Program} {C : Cfg} (hT : ∀ t ti, C.T t = some ti -> TiOK P t ti)
include hT
theorem copyOp_ok {ρ : Rho} {m : Ro} {w0 w : World} {L : List Nat} {h : Heap} {t tx : Nat} {d s : DV} {a c : Value} {out : Out} (e : copyOp C h t d s = some out) (i : Inv ρ m L w0.heap.size h w) (ev : Evo L w0 w) (hd : VR ρ m d a) (hs : VR ρ m s c) (ts : Array TypeId) (ht0 : ts[0]? = some t) (ty : TypeId) :
    ∃ v' w' ρ' m', (Builtin.copy_ ts ty #[a, c]).run P w = .ok v' w' /\ Post L w0.heap.size h w0 w ρ m out v' w' ρ' m' := by
  unfold copyOp at e
  split at e
  · rename_i ti ht
    obtain ⟨dd, hu, hdd⟩ := (hT t ti ht).desc
    split at e
    · rename_i el he
      rw [he] at hdd; simp only [TdOK] at hdd; subst hdd
      split at e
      · rename_i te hte
        have hsz := run_size (hT el te hte)
        split at e
        · simp at e
        · rename_i hs0
          split at e
          · simp at e
          · rename_i xs hxs
            obtain ⟨vs, k1, k2, k3, k4, k5, k6⟩ := elems_ok (P := P) hxs i hs hs0
            split at e
            · simp only [Option.some.injEq] at e; subst e
              simp only [VR] at hd; subst hd
              have k6' := k6 w rfl 0 (Nat.zero_le _)
              simp only [Nat.zero_mul, List.take_zero] at k6'
              refine ⟨.int .i64 0, w, ρ, m, ?_, post_same i ev rfl⟩
              simp [Builtin.copy_, ht0, run_underlying hu, k5, hsz, k6', goInt]
            · rename_i b n off len
              simp only [VR] at hd
              obtain ⟨p, cap, hp, hcap, hsize, rfl⟩ := hd
              split at e
              · rename_i n' es hb
                split at e
                · rename_i hc
                  obtain ⟨rfl, rfl, hle⟩ := hc
                  simp only [Option.some.injEq] at e; subst e
                  obtain ⟨p', h1, h2, h3, h4⟩ := i.blk b _ hb
                  rw [hp] at h1; simp only [Option.some.injEq] at h1; subst h1
                  simp only [BR] at h2
                  obtain ⟨cc, ell, fr, g1, g2, g3, g4, g5, g6, g7⟩ := h2
                  have hyl : (xs.take len).length = min xs.length len := by simp [Nat.min_comm]
                  have hmn : Nat.min xs.length len = min xs.length len := rfl
                  have hk := k6 w rfl (min xs.length len) (Nat.min_le_left _ _)
                  have hmul : min xs.length len * te.size <= xs.length * te.size := Nat.mul_le_mul_right _ (Nat.min_le_left _ _)
                  have hmul2 : (off + min xs.length len) * te.size <= es.length * te.size := Nat.mul_le_mul_right _ (by have := Nat.min_le_right xs.length len; omega)
                  rw [Nat.add_mul] at hmul2
                  have hvl : (vs.take (min xs.length len * te.size)).length = min xs.length len * te.size := by simp; omega
                  have hrun := run_storeCells_over (P := P) (vs.take (min xs.length len * te.size)) 0 (p.base + off * te.size) cc w g1 g3 (by omega) (fun u hu => k3 u (List.mem_of_mem_take hu))
                  simp only [Nat.add_zero] at hrun
                  refine ⟨.int .i64 ((min xs.length len : Nat) : Int), World.setBlk w p.blk (.cells (overA cc (p.base + off * te.size) (vs.take (min xs.length len * te.size))) ell fr), ρ, m, ?_, ⟨by simp only [VR]; rw [hyl], Grows.refl _ m, fun _ _ => rfl, ?_, ev.setBlk _ h4.1⟩⟩
                  · simp [Builtin.copy_, ht0, run_underlying hu, k5, hsz, hmn, hk, hrun, goInt]
                  · simp only [forgetH_nil, setAll]
                    refine i.setBlk hb hp _ ?_ rfl
                    have htl : (es.take off).length = off := by simp; omega
                    have hm' : mentsL (es.take off ++ xs.take len ++ es.drop (off + (xs.take len).length)) = [] := by
                      rw [mentsL_append, mentsL_append, mentsL_take _ g6, mentsL_take _ k1, mentsL_drop _ g6]; rfl
                    have hll : (es.take off ++ xs.take len ++ es.drop (off + (xs.take len).length)).length = es.length := by
                      have := Nat.min_le_right xs.length len
                      simp only [List.length_append, List.length_drop, htl, hyl]; omega
                    simp only [BR]
                    refine ⟨overA cc (p.base + off * te.size) (vs.take (min xs.length len * te.size)), ell, fr, by rw [setBlk_get]; simp [(Array.getElem?_eq_some_iff.1 g1).1], by rw [overA_size]; exact g2, fun o ho => g3 o (by rwa [overA_size] at ho), g4, by rw [hll]; exact g5, hm', ?_⟩
                    refine VRE.of_get fun j x hx => ?_
                    by_cases hj1 : j < off
                    · rw [List.append_assoc, List.getElem?_append_left (by omega), List.getElem?_take, if_pos hj1] at hx
                      obtain ⟨v, q1, q2, q3, q4⟩ := g7.get j x hx
                      refine ⟨v, q1, q2, q3, fun k u hu => ?_⟩
                      have hk : k < te.size := by have := (Array.getElem?_eq_some_iff.1 hu).1; omega
                      have : (j + 1) * te.size <= off * te.size := Nat.mul_le_mul_right _ hj1
                      rw [Nat.succ_mul] at this
                      rw [overA_get _ _ _ _ (by omega), if_neg (by omega)]
                      exact q4 k u hu
                    · by_cases hj2 : j < off + min xs.length len
                      · rw [List.getElem?_append_left (by rw [List.length_append, htl, hyl]; exact hj2), List.getElem?_append_right (by omega), htl, List.getElem?_take] at hx
                        split at hx
                        · have hE := k4 (overA cc (p.base + off * te.size) vs) (p.base + off * te.size)
                          have hE2 : VRE ρ m te.size (xs.take (min xs.length len)) (overA cc (p.base + off * te.size) (vs.take (min xs.length len * te.size))) (p.base + off * te.size) := by
                            have h5 := k4 ((vs.toArray)) 0 (fun k u hu => by simpa using hu)
                            refine VRE.of_get fun q y hy => ?_
                            rw [List.getElem?_take] at hy
                            split at hy
                            · rename_i hq
                              obtain ⟨v, q1, q2, q3, q4⟩ := h5.get q y hy
                              refine ⟨v, q1, q2, q3, fun k u hu => ?_⟩
                              have hk : k < te.size := by have := (Array.getElem?_eq_some_iff.1 hu).1; omega
                              have h6 : (q + 1) * te.size <= min xs.length len * te.size := Nat.mul_le_mul_right _ hq
                              rw [Nat.succ_mul] at h6
                              rw [overA_get _ _ _ _ (by omega), if_pos (by omega), List.getElem?_take, if_pos (by omega)]
                              have := q4 k u hu
                              rw [show p.base + off * te.size + q * te.size + k - (p.base + off * te.size) = 0 + q * te.size + k by omega]
                              simpa using this
                            · cases hy
                          obtain ⟨v, q1, q2, q3, q4⟩ := hE2.get (j - off) x (by rw [List.getElem?_take, if_pos (by omega)]; exact hx)
                          refine ⟨v, q1, q2, q3, fun k u hu => ?_⟩
                          have := q4 k u hu
                          rwa [show p.base + off * te.size + (j - off) * te.size + k = p.base + j * te.size + k by
                            have : off * te.size + (j - off) * te.size = j * te.size := by rw [← Nat.add_mul]; congr 1; omega
                            omega] at this
                        · cases hx
                      · rw [List.getElem?_append_right (by rw [List.length_append, htl, hyl]; omega), List.length_append, htl, hyl, List.getElem?_drop, show off + min xs.length len + (j - (off + min xs.length len)) = j by omega] at hx
                        obtain ⟨v, q1, q2, q3, q4⟩ := g7.get j x hx
                        refine ⟨v, q1, q2, q3, fun k u hu => ?_⟩
                        have : (off + min xs.length len) * te.size <= j * te.size := Nat.mul_le_mul_right _ (by omega)
                        rw [Nat.add_mul] at this
                        rw [overA_get _ _ _ _ (by omega), if_neg (by omega)]
                        exact q4 k u hu
                · simp at e
              · simp at e
            · simp at e
      · simp at e
    · simp at e
  · simp at e
omit hT in
theorem bytesOf_ok {ρ : Rho} {m : Ro} : ∀ {es : List DV} {s : List UInt8}, bytesOf es = some s -> ∃ ns : List Int, es = ns.map (fun n => DV.int .u8 n) /\ s = ns.map fun n => UInt8.ofNat n.toNat
  | [], s, h => by simp [bytesOf] at h; subst h; exact ⟨[], rfl, rfl⟩
  | x :: l, s, h => by
    unfold bytesOf at h
    split at h
    · rename_i heq; cases heq
    · rename_i n l' heq
      simp only [List.cons.injEq] at heq
      obtain ⟨rfl, rfl⟩ := heq
      split at h
      · rename_i r hr
        simp only [Option.some.injEq] at h; subst h
        obtain ⟨ns, rfl, rfl⟩ := bytesOf_ok (ρ := ρ) (m := m) hr
        exact ⟨n :: ns, rfl, rfl⟩
      · simp at h
    · simp at h
omit hT in
theorem push_foldl (ns : List Int) : ∀ (b : ByteArray), (ns.foldl (fun r n => r.push (UInt8.ofNat n.toNat)) b).data.toList = b.data.toList ++ ns.map fun n => UInt8.ofNat n.toNat := by
  induction ns with
  | nil => intro b; simp
  | cons n ns ih =>
    intro b
    simp only [List.foldl_cons, List.map_cons]
    rw [ih]
    simp [ByteArray.push]
theorem convertOp_ok {ρ : Rho} {m : Ro} {w0 w : World} {L : List Nat} {h : Heap} {dst a b : Nat} {x : DV} {c : Value} {out : Out} (e : convertOp C h dst a b x = some out) (i : Inv ρ m L w0.heap.size h w) (ev : Evo L w0 w) (hx : VR ρ m x c) :
    ∃ v' w' ρ' m', (Go.convert a b c).run P w = .ok v' w' /\ Post L w0.heap.size h w0 w ρ m out v' w' ρ' m' := by
  unfold convertOp at e
  split at e
  · rename_i ta tb hta htb
    obtain ⟨da, hua, hda⟩ := (hT a ta hta).desc
    obtain ⟨db, hub, hdb⟩ := (hT b tb htb).desc
    split at e
    · rename_i k k' n he
      rw [he] at hdb; simp only [TdOK] at hdb; subst hdb
      simp only [VR] at hx; subst hx
      simp only [Option.some.injEq] at e; subst e
      exact ⟨.int k (k.wrap n), w, ρ, m, by simp [Go.convert, run_underlying hua, run_underlying hub, Conv.intToInt], post_same i ev rfl⟩
    · rename_i k n he
      rw [he] at hdb; simp only [TdOK] at hdb; subst hdb
      simp only [VR] at hx; subst hx
      simp only [Option.some.injEq] at e; subst e
      exact ⟨.string (Utf8.encode n), w, ρ, m, by simp [Go.convert, run_underlying hua, run_underlying hub, Conv.intToString], post_same i ev (by simp [VR, Lib.mk_data])⟩
    · rename_i s he
      rw [he] at hdb; simp only [TdOK] at hdb; subst hdb
      simp only [VR] at hx; subst hx
      simp only [Option.some.injEq] at e; subst e
      exact ⟨.string ⟨s.toArray⟩, w, ρ, m, by simp [Go.convert, run_underlying hua, run_underlying hub], post_same i ev rfl⟩
    · rename_i el s he
      rw [he] at hdb; simp only [TdOK] at hdb; subst hdb
      simp only [VR] at hx; subst hx
      split at e
      · rename_i te hte
        split at e
        · rename_i hte8
          obtain ⟨de, hue, hde⟩ := (hT el te hte).desc
          rw [hte8] at hde; simp only [TdOK] at hde; subst hde
          split at e
          · rename_i hc
            obtain ⟨hs1, hro⟩ := hc
            simp only [Option.some.injEq] at e; subst e
            have hrun := Lib.run_convert_string_bytes (P := P) w a b el ⟨s.toArray⟩ hua hub hue
            have hge := grownCap_ge w s.length 0 el
            have hcs : (Lib.bytesCells w el ⟨s.toArray⟩).size = grownCap w s.length 0 el := by
              have : (⟨s.toArray⟩ : ByteArray).size = s.length := rfl
              simp [Lib.bytesCells, this]; omega
            have hm : mentsL (s.map fun c => DV.int .u8 c.toNat) = [] := mentsL_nil_iff.2 fun y hy => by
              obtain ⟨c, _, rfl⟩ := List.mem_map.1 hy; rfl
            refine ⟨_, _, _, m, hrun, post_grow i ev (fun r hr => Lib.bytesWorld_at_old w el _ r hr) (by simp [Lib.bytesWorld, World.freeze] <;> rfl) (by simp [Lib.bytesWorld, World.freeze] <;> rfl) (by simp [Lib.bytesWorld, World.freeze] <;> rfl) (by rw [Lib.bytesWorld_size]; omega) dst _ (grownCap w s.length 0 el) ?_ ?_⟩
            · simp only [BR]
              refine ⟨_, el, _, Lib.bytesWorld_at_new w el _, hcs, fun o ho ⟨h1, _⟩ => by omega, by omega, by simp; omega, hm, ?_⟩
              refine VRE.of_get fun j y hy => ?_
              rw [List.getElem?_map] at hy
              simp only [Option.map_eq_some_iff] at hy
              obtain ⟨q, hq, rfl⟩ := hy
              refine ⟨.int .u8 q.toNat, rfl, rfl, by simp [Value.cells, Value.oneCell'], fun k u hu => ?_⟩
              cases k with
              | zero =>
                simp [Value.cells] at hu; subst hu
                have hj := (List.getElem?_eq_some_iff.1 hq).1
                simp only [Lib.bytesCells, Nat.zero_add, Nat.mul_one, Nat.add_zero]
                rw [Array.getElem?_append_left (by simpa using hj)]
                simp [hq]
              | succ k => simp [Value.cells] at hu
            · simp only [VR]
              exact ⟨_, grownCap w s.length 0 el, upd_same .., hge, by simp, by simp; exact ⟨rfl, rfl⟩⟩
          · simp at e
        · simp at e
      · simp at e
    · rename_i x _ _ _ el he1 he2 hni hns
      rw [he1] at hda; simp only [TdOK] at hda; subst hda
      rw [he2] at hdb; simp only [TdOK] at hdb; subst hdb
      split at e
      · rename_i te hte
        split at e
        · rename_i hte8
          obtain ⟨de, hue, hde⟩ := (hT el te hte).desc
          rw [hte8] at hde; simp only [TdOK] at hde; subst hde
          split at e
          · split at e
            · rename_i s hs
              simp only [Option.some.injEq] at e; subst e
              simp only [Option.bind_eq_some_iff] at hs
              obtain ⟨es, hes, hb⟩ := hs
              obtain ⟨ns, rfl, rfl⟩ := bytesOf_ok (ρ := ρ) (m := m) hb
              obtain ⟨vs, k1, k2, k3, k4, k5, k6⟩ := elems_ok (P := P) hes i hx (by omega)
              simp only [List.length_map, Nat.mul_one] at k2 k5 k6
              have hvs : vs = ns.map (Value.int .u8) := by
                have hE := k4 vs.toArray 0 (fun j u hu => by simpa using hu)
                apply List.ext_getElem?
                intro j
                rw [List.getElem?_map]
                cases hj : ns[j]? with
                | none =>
                  have := List.getElem?_eq_none_iff.1 hj
                  rw [List.getElem?_eq_none_iff.2 (by omega)]; rfl
                | some n =>
                  obtain ⟨v, q1, q2, q3, q4⟩ := hE.get j (.int .u8 n) (by rw [List.getElem?_map, hj]; rfl)
                  simp only [VR] at q1; subst q1
                  have := q4 0 (.int .u8 n) rfl
                  simpa using this
              have hfull : vs.take ns.length = vs := List.take_of_length_le (by rw [hvs]; simp)
              have hfc := k6 w rfl ns.length (Nat.le_refl _)
              rw [hfull, hvs] at hfc
              have hln := k5 w
              have key : ∃ v', (Conv.bytesToString c).run P w = .ok v' w /\ VR ρ m (.str (ns.map fun n => UInt8.ofNat n.toNat)) v' := by
                cases c <;> first | (simp [Builtin.lenOf] at hln; done) | skip
                · rename_i sb
                  exfalso
                  unfold elems at hes
                  split at hes
                  · simp [VR] at hx
                  · simp [VR] at hx
                  · simp [VR] at hx
                  · exact hns _ rfl
                  · simp at hes
                · rename_i ao ln cap
                  simp [Builtin.lenOf] at hln; subst hln
                  cases ao with
                  | none =>
                    simp [Builtin.firstCells] at hfc
                    subst hfc
                    exact ⟨.string .empty, by simp [Conv.bytesToString], rfl⟩
                  | some ad =>
                    simp only [Builtin.firstCells, Nat.mul_one] at hfc
                    refine ⟨_, run_bytesToString w ad ns.length cap ns hfc, ?_⟩
                    simp only [VR]
                    congr 1
                    rw [← Lib.mk_data (List.foldl _ _ _), push_foldl]
                    rfl
              obtain ⟨v', hr, hv⟩ := key
              refine ⟨v', w, ρ, m, ?_, post_same i ev hv⟩
              rw [← hr]
              unfold elems at hes
              split at hes
              · simp only [VR] at hx; subst hx
                simp [Go.convert, run_underlying hua, run_underlying hub, run_underlying hue]
              · simp only [VR] at hx; obtain ⟨_, _, _, rfl, _⟩ := hx
                simp [Go.convert, run_underlying hua, run_underlying hub, run_underlying hue]
              · simp only [VR] at hx; obtain ⟨_, _, _, _, _, rfl⟩ := hx
                simp [Go.convert, run_underlying hua, run_underlying hub, run_underlying hue]
              · exact absurd rfl (hns _)
              · simp at hes
            · simp at e
          · simp at e
        · simp at e
      · simp at e
    · simp at e
  · simp at e
end
end Go.Det
end
