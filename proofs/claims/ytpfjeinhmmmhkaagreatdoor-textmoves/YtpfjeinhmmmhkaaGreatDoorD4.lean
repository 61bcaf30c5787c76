/- TextMovesCardSaid: part 4 of the texts behind it: DetV, DetW, DetX, DetY, DetZ, Det1, Det2, Det4, Det5, Det6. No premise of its own. -/
import Derived.Test.YtpfjeinhmmmhkaaGreatDoorD3
import Derived.Tactics
import Derived.Scope
import Derived.RangeFuncLeaves
import Derived.RangeFuncRecord
set_option linter.all false
section
namespace Go.Det
def slotOf : Operand -> Option Nat
  | .tmp i => some i
  | _ => none
def slotsOf (os : List Oper) (o : Oper) : List Nat :=
  (match o.guard with | some (j, _) => ((os[j]?).bind (·.dst)).toList | none => []) ++ o.op.operands.toList.filterMap slotOf
def callsOut : Op -> Bool
  | .call ⟨.value _, _, _⟩ => true
  | _ => false
def touched (st : St) (o : Oper) : List Nat :=
  let l := o.op.operands.toList.flatMap fun x => (opnd st.t x).ments
  bif callsOut o.op then deepMents st.h l else l
theorem touched_direct {st : St} {o : Oper} {b : Nat} (h : b ∈ o.op.operands.toList.flatMap fun x => (opnd st.t x).ments) : b ∈ touched st o := by
  unfold touched
  cases callsOut o.op with
  | true => exact List.mem_append_left _ h
  | false => exact h
def Agrees (os : List Oper) (o : Oper) (st st2 : St) : Prop :=
  (∀ s ∈ slotsOf os o, sget st2.t s = sget st.t s) /\ ∀ b ∈ touched st o, hget st2.h b = hget st.h b
structure RelX (nt : Nat) (ρ0 : Rho) (w0 : World) (L : List Nat) (m0 : Ro) (st : St) (a : Act) (w : World) (ρ : Rho) (m : Ro) : Prop extends Rel w0 L m0 st a w ρ m where
  ext : ∀ b, nt <= b -> ρ b = ρ0 b
def StepOK (P : Program) (C : Cfg) (nt : Nat) (os : List Oper) (o : Oper) (st : St) (out : Out) : Prop :=
  ∀ st2, Agrees os o st st2 -> ∀ (ρ0 : Rho) (w0 : World) (L : List Nat) (m0 : Ro) (a : Act) (w : World) (ρ : Rho) (m : Ro) (K : Act -> World -> Prop) (Q : Exit -> Act -> World -> Prop), GlobOK C m0 -> RelX nt ρ0 w0 L m0 st2 a w ρ m -> 
    (∀ a' w' ρ' m', RelX nt ρ0 w0 L m0 (apply st2 o.dst out) a' w' ρ' m' -> K a' w') -> 
    (if Region.wanted o (yielded os.toArray a.tmps) then o.wp P a w K Q else K (a.put o.dst undef) w)
def Trace (P : Program) (C : Cfg) (nt : Nat) (os : List Oper) : List Oper -> St -> List Out -> St -> Prop
  | [], st, [], st' => st = st'
  | o :: l, st, out :: outs, st' => StepOK P C nt os o st out /\ Trace P C nt os l (apply st o.dst out) outs st'
  | _, _, _, _ => False
def boundOn (o : Oper) : List Nat := (o.after.toList.filter (Region.binds .any)).map (·.on)
def ancs : List (List Nat) -> List Oper -> List (List Nat)
  | acc, [] => acc
  | acc, o :: l => ancs (acc ++ [(boundOn o).flatMap fun j => j :: acc.getD j []]) l
def disj (a b : List Nat) : Bool := a.all fun x => !b.contains x
structure Ent where
  o : Oper
  out : Out
  slots : List Nat
  touch : List Nat
  anc : List Nat
  deep : List Nat
  clean : Bool
def lookMents (os : List Oper) (st : St) (o : Oper) : List Nat := (slotsOf os o).flatMap (fun s => (sget st.t s).ments) ++ (touched st o).flatMap fun b => boxMents (hget st.h b)
def lookClean (os : List Oper) (st : St) (o : Oper) : Bool := (slotsOf os o).all (fun s => (sget st.t s).clean) && (touched st o).all fun b => blkClean (hget st.h b)
def phiB (x y : Ent) : Bool := x.out.φ.isEmpty || (disj x.out.φ y.deep && y.clean && disj x.out.φ (outMents y.out))
def apartB (x y : Ent) : Bool :=
  (match x.o.dst with | some d => !y.slots.contains d && y.o.dst != some d | none => true) &&
  (match y.o.dst with | some d => !x.slots.contains d | none => true) &&
  disj (ids x.out) y.touch && disj (ids y.out) x.touch && disj (ids x.out) (ids y.out) && phiB x y && phiB y x
def ents (os : List Oper) (an : List (List Nat)) : Nat -> List Oper -> St -> List Out -> List Ent
  | k, o :: l, st, out :: outs => { o := o, out := out, slots := slotsOf os o, touch := touched st o, anc := an.getD k [], deep := lookMents os st o, clean := lookClean os st o } :: ents os an (k + 1) l (apply st o.dst out) outs
  | _, _, _, _ => []
def pairsOK : Nat -> List Ent -> List Ent -> Bool
  | _, _, [] => true
  | k, before, y :: l =>
    ((List.range before.length).all fun i => match before[i]? with | some x => y.anc.contains i || apartB x y | none => true) && pairsOK (k + 1) (before ++ [y]) l
def backwards (os : List Oper) : Bool := (List.range os.length).all fun i => match os[i]? with | some o => (boundOn o).all fun j => decide (j < i) | none => true
def drawOK (os : List Oper) (st0 : St) (outs : List Out) : Bool :=
  let es := ents os (ancs [] os) 0 os st0 outs
  backwards os && pairsOK 0 [] es
theorem ancs_spec : ∀ (l : List Oper) (acc : List (List Nat)) (pre : List Oper), pre.length = acc.length -> 
    (∀ k o, pre[k]? = some o -> ∀ i ∈ acc.getD k [], (i ∈ boundOn o \/ ∃ j ∈ boundOn o, i ∈ acc.getD j [] /\ j < k)) -> 
    ∀ k o, (pre ++ l)[k]? = some o -> ∀ i ∈ (ancs acc l).getD k [], (i ∈ boundOn o \/ ∃ j ∈ boundOn o, i ∈ (ancs acc l).getD j [] /\ j < k)
  | [], acc, pre, hl, h => by simpa [ancs] using h
  | x :: l, acc, pre, hl, h => by
    have := ancs_spec l (acc ++ [(boundOn x).flatMap fun j => j :: acc.getD j []]) (pre ++ [x]) (by simp [hl]) ?_
    · simpa [ancs] using this
    · have hget : ∀ j, j < acc.length -> (acc ++ [(boundOn x).flatMap fun j => j :: acc.getD j []]).getD j [] = acc.getD j [] := by
        intro j hj
        simp [List.getD_eq_getElem?_getD, List.getElem?_append_left hj]
      intro k o ho i hi
      by_cases hk : k < pre.length
      · rw [List.getElem?_append_left hk] at ho
        rw [hget k (by omega)] at hi
        rcases h k o ho i hi with h1 | ⟨j, h1, h2, h3⟩
        · exact .inl h1
        · exact .inr ⟨j, h1, by rw [hget j (by omega)]; exact h2, h3⟩
      · rw [List.getElem?_append_right (by omega)] at ho
        have hk0 : k - pre.length = 0 := by
          have := (List.getElem?_eq_some_iff.1 ho).1
          simp at this; omega
        have hk' : k = pre.length := by omega
        subst hk'
        simp at ho; subst ho
        rw [List.getD_eq_getElem?_getD, List.getElem?_append_right (by omega), hl] at hi
        simp at hi
        obtain ⟨j, hj, hi⟩ := hi
        rcases hi with rfl | hi
        · exact .inl hj
        · refine .inr ⟨j, hj, ?_, ?_⟩
          · have : j < acc.length := by
              rcases Nat.lt_or_ge j acc.length with q | q
              · exact q
              · rw [List.getElem?_eq_none_iff.2 q] at hi; simp at hi
            rw [hget j this, List.getD_eq_getElem?_getD]; exact hi
          · rcases Nat.lt_or_ge j acc.length with q | q
            · omega
            · rw [List.getElem?_eq_none_iff.2 q] at hi; simp at hi
def Down (os : List Oper) (sel : Nat -> Bool) : Prop := ∀ k o, os[k]? = some o -> sel k = true -> ∀ j ∈ boundOn o, sel j = true
theorem Down.anc {os : List Oper} {sel : Nat -> Bool} (h : Down os sel) : ∀ k o, os[k]? = some o -> sel k = true -> ∀ i ∈ (ancs [] os).getD k [], sel i = true := by
  intro k
  induction k using Nat.strongRecOn with
  | _ k ih =>
    intro o ho hk i hi
    rcases ancs_spec os [] [] rfl (by simp) k o (by simpa using ho) i hi with h1 | ⟨j, h1, h2, h3⟩
    · exact h k o ho hk i h1
    · have hj := h k o ho hk j h1
      have : j < os.length := Nat.lt_trans h3 (List.getElem?_eq_some_iff.1 ho).1
      exact ih j h3 _ (List.getElem?_eq_getElem this) hj i h2
end Go.Det
end

section
namespace Go.Det
def tst : List (Oper × Out) -> St -> Nat -> St
  | _, st, 0 => st
  | [], st, _ + 1 => st
  | (o, out) :: l, st, j + 1 => tst l (apply st o.dst out) j
theorem tst_succ : ∀ (l : List (Oper × Out)) (st : St) (j : Nat) (o : Oper) (out : Out), l[j]? = some (o, out) -> tst l st (j + 1) = apply (tst l st j) o.dst out
  | [], _, _, _, _, h => by simp at h
  | (o', out') :: l, st, 0, o, out, h => by
    simp at h; obtain ⟨rfl, rfl⟩ := h
    cases l <;> rfl
  | (o', out') :: l, st, j + 1, o, out, h => by
    simp only [tst]
    exact tst_succ l _ j o out (by simpa using h)
theorem Trace.spec {P : Program} {C : Cfg} {nt : Nat} {os : List Oper} : ∀ {l : List Oper} {st : St} {outs : List Out} {st' : St}, Trace P C nt os l st outs st' -> 
    l.length = outs.length /\ st' = tst (l.zip outs) st l.length /\ ∀ i o out, (l.zip outs)[i]? = some (o, out) -> StepOK P C nt os o (tst (l.zip outs) st i) out
  | [], st, [], st', h => by
    simp only [Trace] at h; subst h
    exact ⟨rfl, rfl, by simp⟩
  | o :: l, st, out :: outs, st', h => by
    simp only [Trace] at h
    obtain ⟨h1, h2⟩ := h
    obtain ⟨k1, k2, k3⟩ := Trace.spec h2
    refine ⟨by simp [k1], by simpa [tst] using k2, fun i o' out' hi => ?_⟩
    cases i with
    | zero => simp at hi; obtain ⟨rfl, rfl⟩ := hi; exact h1
    | succ i => simp at hi; simpa [tst] using k3 i o' out' (by simpa using hi)
  | [], _, _ :: _, _, h => h.elim
  | _ :: _, _, [], _, h => h.elim
theorem ents_get {os : List Oper} {an : List (List Nat)} : ∀ (l : List Oper) (outs : List Out) (st : St) (k i : Nat) (o : Oper) (out : Out), (l.zip outs)[i]? = some (o, out) -> 
    (ents os an k l st outs)[i]? = some { o := o, out := out, slots := slotsOf os o, touch := touched (tst (l.zip outs) st i) o, anc := an.getD (k + i) [], deep := lookMents os (tst (l.zip outs) st i) o, clean := lookClean os (tst (l.zip outs) st i) o }
  | [], _, _, _, _, _, _, h => by simp at h
  | _ :: _, [], _, _, _, _, _, h => by simp at h
  | o' :: l, out' :: outs, st, k, 0, o, out, h => by
    simp at h; obtain ⟨rfl, rfl⟩ := h
    simp [ents, tst]
  | o' :: l, out' :: outs, st, k, i + 1, o, out, h => by
    simp at h
    simp only [ents, List.getElem?_cons_succ]
    rw [ents_get l outs _ (k + 1) i o out (by simpa using h)]
    simp only [List.zip_cons_cons, tst]
    rw [show k + 1 + i = k + (i + 1) by omega]
theorem ents_len {os : List Oper} {an : List (List Nat)} : ∀ (l : List Oper) (outs : List Out) (st : St) (k : Nat), l.length = outs.length -> (ents os an k l st outs).length = l.length
  | [], [], _, _, _ => rfl
  | o :: l, out :: outs, st, k, h => by simp only [ents, List.length_cons]; rw [ents_len l outs _ _ (by simpa using h)]
  | [], _ :: _, _, _, h => by simp at h
  | _ :: _, [], _, _, h => by simp at h
theorem pairsOK_spec : ∀ (l bf : List Ent) (k : Nat), pairsOK k bf l = true -> ∀ j y, bf.length <= j -> (bf ++ l)[j]? = some y -> ∀ i x, i < j -> (bf ++ l)[i]? = some x -> y.anc.contains i = true \/ apartB x y = true
  | [], bf, k, h, j, y, hj, hy, i, x, hi, hx => by
    rw [List.append_nil] at hy
    have := (List.getElem?_eq_some_iff.1 hy).1
    omega
  | z :: l, bf, k, h, j, y, hj, hy, i, x, hi, hx => by
    simp only [pairsOK, Bool.and_eq_true, List.all_eq_true, List.mem_range] at h
    obtain ⟨h1, h2⟩ := h
    by_cases hjl : j = bf.length
    · subst hjl
      rw [List.getElem?_append_right (Nat.le_refl _)] at hy
      simp at hy; subst hy
      have h1 := h1 i hi
      rw [List.getElem?_append_left hi] at hx
      rw [hx] at h1
      simpa using h1
    · have := pairsOK_spec l (bf ++ [z]) (k + 1) h2 j y (by simp; omega) (by simpa using hy) i x hi (by simpa using hx)
      exact this
theorem disj_spec {a b : List Nat} (h : disj a b = true) : ∀ x ∈ a, x ∉ b := by
  intro x hx hb
  unfold disj at h
  have := List.all_eq_true.1 h x hx
  simp at this
  exact this hb
section
variable {P : Program} {C : Cfg} {nt : Nat} {os : List Oper} {st0 st1 : St} {outs : List Out}
structure Draw (P : Program) (C : Cfg) (nt : Nat) (os : List Oper) (st0 : St) (outs : List Out) (st1 : St) : Prop where
  len : os.length = outs.length
  fin : st1 = foldSel (fun k => decide (k < os.length)) 0 (os.zip outs) st0
  back : ∀ k o, os[k]? = some o -> ∀ j ∈ boundOn o, j < k
  step : ∀ i o out, (os.zip outs)[i]? = some (o, out) -> StepOK P C nt os o (foldSel (fun k => decide (k < i)) 0 (os.zip outs) st0) out
  ins : ∀ sel i o out, Down os sel -> sel i = false -> (os.zip outs)[i]? = some (o, out) -> 
    apply (foldSel sel 0 (os.zip outs) st0) o.dst out = foldSel (fun k => sel k || k == i) 0 (os.zip outs) st0
  agree : ∀ sel i o out, Down os sel -> sel i = false -> (os.zip outs)[i]? = some (o, out) -> (∀ j ∈ boundOn o, sel j = true) -> 
    Agrees os o (foldSel (fun k => decide (k < i)) 0 (os.zip outs) st0) (foldSel sel 0 (os.zip outs) st0)
theorem zip_get {l : List Oper} {l' : List Out} {i : Nat} {o : Oper} {out : Out} (h : (l.zip l')[i]? = some (o, out)) : l[i]? = some o /\ l'[i]? = some out := by
  rw [List.getElem?_zip_eq_some] at h; exact h
theorem draw_of (ht : Trace P C nt os os st0 outs st1) (hd : drawOK os st0 outs = true) : Draw P C nt os st0 outs st1 := by
  obtain ⟨hlen, hfin, hstep⟩ := ht.spec
  unfold drawOK at hd
  simp only [Bool.and_eq_true] at hd
  obtain ⟨hb, hp⟩ := hd
  have back : ∀ k o, os[k]? = some o -> ∀ j ∈ boundOn o, j < k := by
    intro k o ho j hj
    unfold backwards at hb
    have := List.all_eq_true.1 hb k (by rw [List.mem_range]; exact (List.getElem?_eq_some_iff.1 ho).1)
    rw [ho] at this
    have := List.all_eq_true.1 this j hj
    simpa using this
  have hent := ents_get (os := os) (an := ancs [] os) os outs st0 0
  have hel := ents_len (os := os) (an := ancs [] os) os outs st0 0 hlen
  have down_lt : ∀ i, Down os (fun k => decide (k < i)) := by
    intro i k o ho hk j hj
    have := back k o ho j hj
    simp at hk ⊢; omega
  have pair : ∀ i j x y, i < j -> (ents os (ancs [] os) 0 os st0 outs)[i]? = some x -> (ents os (ancs [] os) 0 os st0 outs)[j]? = some y -> y.anc.contains i = true \/ apartB x y = true :=
    fun i j x y hij hx hy => pairsOK_spec _ [] 0 hp j y (Nat.zero_le _) (by simpa using hy) i x hij (by simpa using hx)
  have ins : ∀ sel i o out, Down os sel -> sel i = false -> (os.zip outs)[i]? = some (o, out) -> 
      apply (foldSel sel 0 (os.zip outs) st0) o.dst out = foldSel (fun k => sel k || k == i) 0 (os.zip outs) st0 := by
    intro sel i o out hD hi ho
    symm
    refine foldSel_insert (os.zip outs) 0 st0 (Nat.zero_le _) (by simpa using ho) hi (fun j => rfl) ?_
    intro j o' out' hj hij hs
    rw [Nat.zero_add] at hij hs
    rcases pair i j _ _ hij (hent i o out ho) (hent j o' out' hj) with h | h
    · have := hD.anc j o' (zip_get hj).1 hs i (by simpa using h)
      rw [hi] at this; cases this
    · simp only [apartB, Bool.and_eq_true] at h
      obtain ⟨⟨⟨⟨⟨⟨h1, h2⟩, h3⟩, h4⟩, h5⟩, h6⟩, h7⟩ := h
      refine ⟨fun d hd => ?_, disj_spec h5, fun b hb hb' => ?_, fun b hb hb' => ?_⟩
      · rw [hd] at h1
        simp at h1
        exact h1.2
      · simp only [phiB, Bool.or_eq_true, Bool.and_eq_true] at h7
        rcases h7 with h7 | h7
        · rw [List.isEmpty_iff] at h7; rw [h7] at hb'; simp at hb'
        · exact disj_spec h7.2 b hb' hb
      · simp only [phiB, Bool.or_eq_true, Bool.and_eq_true] at h6
        rcases h6 with h6 | h6
        · rw [List.isEmpty_iff] at h6; rw [h6] at hb'; simp at hb'
        · exact disj_spec h6.2 b hb' hb
  have text : ∀ j, j <= os.length -> tst (os.zip outs) st0 j = foldSel (fun k => decide (k < j)) 0 (os.zip outs) st0 := by
    intro j
    induction j with
    | zero =>
      intro _
      have key : ∀ (l : List (Oper × Out)) (k : Nat) (st : St), foldSel (fun k => decide (k < 0)) k l st = st := by
        intro l
        induction l with
        | nil => intro _ _; rfl
        | cons x l ih => intro k st; obtain ⟨o, out⟩ := x; simpa [foldSel] using ih (k + 1) st
      rw [key]
      cases os.zip outs <;> rfl
    | succ j ih =>
      intro hj
      have hj' : j < (os.zip outs).length := by simp [← hlen]; omega
      obtain ⟨o, out⟩ : Oper × Out := (os.zip outs)[j]
      have ho := List.getElem?_eq_getElem hj'
      rw [tst_succ _ _ j _ _ (show (os.zip outs)[j]? = some ((os.zip outs)[j].1, (os.zip outs)[j].2) from ho), ih (by omega), ins _ j _ _ (down_lt j) (by simp) (show (os.zip outs)[j]? = some ((os.zip outs)[j].1, (os.zip outs)[j].2) from ho)]
      congr 1
      funext k
      rw [Bool.eq_iff_iff]
      simp only [Bool.or_eq_true, decide_eq_true_eq, beq_iff_eq]
      omega
  refine ⟨hlen, by rw [hfin]; exact text _ (Nat.le_refl _), back, fun i o out ho => ?_, ins, ?_⟩
  · have hin : i < os.length := (List.getElem?_eq_some_iff.1 (zip_get ho).1).1
    rw [← text i (by omega)]
    exact hstep i o out ho
  · intro sel i o out hD hi ho hpre
    have hin : i < os.length := (List.getElem?_eq_some_iff.1 (zip_get ho).1).1
    have hD' : Down os (fun k => sel k || k == i) := by
      intro k ok hk hs j hj
      simp only [Bool.or_eq_true, beq_iff_eq] at hs ⊢
      rcases hs with hs | rfl
      · exact .inl (hD k ok hk hs j hj)
      · rw [(zip_get ho).1] at hk; cases hk
        exact .inl (hpre j hj)
    have hanc : ∀ k, k ≠ i -> ((ancs [] os).getD i []).contains k = true -> sel k = true := by
      intro k hk hc
      have := hD'.anc i o (zip_get ho).1 (by simp) k (by simpa using hc)
      simp only [Bool.or_eq_true, beq_iff_eq] at this
      exact this.resolve_right hk
    -- whoever is not on one side leaves alone what is looked at
    have side : ∀ k o' out', (os.zip outs)[k]? = some (o', out') -> sel k ≠ decide (k < i) -> 
        (∀ d, o'.dst = some d -> d ∉ slotsOf os o) /\ (∀ b ∈ ids out', b ∉ touched (tst (os.zip outs) st0 i) o) /\
        (out'.φ = [] \/ (lookClean os (tst (os.zip outs) st0 i) o = true /\ ∀ b ∈ out'.φ, b ∉ lookMents os (tst (os.zip outs) st0 i) o)) := by
      intro k o' out' hk hw
      have hphi : ∀ x y : Ent, phiB x y = true -> x.out.φ = [] \/ (y.clean = true /\ ∀ b ∈ x.out.φ, b ∉ y.deep) := by
        intro x y h
        simp only [phiB, Bool.or_eq_true, Bool.and_eq_true] at h
        rcases h with h | h
        · exact .inl (by simpa using h)
        · exact .inr ⟨h.1.2, disj_spec h.1.1⟩
      rcases Nat.lt_trichotomy k i with hki | rfl | hki
      · rcases pair k i _ _ hki (hent k o' out' hk) (hent i o out ho) with h | h
        · have := hanc k (by omega) (by simpa using h)
          rw [this] at hw; simp [hki] at hw
        · simp only [apartB, Bool.and_eq_true] at h
          obtain ⟨⟨⟨⟨⟨⟨h1, h2⟩, h3⟩, h4⟩, h5⟩, h6⟩, h7⟩ := h
          refine ⟨fun d hd => ?_, disj_spec h3, hphi _ _ h6⟩
          rw [hd] at h1; simp at h1; exact h1.1
      · simp [hi] at hw
      · rcases pair i k _ _ hki (hent i o out ho) (hent k o' out' hk) with h | h
        · have hs : sel k = true := by
            cases hs : sel k with
            | true => rfl
            | false => rw [hs] at hw; exfalso; apply hw; symm; simpa using Nat.le_of_lt hki
          have := hD.anc k o' (zip_get hk).1 hs i (by simpa using h)
          rw [hi] at this; cases this
        · simp only [apartB, Bool.and_eq_true] at h
          obtain ⟨⟨⟨⟨⟨⟨h1, h2⟩, h3⟩, h4⟩, h5⟩, h6⟩, h7⟩ := h
          refine ⟨fun d hd => ?_, disj_spec h4, hphi _ _ h7⟩
          rw [hd] at h2; simp at h2; exact h2
    rw [text i (by omega)] at side
    have looks : ∀ b, b ∉ lookMents os (foldSel (fun k => decide (k < i)) 0 (os.zip outs) st0) o -> (∀ s ∈ slotsOf os o, b ∉ (sget (foldSel (fun k => decide (k < i)) 0 (os.zip outs) st0).t s).ments) /\
        ∀ c ∈ touched (foldSel (fun k => decide (k < i)) 0 (os.zip outs) st0) o, b ∉ boxMents (hget (foldSel (fun k => decide (k < i)) 0 (os.zip outs) st0).h c) := by
      intro b hb
      unfold lookMents at hb
      exact ⟨fun s hs hm => hb (List.mem_append_left _ (List.mem_flatMap.2 ⟨s, hs, hm⟩)), fun c hc hm => hb (List.mem_append_right _ (List.mem_flatMap.2 ⟨c, hc, hm⟩))⟩
    refine ⟨fun s hs => ?_, fun b hb => ?_⟩
    · refine (seenSlot s).same _ 0 _ _ rfl (.inl rfl) ?_ ?_
      · intro j o' out' hj hw
        rw [Nat.zero_add]
        have hd : o'.dst = some s := by simpa [seenSlot] using hw
        by_cases hne : sel j = decide (j < i)
        · exact hne
        · exact absurd hs ((side j o' out' hj hne).1 s hd)
      · intro j o' out' hj hne
        rw [Nat.zero_add] at hne
        rcases (side j o' out' hj hne).2.2 with h | ⟨h1, h2⟩
        · exact .inl h
        · refine .inr ⟨?_, fun b hb hb' => (looks b (h2 b hb')).1 s hs hb⟩
          unfold lookClean at h1
          rw [Bool.and_eq_true] at h1
          exact List.all_eq_true.1 h1.1 s hs
    · refine (seenBlk b).same _ 0 _ _ rfl (.inl rfl) ?_ ?_
      · intro j o' out' hj hw
        rw [Nat.zero_add]
        have hd : b ∈ ids out' := by simpa [seenBlk] using hw
        by_cases hne : sel j = decide (j < i)
        · exact hne
        · exact absurd hb ((side j o' out' hj hne).2.1 b hd)
      · intro j o' out' hj hne
        rw [Nat.zero_add] at hne
        rcases (side j o' out' hj hne).2.2 with h | ⟨h1, h2⟩
        · exact .inl h
        · refine .inr ⟨?_, fun c hc hc' => (looks c (h2 c hc')).2 b hb hc⟩
          unfold lookClean at h1
          rw [Bool.and_eq_true] at h1
          exact List.all_eq_true.1 h1.2 b hb
end
end Go.Det
end

section
namespace Go.Det
section
variable {P : Program} {C : Cfg} {nt : Nat} {os : List Oper} {st0 st1 : St} {outs : List Out} {ρ0 : Rho} {w0 : World} {L : List Nat} {m0 : Ro}
theorem trace_list {Q : Exit -> Act -> World -> Prop} (hG : GlobOK C m0) : ∀ {l : List Oper} {st : St} {outs : List Out} {st' : St} {a : Act} {w : World} {ρ : Rho} {m : Ro}, Trace P C nt os l st outs st' -> RelX nt ρ0 w0 L m0 st a w ρ m -> 
    (∀ a' w' ρ' m', RelX nt ρ0 w0 L m0 st' a' w' ρ' m' -> Q .normal a' w') -> wpList P os.toArray Q l a w
  | [], st, [], st', a, w, ρ, m, h, r, hQ => by
    simp only [Trace] at h; subst h
    exact hQ _ _ _ _ r
  | o :: l, st, out :: outs, st', a, w, ρ, m, h, r, hQ => by
    simp only [Trace] at h
    obtain ⟨h1, h2⟩ := h
    have := h1 st ⟨fun _ _ => rfl, fun _ _ => rfl⟩ ρ0 w0 L m0 a w ρ m (wpList P os.toArray Q l) Q hG r fun a' w' ρ' m' r' => trace_list hG h2 r' hQ
    simp only [wpList]
    split
    · rename_i hw; rw [if_pos hw] at this; exact .inl this
    · rename_i hw; rw [if_neg hw] at this; exact this
  | [], _, _ :: _, _, _, _, _, _, h, _, _ => h.elim
  | _ :: _, _, [], _, _, _, _, _, h, _, _ => h.elim
theorem mem_boundOn {o : Oper} {e : Edge} (he : e ∈ o.after) (hb : Region.binds .any e = true) : e.on ∈ boundOn o := by
  unfold boundOn
  exact List.mem_map.2 ⟨e, List.mem_filter.2 ⟨by simpa using he, hb⟩, rfl⟩
theorem getD_set_iff (listed : Array Bool) (i k : Nat) (hi : i < listed.size) : (listed.setIfInBounds i true).getD k false = (listed.getD k false || k == i) := by
  simp only [Array.getD_eq_getD_getElem?, Array.getElem?_setIfInBounds]
  by_cases h : i = k
  · subst h; simp [hi]
  · simp [h, Ne.symm h]
theorem Draw.any (D : Draw P C nt os st0 outs st1) (hG : GlobOK C m0) {Q : Exit -> Act -> World -> Prop} (hQ : ∀ a' w' ρ' m', RelX nt ρ0 w0 L m0 st1 a' w' ρ' m' -> Q .normal a' w') :
    ∀ (fuel : Nat) (listed : Array Bool) (a : Act) (w : World) (ρ : Rho) (m : Ro), listed.size = os.length -> Down os (fun k => listed.getD k false) -> listed.toList.countP (· == false) <= fuel -> 
      RelX nt ρ0 w0 L m0 (foldSel (fun k => listed.getD k false) 0 (os.zip outs) st0) a w ρ m -> wpAny P .any os.toArray Q fuel listed a w := by
  intro fuel
  -- all are there
  have full : ∀ (listed : Array Bool), listed.size = os.length -> (∀ k, k < os.length -> listed.getD k false = true) -> (fun k => listed.getD k false) = fun k => decide (k < os.length) := by
    intro listed hs hall
    funext k
    by_cases hk : k < os.length
    · rw [hall k hk]; simp [hk]
    · have : listed[k]? = none := by rw [Array.getElem?_eq_none_iff]; omega
      simp [Array.getD_eq_getD_getElem?, this, hk]
  have done : ∀ (listed : Array Bool) (a : Act) (w : World) (ρ : Rho) (m : Ro), listed.size = os.length -> (∀ k, k < os.length -> listed.getD k false = true) -> 
      RelX nt ρ0 w0 L m0 (foldSel (fun k => listed.getD k false) 0 (os.zip outs) st0) a w ρ m -> Q .normal a w := by
    intro listed a w ρ m hs hall r
    rw [full listed hs hall, ← D.fin] at r
    exact hQ _ _ _ _ r
  have unready : ∀ (listed : Array Bool), listed.size = os.length -> Region.ready .any os.toArray listed = [] -> ∀ k, k < os.length -> listed.getD k false = true := by
    intro listed hs hr k
    induction k using Nat.strongRecOn with
    | _ k ih =>
      intro hk
      cases hl : listed.getD k false with
      | true => rfl
      | false =>
        have : k ∈ Region.ready .any os.toArray listed := by
          rw [mem_ready]
          refine ⟨?_, os[k], by simp [hk], fun e he hb => ?_⟩
          · have hks : k < listed.size := by omega
            simp [Array.getD_eq_getD_getElem?, hks] at hl ⊢
            exact hl
          · have hj := D.back k os[k] (List.getElem?_eq_getElem hk) e.on (mem_boundOn he hb)
            exact ih e.on hj (by omega)
        rw [hr] at this; cases this
  induction fuel with
  | zero =>
    intro listed a w ρ m hs hD hc r
    have hall : ∀ k, k < os.length -> listed.getD k false = true := by
      intro k hk
      have h0 : listed.toList.countP (· == false) = 0 := by omega
      rw [List.countP_eq_zero] at h0
      have hks : k < listed.size := by omega
      have := h0 listed[k] (by simp)
      simp [Array.getD_eq_getD_getElem?, hks]
      simpa using this
    refine ⟨?_, done listed a w ρ m hs hall r⟩
    cases hr : Region.ready .any os.toArray listed with
    | nil => rfl
    | cons i l =>
      have : i ∈ Region.ready .any os.toArray listed := by rw [hr]; exact List.mem_cons_self
      rw [mem_ready] at this
      obtain ⟨h1, o, ho, _⟩ := this
      have hi : i < os.length := by
        simp at ho; exact (List.getElem?_eq_some_iff.1 ho).1
      have h2 := hall i hi
      have his : i < listed.size := by omega
      simp [Array.getD_eq_getD_getElem?, his] at h1 h2
      rw [h1] at h2; cases h2
  | succ fuel ih =>
    intro listed a w ρ m hs hD hc r
    refine ⟨fun h0 => done listed a w ρ m hs (unready listed hs h0) r, fun i hi => ?_⟩
    rw [mem_ready] at hi
    obtain ⟨h1, o, ho, h2⟩ := hi
    have ho' : os[i]? = some o := by simpa using ho
    have hin : i < os.length := (List.getElem?_eq_some_iff.1 ho').1
    have hin' : i < outs.length := by rw [← D.len]; exact hin
    have hz : (os.zip outs)[i]? = some (o, outs[i]) := by
      rw [List.getElem?_zip_eq_some]
      exact ⟨ho', List.getElem?_eq_getElem hin'⟩
    have his : i < listed.size := by omega
    have hsel : listed.getD i false = false := by
      simp [Array.getD_eq_getD_getElem?, his] at h1 ⊢
      exact h1
    have hpre : ∀ j ∈ boundOn o, listed.getD j false = true := by
      intro j hj
      unfold boundOn at hj
      obtain ⟨e, he, rfl⟩ := List.mem_map.1 hj
      obtain ⟨he, hb⟩ := List.mem_filter.1 he
      exact h2 e (by simpa using he) hb
    have hag := D.agree _ i o _ hD hsel hz hpre
    have hins := D.ins _ i o _ hD hsel hz
    have hstep := D.step i o _ hz _ hag ρ0 w0 L m0 a w ρ m (wpAny P .any os.toArray Q fuel (listed.setIfInBounds i true)) Q hG r ?_
    · unfold wpOp
      simp only [ho]
      split
      · rename_i hw; rw [if_pos hw] at hstep; exact .inl hstep
      · rename_i hw; rw [if_neg hw] at hstep; exact hstep
    · intro a' w' ρ' m' r'
      rw [hins] at r'
      have hf : (fun k => (listed.setIfInBounds i true).getD k false) = fun k => listed.getD k false || k == i := funext fun k => getD_set_iff listed i k his
      refine ih _ a' w' ρ' m' (by simpa using hs) ?_ ?_ (by rw [hf]; exact r')
      · rw [hf]
        intro k ok hk hsk j hj
        simp only [Bool.or_eq_true, beq_iff_eq] at hsk ⊢
        rcases hsk with hsk | rfl
        · exact .inl (hD k ok hk hsk j hj)
        · rw [ho'] at hk; cases hk
          exact .inl (hpre j hj)
      · have hlf : listed[i] = false := by simpa [Array.getD_eq_getD_getElem?, his] using hsel
        have : (listed.setIfInBounds i true).toList.countP (· == false) = listed.toList.countP (· == false) - 1 := by
          rw [Array.toList_setIfInBounds, List.countP_set (by simpa using his)]
          simp [hlf]
        omega
end
def WkV (x y : DV) : Prop := y.ments = [] /\ ∀ (ρ : Rho) (m : Ro) (v : Value), VR ρ m x v -> VR ρ m y v
def WkL : List DV -> List DV -> Prop
  | [], [] => True
  | x :: l, y :: l' => (x = y \/ WkV x y) /\ WkL l l'
  | _, _ => False
theorem WkL.refl : ∀ l : List DV, WkL l l
  | [] => trivial
  | _ :: l => ⟨.inl rfl, WkL.refl l⟩
theorem WkL.vrl {ρ : Rho} {m : Ro} : ∀ {l l' : List DV} {vs : List Value}, WkL l l' -> VRL ρ m l vs -> VRL ρ m l' vs
  | [], [], _, _, h => h
  | x :: l, y :: l', vs, hw, h => by
    simp only [VRL] at h
    obtain ⟨v, r, rfl, h1, h2⟩ := h
    refine VRL.cons ?_ (WkL.vrl hw.2 h2)
    rcases hw.1 with rfl | hw
    · exact h1
    · exact hw.2 _ _ _ h1
  | [], _ :: _, _, hw, _ => hw.elim
  | _ :: _, [], _, hw, _ => hw.elim
structure Weaker (st st1 : St) : Prop where
  len : st1.t.length = st.t.length
  slots : ∀ (i : Nat) (x : DV), st1.t[i]? = some x -> x = .unk \/ ∃ y, st.t[i]? = some y /\ (y = x \/ WkV y x)
  heap : ∀ b x, hget st1.h b = some x -> hget st.h b = some x
theorem Weaker.refl (st : St) : Weaker st st := ⟨rfl, fun _ x h => .inr ⟨x, h, .inl rfl⟩, fun _ _ h => h⟩
inductive J where
  | code (f nt : Nat) (c : Code) (st : St) (e : Ex) (st' : St)
  | loop (f nt : Nat) (c : Code) (st : St) (e : Ex) (st' : St)
  | scope (f nt : Nat) (c rest : Code) (st : St) (e : Ex) (st' : St)
  | ops (f nt : Nat) (os l : List Oper) (st : St) (outs : List Out) (st' : St)
  | call (g : Nat) (xs : List DV) (ex : List Blk) (r : DV) (ex' : List Blk)
def Ex.inBlock (id : Nat) : Ex -> Ex
  | .exit id' => if id' = id then .normal else .exit id'
  | e => e
def Ex.jumps (c : Code) : Ex -> Bool
  | .goto l => (findLabel c l).isSome
  | _ => false
def Ex.isNormal : Ex -> Bool
  | .normal => true
  | _ => false
def Ex.ends : Ex -> Bool
  | .normal | .ret => true
  | _ => false
def Blk.isBox : Blk -> Bool
  | .box _ => true
  | _ => false
def phiOK (nt : Nat) (o : Out) : Bool := o.φ.all fun b => decide (b < nt)
def enterD (fi : Fi) (xs : List DV) (ex : List Blk) : St :=
  { t := xs ++ List.replicate (fi.nt - xs.length) (.tup []), h := List.replicate fi.nt none ++ ex.map some }
inductive Run (C : Cfg) (Pr Ow : Nat -> List DV -> DV -> Prop) : J -> Prop
  | sem {f nt c st e st'} : C.sem f nt c st e st' -> Run C Pr Ow (.code f nt c st e st')
  | skip {f nt st} : Run C Pr Ow (.code f nt .skip st .normal st)
  | label {f nt l st} : Run C Pr Ow (.code f nt (.label l) st .normal st)
  | region {f nt id ops st outs st'} : Run C Pr Ow (.ops f nt ops.toList ops.toList st outs st') -> Run C Pr Ow (.code f nt (.region id ops false) st .normal st')
  | draw {f nt id ops st outs st'} : Run C Pr Ow (.ops f nt ops.toList ops.toList st outs st') -> drawOK ops.toList st outs = true -> Run C Pr Ow (.code f nt (.region id ops true) st .normal st')
  | seq {f nt x y st st1 st2 e} : Run C Pr Ow (.code f nt x st .normal st1) -> Run C Pr Ow (.code f nt y st1 e st2) -> Run C Pr Ow (.code f nt (.seq x y) st e st2)
  | seqOut {f nt x y st st1 e} : Run C Pr Ow (.code f nt x st e st1) -> e.isNormal = false -> Run C Pr Ow (.code f nt (.seq x y) st e st1)
  | condT {f nt c x y st st1 e} : opnd st.t c = .bool true -> Run C Pr Ow (.code f nt x st e st1) -> Run C Pr Ow (.code f nt (.cond c x y) st e st1)
  | condF {f nt c x y st st1 e} : opnd st.t c = .bool false -> Run C Pr Ow (.code f nt y st e st1) -> Run C Pr Ow (.code f nt (.cond c x y) st e st1)
  | block {f nt id c st st1 e} : Run C Pr Ow (.code f nt c st e st1) -> Run C Pr Ow (.code f nt (.block id c) st (e.inBlock id) st1)
  | loop {f nt c st st1 e} : Run C Pr Ow (.loop f nt c st e st1) -> Run C Pr Ow (.code f nt (.loop c) st e st1)
  | loopMore {f nt c st st1 st2 e} : Run C Pr Ow (.code f nt c st .normal st1) -> Run C Pr Ow (.loop f nt c st1 e st2) -> Run C Pr Ow (.loop f nt c st e st2)
  | loopOut {f nt c st st1 e} : Run C Pr Ow (.code f nt c st e st1) -> e.isNormal = false -> Run C Pr Ow (.loop f nt c st e st1)
  | exit {f nt id st} : Run C Pr Ow (.code f nt (.exit id) st (.exit id) st)
  | goto {f nt l st} : Run C Pr Ow (.code f nt (.goto l) st (.goto l) st)
  | ret {f nt st} : Run C Pr Ow (.code f nt .ret st .ret st)
  | scope {f nt c st st1 e} : Run C Pr Ow (.code f nt c st e st1) -> e.jumps c = false -> Run C Pr Ow (.code f nt (.scope c) st e st1)
  | scopeJump {f nt c rest l st st1 st2 e} : Run C Pr Ow (.code f nt c st (.goto l) st1) -> findLabel c l = some rest -> Run C Pr Ow (.scope f nt c rest st1 e st2) -> Run C Pr Ow (.code f nt (.scope c) st e st2)
  | scopeEnd {f nt c rest st st1 e} : Run C Pr Ow (.code f nt rest st e st1) -> e.jumps c = false -> Run C Pr Ow (.scope f nt c rest st e st1)
  | scopeOn {f nt c rest rest' l st st1 st2 e} : Run C Pr Ow (.code f nt rest st (.goto l) st1) -> findLabel c l = some rest' -> Run C Pr Ow (.scope f nt c rest' st1 e st2) -> Run C Pr Ow (.scope f nt c rest st e st2)
  | weak {f nt c st st1 st2 e} : Weaker st st1 -> Run C Pr Ow (.code f nt c st1 e st2) -> Run C Pr Ow (.code f nt c st e st2)
  | weakLoop {f nt c st st1 st2 e} : Weaker st st1 -> Run C Pr Ow (.loop f nt c st1 e st2) -> Run C Pr Ow (.loop f nt c st e st2)
  | weakScope {f nt c rest st st1 st2 e} : Weaker st st1 -> Run C Pr Ow (.scope f nt c rest st1 e st2) -> Run C Pr Ow (.scope f nt c rest st e st2)
  | weakEnd {f nt c st st1 st2 e} : Run C Pr Ow (.code f nt c st e st1) -> Weaker st1 st2 -> Run C Pr Ow (.code f nt c st e st2)
  | weakEndL {f nt c st st1 st2 e} : Run C Pr Ow (.loop f nt c st e st1) -> Weaker st1 st2 -> Run C Pr Ow (.loop f nt c st e st2)
  | nil {f nt os st} : Run C Pr Ow (.ops f nt os [] st [] st)
  | act {f nt os o l st out outs st'} : wants os st.t o = some true -> Det.act C f st.t st.h o.dst o.op = some out -> phiOK nt out = true -> 
      Run C Pr Ow (.ops f nt os l (apply st o.dst out) outs st') -> Run C Pr Ow (.ops f nt os (o :: l) st (out :: outs) st')
  | pass {f nt os o l st outs st'} : wants os st.t o = some false -> Run C Pr Ow (.ops f nt os l (apply st o.dst { v := .tup [] }) outs st') -> Run C Pr Ow (.ops f nt os (o :: l) st ({ v := .tup [] } :: outs) st')
  | callF {f nt os o l st out outs st' x as1 ts g first cap xs' ex r ex'} : wants os st.t o = some true -> o.op = .call ⟨.value x, as1, ts⟩ -> calleeOf (opnd st.t x) = some (g, first, cap) -> 
      callIn C st.h g (first ++ as1.toList.map (opnd st.t) ++ cap) = some (xs', ex) -> C.own g = false -> Run C Pr Ow (.call g xs' ex r ex') -> 
      callOut C st.h o.dst g (first ++ as1.toList.map (opnd st.t) ++ cap) r ex' = some out -> phiOK nt out = true -> 
      Run C Pr Ow (.ops f nt os l (apply st o.dst out) outs st') -> Run C Pr Ow (.ops f nt os (o :: l) st (out :: outs) st')
  | callOwn {f nt os o l st out outs st' x as1 ts g first cap xs' ex r ex'} : wants os st.t o = some true -> o.op = .call ⟨.value x, as1, ts⟩ -> calleeOf (opnd st.t x) = some (g, first, cap) -> 
      callIn C st.h g (first ++ as1.toList.map (opnd st.t) ++ cap) = some (xs', ex) -> C.own g = true -> C.scal g = false -> Ow g xs' r -> 
      callOut C st.h o.dst g (first ++ as1.toList.map (opnd st.t) ++ cap) r ex' = some out -> phiOK nt out = true -> 
      Run C Pr Ow (.ops f nt os l (apply st o.dst out) outs st') -> Run C Pr Ow (.ops f nt os (o :: l) st (out :: outs) st')
  | prim {g xs r} : Pr g xs r -> Run C Pr Ow (.call g xs [] r [])
  | callWk {g xs xs' ex r r' ex'} : WkL xs' xs -> (r = r' \/ WkV r r') -> Run C Pr Ow (.call g xs ex r ex') -> Run C Pr Ow (.call g xs' ex r' ex')
  | body {g fi xs ex e st vs vs' ex'} : C.F g = some fi -> Run C Pr Ow (.code g fi.nt fi.code (enterD fi xs ex) e st) -> e.ends = true -> 
      resL C st fi.res = some vs -> sealL st.h vs = some vs' -> sealBs st.h (st.h.drop fi.nt) = some ex' -> ex'.length = ex.length -> ex'.all Blk.isBox = true -> 
      Run C Pr Ow (.call g xs ex (one vs') ex')
end Go.Det
end

section
namespace Go.Det
def Callable (P : Program) (g : Nat) : Prop := ∃ fn, P.funcs[g]? = some fn /\ fn.body.isSome = true /\ fn.name ≠ "runtime.NumGoroutine"
def Ex.toExit : Ex -> Exit
  | .normal => .normal
  | .exit id => .exit id
  | .goto l => .goto l
  | .ret => .ret
def Post1 (nt : Nat) (ρ0 : Rho) (w0 : World) (L : List Nat) (m0 : Ro) (e : Ex) (st' : St) : Exit -> Act -> World -> Prop := fun e' a' w' => e' = e.toExit /\ ∃ ρ' m', RelX nt ρ0 w0 L m0 st' a' w' ρ' m'
def Says (P : Program) (C : Cfg) : J -> Prop
  | .code f nt c st e st' => ∀ ρ0 w0 L m0 a w ρ m, GlobOK C m0 -> RelX nt ρ0 w0 L m0 st a w ρ m -> c.wp P (Post1 nt ρ0 w0 L m0 e st') a w
  | .loop f nt c st e st' => ∀ ρ0 w0 L m0 a w ρ m, GlobOK C m0 -> RelX nt ρ0 w0 L m0 st a w ρ m -> ∀ (b : Frame) (k : List Item) (cs : List Frame),
      ∃ e' a' w', Post1 nt ρ0 w0 L m0 e st' e' a' w' /\ Arrives P (lone (b.at a (.code c :: .inLoop c :: k)) cs w) b k cs e' a' w'
  | .scope f nt c rest st e st' => ∀ ρ0 w0 L m0 a w ρ m, GlobOK C m0 -> RelX nt ρ0 w0 L m0 st a w ρ m -> ∀ (b : Frame) (k : List Item) (cs : List Frame),
      ∃ e' a' w', Post1 nt ρ0 w0 L m0 e st' e' a' w' /\ Arrives P (lone (b.at a (.code rest :: .inScope c :: k)) cs w) b k cs e' a' w'
  | .ops f nt os l st outs st' => Trace P C nt os l st outs st'
  | .call g xs ex r ex' => Callable P g /\ CallOK P C g xs ex r ex'
structure CfgOK (P : Program) (C : Cfg) (Pr Ow : Nat -> List DV -> DV -> Prop) : Prop where
  ty : ∀ t ti, C.T t = some ti -> TiOK P t ti
  fn : ∀ g fi, C.F g = some fi -> ∃ fn, P.funcs[g]? = some fn /\ fn.body = some fi.code /\ fn.ntmps = fi.nt /\ fn.results.toList = fi.res /\ fn.name ≠ "runtime.NumGoroutine"
  prim : ∀ g xs r, Pr g xs r -> Callable P g /\ CallOK P C g xs [] r []
  own : ∀ g xs r, Ow g xs r -> Callable P g /\ OwnOK P C g xs r
  mixed : P.follows .mixedOrders = true
  sem : ∀ f nt c st e st', C.sem f nt c st e st' -> Says P C (.code f nt c st e st')
theorem wanted_eq {w0 : World} {L : List Nat} {m0 : Ro} {st : St} {a : Act} {w : World} {ρ : Rho} {m : Ro} (r : Rel w0 L m0 st a w ρ m) {os : List Oper} {o : Oper} {b : Bool} (h : wants os st.t o = some b) :
    Region.wanted o (yielded os.toArray a.tmps) = b := by
  unfold wants at h
  unfold Region.wanted
  split at h
  · rename_i hg; rw [hg]; simpa using h
  · rename_i j want hg
    rw [hg]
    simp only
    split at h
    · rename_i d hd
      have hd' : (os.toArray[j]?).bind (·.dst) = some d := by simpa using hd
      have hs := r.sget d
      rw [Array.getD_eq_getD_getElem?] at hs
      unfold yielded
      rw [hd']
      simp only [Option.bind_some]
      split at h
      · rename_i b' hb
        rw [hb] at hs
        simp only [VR] at hs
        simp only [Option.some.injEq] at h
        cases hx : a.tmps[d]? with
        | none => rw [hx] at hs; simp [undef] at hs
        | some v => rw [hx] at hs; simp at hs; subst hs; simpa using h
      · rename_i hb
        rw [hb] at hs
        simp only [VR, VRL] at hs
        obtain ⟨vs, hs, hvs⟩ := hs
        simp only [Option.some.injEq] at h
        cases hx : a.tmps[d]? with
        | none => simp [← h]
        | some v => rw [hx] at hs; simp at hs; subst hs; simp [← h]
      · simp at h
    · simp at h
theorem agrees_opnd {os : List Oper} {o : Oper} {st st2 : St} (h : Agrees os o st st2) : ∀ x ∈ o.op.operands.toList, opnd st2.t x = opnd st.t x := by
  intro x hx
  cases x with
  | tmp i => exact h.1 i (List.mem_append_right _ (List.mem_filterMap.2 ⟨.tmp i, hx, rfl⟩))
  | const v => rfl
  | global g => rfl
  | func f => rfl
theorem agrees_wants {os : List Oper} {o : Oper} {st st2 : St} (h : Agrees os o st st2) : wants os st2.t o = wants os st.t o := by
  unfold wants
  cases hg : o.guard with
  | none => rfl
  | some p =>
    obtain ⟨j, want⟩ := p
    simp only
    cases hd : (os[j]?).bind (·.dst) with
    | none => rfl
    | some d =>
      simp only
      rw [h.1 d (List.mem_append_left _ (by rw [hg]; simp [hd]))]
section
variable {P : Program} {C : Cfg} {Pr Ow : Nat -> List DV -> DV -> Prop} {nt : Nat} {os : List Oper} {o : Oper} {st : St} {out : Out}
theorem RelX.apply {ρ0 : Rho} {w0 : World} {L : List Nat} {m0 : Ro} {a : Act} {w : World} {ρ : Rho} {m : Ro} (r : RelX nt ρ0 w0 L m0 st a w ρ m) {v' : Value} {w' : World} {ρ' : Rho} {m' : Ro}
    (p : Post L w0.heap.size st.h w0 w ρ m out v' w' ρ' m') (hφ : phiOK nt out = true) (dst : Option Nat) : RelX nt ρ0 w0 L m0 (Det.apply st dst out) (a.put dst v') w' ρ' m' :=
  ⟨r.toRel.apply p dst, fun b hb => by
    rw [← p.rho b ?_]
    · exact r.ext b hb
    · intro hin
      have := List.all_eq_true.1 hφ b hin
      simp at this; omega⟩
theorem step_act (K0 : CfgOK P C Pr Ow) {f : Nat} (hw : wants os st.t o = some true) (ha : act C f st.t st.h o.dst o.op = some out) (hφ : phiOK nt out = true) : StepOK P C nt os o st out := by
  intro st2 hag ρ0 w0 L m0 a w ρ m K Q hG r hK
  have hw2 : wants os st2.t o = some true := (agrees_wants hag).trans hw
  rw [wanted_eq r.toRel hw2, if_pos rfl]
  have ha2 : act C f st2.t st2.h o.dst o.op = some out := by
    rw [act_frame (agrees_opnd hag) fun x hx b hb => hag.2 b (touched_direct (List.mem_flatMap.2 ⟨x, hx, hb⟩))]
    exact ha
  obtain ⟨nx, v', w', ρ', m', h1, h2, h3⟩ := act_ok K0.ty r.toRel hG ha2
  unfold Oper.wp
  rw [h1]
  rcases h2 with rfl | ⟨rfl, rfl⟩
  · rw [Oper.upon_value]; exact hK _ _ _ _ (r.apply h3 hφ _)
  · rw [Oper.upon_skip]; exact hK _ _ _ _ (r.apply h3 hφ _)
theorem step_pass (hw : wants os st.t o = some false) : StepOK P C nt os o st { v := .tup [] } := by
  intro st2 hag ρ0 w0 L m0 a w ρ m K Q hG r hK
  have hw2 : wants os st2.t o = some false := (agrees_wants hag).trans hw
  rw [wanted_eq r.toRel hw2, if_neg (by simp)]
  have hu : VR ρ m (.tup []) undef := by simp only [VR, VRL, undef]; exact ⟨#[], rfl, rfl⟩
  exact hK _ _ _ _ (r.apply (post_same r.inv r.evo hu) (by simp [phiOK]) _)
theorem VRL.append3 {ρ : Rho} {m : Ro} {a b c : List DV} {x y z : List Value} (h1 : VRL ρ m a x) (h2 : VRL ρ m b y) (h3 : VRL ρ m c z) : VRL ρ m (a ++ b ++ c) (x ++ y ++ z) := (h1.append h2).append h3
theorem step_call {x : Operand} {as1 : Array Operand} {ts : Array TypeId} {g : Nat} {first cap xs' : List DV} {ex ex' : List Blk} {r : DV} (hc : Callable P g)
    (hw : wants os st.t o = some true) (ho : o.op = .call ⟨.value x, as1, ts⟩) (hx : calleeOf (opnd st.t x) = some (g, first, cap))
    (e1 : callIn C st.h g (first ++ as1.toList.map (opnd st.t) ++ cap) = some (xs', ex)) (e2 : callOut C st.h o.dst g (first ++ as1.toList.map (opnd st.t) ++ cap) r ex' = some out)
    (hg : (C.own g = false /\ CallOK P C g xs' ex r ex') \/ (C.own g = true /\ C.scal g = false /\ OwnOK P C g xs' r)) (hφ : phiOK nt out = true) : StepOK P C nt os o st out := by
  intro st2 hag ρ0 w0 L m0 a w ρ m K Q hG rr hK
  have hw2 : wants os st2.t o = some true := (agrees_wants hag).trans hw
  rw [wanted_eq rr.toRel hw2, if_pos rfl]
  have hop := agrees_opnd hag
  have hin : ∀ y ∈ as1.toList, y ∈ o.op.operands.toList := fun y hy => by rw [ho]; simp [Op.operands, Call.operands]; exact .inr (by simpa using hy)
  have hinx : x ∈ o.op.operands.toList := by rw [ho]; simp [Op.operands, Call.operands]
  have hargs : as1.toList.map (opnd st2.t) = as1.toList.map (opnd st.t) := List.map_congr_left fun y hy => hop y (hin y hy)
  have hx2 : calleeOf (opnd st2.t x) = some (g, first, cap) := by rw [hop x hinx]; exact hx
  have hfn : opnd st.t x = .fn (.func g) first cap := by
    unfold calleeOf at hx
    split at hx
    · rename_i g' f' c' hx'; simp at hx; obtain ⟨rfl, rfl, rfl⟩ := hx; exact hx'
    · simp at hx
  have hm : ∀ b ∈ mentsL (first ++ as1.toList.map (opnd st.t) ++ cap), b ∈ o.op.operands.toList.flatMap fun x => (opnd st.t x).ments := by
    intro b hb
    rw [mentsL_append, mentsL_append, List.mem_append, List.mem_append] at hb
    rcases hb with (hb | hb) | hb
    · exact List.mem_flatMap.2 ⟨x, hinx, by rw [hfn]; simp [DV.ments, hb]⟩
    · obtain ⟨y, hy, hb⟩ := of_mentsL hb
      obtain ⟨z, hz, rfl⟩ := List.mem_map.1 hy
      exact List.mem_flatMap.2 ⟨z, hin z hz, hb⟩
    · exact List.mem_flatMap.2 ⟨x, hinx, by rw [hfn]; simp [DV.ments, hb]⟩
  have hdeep : ∀ b ∈ deepMents st.h (mentsL (first ++ as1.toList.map (opnd st.t) ++ cap)), hget st.h b = hget st2.h b := by
    intro b hb
    refine (hag.2 b ?_).symm
    unfold touched
    rw [show callsOut o.op = true by rw [ho]; rfl]
    simp only [cond_true]
    unfold deepMents
    unfold deepMents at hb
    rcases List.mem_append.1 hb with hb | hb
    · exact List.mem_append_left _ (hm b hb)
    · obtain ⟨c, hc, hb⟩ := List.mem_flatMap.1 hb
      exact List.mem_append_right _ (List.mem_flatMap.2 ⟨c, hm c hc, hb⟩)
  rw [callIn_frame hdeep] at e1
  rw [callOut_frame hdeep] at e2
  have hfv := rr.toRel.opnd x
  rw [hop x hinx, hfn] at hfv
  simp only [VR] at hfv
  obtain ⟨fv, cv, hev, hf1, hf2⟩ := hfv
  have hvals : VRL ρ m (first ++ as1.toList.map (opnd st.t) ++ cap) ((fv ++ as1.map a.eval) ++ cv).toList := by
    simp only [Array.toList_append, Array.toList_map]
    refine VRL.append3 hf1 ?_ hf2
    rw [← hargs]
    exact VRL.opnds rr.toRel as1.toList
  obtain ⟨fn, c1, c2, c3⟩ := hc
  have hrun : (execOp a.eval o).run P w = .ok (.enter g ((fv ++ as1.map a.eval) ++ cv)) w := by
    unfold execOp
    rw [ho]
    simp only [resolve, hev]
    have : fn.body ≠ none := by intro hb; rw [hb] at c2; simp at c2
    simp [Deferred.ofValue, invoke, callFunc, c1, c3, this]
  unfold Oper.wp
  rw [hrun, Oper.upon_enter]
  refine (callOp_ok rr.inv rr.evo (hG.mono rr.sub.1) hvals e1 e2 hg).mono ?_
  rintro e w' ⟨v', ρ', m', rfl, hp⟩
  exact hK _ _ _ _ (rr.apply hp hφ _)
theorem VRL.weaker {ρ : Rho} {m : Ro} : ∀ {l l' : List DV} {vs : List Value}, VRL ρ m l vs -> l'.length = l.length -> (∀ (i : Nat) (x : DV), l'[i]? = some x -> x = .unk \/ ∃ y, l[i]? = some y /\ (y = x \/ WkV y x)) -> VRL ρ m l' vs
  | [], [], vs, h, _, _ => h
  | x :: l, [], vs, h, hl, _ => by simp at hl
  | [], y :: l', vs, h, hl, _ => by simp at hl
  | x :: l, y :: l', vs, h, hl, hx => by
    simp only [VRL] at h
    obtain ⟨v, r, rfl, h1, h2⟩ := h
    refine VRL.cons ?_ (VRL.weaker h2 (by simpa using hl) fun i z hz => by simpa using hx (i + 1) z (by simpa using hz))
    rcases hx 0 y rfl with rfl | ⟨z, h0, h3⟩
    · simp [VR]
    · simp at h0; subst h0
      rcases h3 with rfl | h3
      · exact h1
      · exact h3.2 _ _ _ h1
theorem RelX.weaker {ρ0 : Rho} {w0 : World} {L : List Nat} {m0 : Ro} {st1 : St} {a : Act} {w : World} {ρ : Rho} {m : Ro} (r : RelX nt ρ0 w0 L m0 st a w ρ m) (h : Weaker st st1) : RelX nt ρ0 w0 L m0 st1 a w ρ m :=
  ⟨⟨r.slots.weaker h.len h.slots, r.defers, r.inv.less h.heap, r.evo, r.sub⟩, r.ext⟩
theorem loop_arrives {c : Code} {b : Frame} {k : List Item} {cs : List Frame} {e : Ex} {m : Machine} {a' : Act} {w' : World} (he : e.isNormal = false) (harr : Arrives P m b (.inLoop c :: k) cs e.toExit a' w') :
    Arrives P m b k cs e.toExit a' w' := by
  refine .pass (x := .inLoop c) rfl (fun _ _ => .inl ?_) harr
  cases e <;> simp [Ex.isNormal, Ex.toExit] at he ⊢
theorem scope_arrives {c : Code} {b : Frame} {k : List Item} {cs : List Frame} {e : Ex} {m : Machine} {a' : Act} {w' : World} (he : e.jumps c = false) (harr : Arrives P m b (.inScope c :: k) cs e.toExit a' w') :
    Arrives P m b k cs e.toExit a' w' := by
  cases e with
  | normal => exact Steps.trans harr (.one step_inScope)
  | exit id => exact fun k' hk => harr k' (by simp [exitTo, hk])
  | goto l =>
    intro k' hk
    refine harr k' ?_
    simp only [Ex.jumps] at he
    have : findLabel c l = none := by cases h : findLabel c l <;> simp [h] at he ⊢
    simp [gotoIn, this, hk]
  | ret => exact harr
end
end Go.Det
end

section
namespace Go.Det
section
variable {P : Program} {C : Cfg} {Pr Ow : Nat -> List DV -> DV -> Prop}
theorem resOf_ok {w0 : World} {L : List Nat} {m0 : Ro} {st : St} {a : Act} {w : World} {ρ : Rho} {m : Ro} (hT : ∀ t ti, C.T t = some ti -> TiOK P t ti) (r : Rel w0 L m0 st a w ρ m) (hG : GlobOK C m0) : ∀ {l : List ResultVar} {vs : List DV}, resL C st l = some vs -> 
    ∃ us, (l.mapM (fun | ResultVar.tmp t => pure (a.tmps.getD t undef) | .cell b t => do loadVar t (← asAddr (a.tmps.getD b undef)) : ResultVar -> Sem Value)).run P w = .ok us w /\ VRL ρ m vs us
  | [], vs, h => by
    simp [resL] at h; subst h
    exact ⟨[], rfl, by simp [VRL]⟩
  | v :: l, vs, h => by
    simp only [resL] at h
    split at h
    · rename_i x xs h1 h2
      simp only [Option.some.injEq] at h; subst h
      obtain ⟨us, k1, k2⟩ := resOf_ok hT r hG h2
      have : ∃ u, ((fun | ResultVar.tmp t => pure (a.tmps.getD t undef) | .cell b t => do loadVar t (← asAddr (a.tmps.getD b undef)) : ResultVar -> Sem Value) v).run P w = .ok u w /\ VR ρ m x u := by
        cases v with
        | tmp t =>
          simp only [resOf, Option.some.injEq] at h1; subst h1
          exact ⟨_, rfl, r.sget t⟩
        | cell b t =>
          simp only [resOf] at h1
          obtain ⟨u, q1, q2⟩ := loadOp_ok hT h1 r.inv (hG.mono r.sub.1) (r.sget b)
          refine ⟨u, ?_, q2⟩
          simp only [Instr.loadAt] at q1
          simp only
          rw [Sem.run_bind] at q1 ⊢
          cases hv : a.tmps.getD b undef with
          | pointer p =>
            rw [hv] at q1
            cases p with
            | none => simp [Instr.sureAddr] at q1
            | some ad => simpa [Instr.sureAddr, asAddr] using q1
          | _ => rw [hv] at q1; simp [Instr.sureAddr] at q1
      obtain ⟨u, q1, q2⟩ := this
      refine ⟨u :: us, ?_, VRL.cons q2 k2⟩
      rw [List.mapM_cons, Sem.run_bind, q1, Result.andThen_ok, Sem.run_bind, k1, Result.andThen_ok]
      rfl
    · simp at h
theorem sealBs_get {h : Heap} : ∀ {l : List (Option Blk)} {ex : List Blk}, sealBs h l = some ex -> l.length = ex.length /\ ∀ (j : Nat) (x : Blk), ex[j]? = some x -> ∃ y, l[j]? = some (some y) /\ sealB h y = some x
  | [], ex, e => by simp [sealBs] at e; subst e; simp
  | none :: l, ex, e => by simp [sealBs] at e
  | some b :: l, ex, e => by
    simp only [sealBs] at e
    split at e
    · rename_i b' l' h1 h2
      simp only [Option.some.injEq] at e; subst e
      obtain ⟨k1, k2⟩ := sealBs_get h2
      refine ⟨by simp [k1], fun j x hj => ?_⟩
      cases j with
      | zero => simp at hj; subst hj; exact ⟨b, rfl, h1⟩
      | succ j => simpa using k2 j x (by simpa using hj)
    · simp at e
theorem one_ok {ρ : Rho} {m : Ro} {vs : List DV} {us : Array Value} (h : VRL ρ m vs us.toList) : VR ρ m (one vs) (if h : us.size = 1 then us[0] else .tuple us) := by
  have hl := h.length
  simp only [Array.length_toList] at hl
  match vs, h, hl with
  | [], h, hl =>
    simp only [List.length_nil] at hl
    have : ¬ us.size = 1 := by omega
    rw [dif_neg this]
    simp only [one, VR]
    exact ⟨us, rfl, h⟩
  | [x], h, hl =>
    have : us.size = 1 := by simpa using hl
    rw [dif_pos this]
    simp only [one]
    obtain ⟨v, hv, hx⟩ := h.get 0 x rfl
    have : us[0] = v := by
      have : us[0]? = some v := by simpa using hv
      exact (Array.getElem?_eq_some_iff.1 this).2
    rw [this]; exact hx
  | x :: y :: l, h, hl =>
    have : ¬ us.size = 1 := by simp at hl; omega
    rw [dif_neg this]
    simp only [one, VR]
    exact ⟨us, rfl, h⟩
theorem one_ments {vs : List DV} (h : mentsL vs = []) : (one vs).ments = [] := by
  match vs, h with
  | [], h => rfl
  | [x], h => simpa [one, mentsL] using h
  | x :: y :: l, h => simpa [one, DV.ments] using h
theorem hget_enter {fi : Fi} {xs : List DV} {ex : List Blk} {b : Nat} {x : Blk} (h : hget (enterD fi xs ex).h b = some x) : ∃ j, b = fi.nt + j /\ ex[j]? = some x := by
  unfold hget enterD at h
  simp only at h
  by_cases hb : b < fi.nt
  · rw [List.getElem?_append_left (by simpa using hb)] at h
    simp [hb] at h
  · rw [List.getElem?_append_right (by simpa using hb)] at h
    refine ⟨b - fi.nt, by omega, ?_⟩
    simp only [List.length_replicate, List.getElem?_map] at h
    cases hx : ex[b - fi.nt]? with
    | none => rw [hx] at h; simp at h
    | some y => rw [hx] at h; simpa using h
theorem VRL.undef (ρ : Rho) (m : Ro) (n : Nat) : VRL ρ m (List.replicate n (.tup [])) (List.replicate n Go.undef) := by
  induction n with
  | zero => simp [VRL]
  | succ n ih =>
    rw [List.replicate_succ, List.replicate_succ]
    exact VRL.cons (by simp only [VR, VRL, Go.undef]; exact ⟨#[], rfl, rfl⟩) ih
theorem results_ok (hT : ∀ t ti, C.T t = some ti -> TiOK P t ti) {fn : Func} {fi : Fi} (c4 : fn.results.toList = fi.res) {w0 : World} {L : List Nat} {m0 : Ro} {st : St} {a' : Act} {w' : World} {ρ : Rho} {m : Ro} (r : Rel w0 L m0 st a' w' ρ m) (hG : GlobOK C m0) {vs : List DV} (hr : resL C st fi.res = some vs) :
    ∃ us : List Value, (results fn a'.tmps).run P w' = .ok (if h : us.toArray.size = 1 then us.toArray[0] else .tuple us.toArray) w' /\ VRL ρ m vs us := by
  obtain ⟨us, u1, u2⟩ := resOf_ok hT r hG hr
  refine ⟨us, ?_, u2⟩
  unfold results
  rw [show fn.results = fi.res.toArray from by rw [← c4], List.mapM_toArray, Sem.run_bind]
  have : (List.toArray <$> fi.res.mapM (fun | ResultVar.tmp t => pure (a'.tmps.getD t undef) | .cell b t => do loadVar t (← asAddr (a'.tmps.getD b undef)) : ResultVar -> Sem Value)).run P w' = .ok us.toArray w' := by
    rw [map_eq_pure_bind, Sem.run_bind, u1, Result.andThen_ok]
    rfl
  refine (congrArg (fun r => Result.andThen r _) this).trans ?_
  rw [Result.andThen_ok]
  rfl
def Ro.drop (m : Ro) (D : Nat) : Ro := ⟨m.c, fun r => if r = D then .none else m.o r⟩
theorem VRL.dropO {ρ : Rho} {m : Ro} {D : Nat} {xs : List DV} {vs : List Value} (h : VRL ρ m xs vs) : VRL ρ (m.drop D) xs vs := VRL.mono (m := m) (m' := m.drop D) (fun _ _ h => h) xs h
theorem Inv.take {ρ : Rho} {m : Ro} {L : List Nat} {N : Nat} {h : Heap} {w : World} {D : Nat} {x : Obj} (i : Inv ρ m L N h w) (hD : m.o D = some x) (y : Obj) : Inv ρ (m.drop D) L N h (w.putObj D y) := by
  have far : ∀ {p : Loc} {b : Blk}, BR ρ m w p b -> (w.putObj D y).heap[p.blk]? = w.heap[p.blk]? := fun hB => World.putObj_heap_other (fun e => i.oth_ne hB hD e.symm)
  refine ⟨fun b z hz => ?_, i.inj, fun r c hc => ?_, fun r z hz => ?_⟩
  · obtain ⟨p, h1, h2, h3⟩ := i.blk b z hz
    have := BR.step (m := m) (m' := m.drop D) (fun _ _ h => h) [] (fun _ _ => rfl) (far h2) h2
    rw [Blk.forget_nil] at this
    exact ⟨p, h1, this, h3⟩
  · obtain ⟨el, fr, hh⟩ := i.ro r c hc
    refine ⟨el, fr, (World.putObj_heap_other ?_).trans hh⟩
    rintro rfl
    obtain ⟨k1, k2⟩ := i.oth _ _ hD
    rw [hh] at k1; cases k1; simp [isCellsO] at k2
  · have hz : (if r = D then none else m.o r) = some z := hz
    split at hz
    · cases hz
    · rename_i e
      obtain ⟨k1, k2⟩ := i.oth _ _ hz
      exact ⟨(World.putObj_heap_other e).trans k1, k2⟩
theorem Rel.take {w0 : World} {L : List Nat} {m0 : Ro} {st : St} {a : Act} {w : World} {ρ : Rho} {m : Ro} (r : Rel w0 L m0 st a w ρ m) (hm0 : ∀ k x, m0.o k = some x -> k < w0.heap.size) {d : Deferred} {ds : List Deferred} (hd : a.defers = d :: ds) :
    ∃ D, d.target = .collected D /\ w.heap[D]? = some (.deferred (some [])) /\ Rel w0 L m0 st { a with defers := ds } (w.putObj D (.deferred none)) ρ (m.drop D) := by
  obtain ⟨D, rfl, h1, h2⟩ := r.defers.mark d (by rw [hd]; simp)
  have hnd := r.defers.nodup
  rw [hd, List.nodup_cons] at hnd
  have hD : ∀ k x, m0.o k = some x -> (m.drop D).o k = some x := fun k x hk => by
    show (if k = D then none else m.o k) = some x
    rw [if_neg (by have := hm0 k x hk; omega)]; exact r.sub.3 k x hk
  refine ⟨D, rfl, (r.inv.oth _ _ h1).1, ⟨r.slots.dropO, ⟨fun d' hd' => ?_, hnd.2⟩, r.inv.take h1 _, ⟨r.evo.os, r.evo.tape, r.evo.output, by simpa using r.evo.size, fun k hk hL => ?_⟩, ⟨r.sub.1, r.sub.2, hD⟩⟩⟩
  · obtain ⟨D', rfl, q1, q2⟩ := r.defers.mark d' (by rw [hd]; exact List.mem_cons_of_mem _ hd')
    refine ⟨D', rfl, ?_, q2⟩
    show (if D' = D then none else m.o D') = _
    rw [if_neg ?_]
    · exact q1
    · rintro rfl; exact hnd.1 hd'
  · exact (World.putObj_heap_other (by omega)).trans (r.evo.keep k hk hL)
theorem leaves_ok {nt : Nat} {ρ0 : Rho} {fn : Func} {R : Ending -> World -> Prop} {w0 : World} {L : List Nat} {m0 : Ro} {st : St} {ρ : Rho} (hm0 : ∀ k x, m0.o k = some x -> k < w0.heap.size) : ∀ (ds : List Deferred) (a : Act) (w : World) (m : Ro), a.defers = ds -> RelX nt ρ0 w0 L m0 st a w ρ m -> 
    (∀ (a' : Act) (w' : World) (m' : Ro), a'.tmps = a.tmps -> RelX nt ρ0 w0 L m0 st a' w' ρ m' -> ∃ v, (results fn a'.tmps).run P w' = .ok v w' /\ R (.returned v) w') -> 
    LeavesInM Fence.wide 0 P fn a.tmps R ds .returning w
  | [], a, w, m, hd, r, k => k a w m rfl r
  | d :: ds, a, w, m, hd, r, k => by
    obtain ⟨D, h1, h2, h3⟩ := r.toRel.take hm0 hd
    refine ⟨by simp, .inl ⟨D, _, h1, run_takeDeferred h2, ?_⟩⟩
    exact leaves_ok hm0 ds { a with defers := ds } _ _ rfl ⟨h3, r.ext⟩ k
theorem calls_of_rel {nt : Nat} {ρ0 : Rho} {f : FuncId} {fn : Func} {c : Code} {args : Array Value} {w : World} {R : Ending -> World -> Prop} {L : List Nat} {m0 : Ro} {st : St} {e : Ex} (he : e.ends = true)
    (hm0 : ∀ k x, m0.o k = some x -> k < w.heap.size) (hf : P.funcs[f]? = some fn) (hb : fn.body = some c)
    (h : c.wp P (Post1 nt ρ0 w L m0 e st) { tmps := args ++ Array.replicate (fn.ntmps - args.size) undef, defers := [] } w)
    (k : ∀ (a' : Act) (w' : World) (ρ : Rho) (m' : Ro), RelX nt ρ0 w L m0 st a' w' ρ m' -> ∃ v, (results fn a'.tmps).run P w' = .ok v w' /\ R (.returned v) w') : Calls P f args w R := by
  refine (callsIn_wide (n := 0)).1 (callsIn_of_wp_marks hf hb trivial (wpIn_wide.2 (Go.wp_mono h ?_)))
  rintro e' a' w' ⟨rfl, ρ', m', r'⟩
  have := leaves_ok (P := P) (fn := fn) (R := R) hm0 a'.defers a' w' m' rfl r' (fun a2 w2 m2 _ r2 => k a2 w2 ρ' m2 r2)
  cases e <;> simp [Ex.ends] at he <;> exact this
set_option maxHeartbeats 1000000 in
theorem body_ok (K0 : CfgOK P C Pr Ow) {g : Nat} {fi : Fi} {xs : List DV} {ex : List Blk} {e : Ex} {st : St} {vs vs' : List DV} {ex' : List Blk} (hf : C.F g = some fi)
    (hrun : Says P C (.code g fi.nt fi.code (enterD fi xs ex) e st)) (he : e.ends = true) (hr : resL C st fi.res = some vs) (hs : sealL st.h vs = some vs')
    (hb : sealBs st.h (st.h.drop fi.nt) = some ex') (hl : ex'.length = ex.length) (hbox : ex'.all Blk.isBox = true) : Callable P g /\ CallOK P C g xs ex (one vs') ex' := by
  obtain ⟨fn, c1, c2, c3, c4, c5⟩ := K0.fn g fi hf
  refine ⟨⟨fn, c1, by simp [c2], c5⟩, one_ments (sealL_ments vs hs).1, hl, ?_⟩
  intro ρ m w vals blks hG hro hx hext
  have hbase : baseOf C g = fi.nt := by unfold baseOf; rw [hf]
  rw [hbase] at hext ⊢
  have hlen := hx.length
  simp only [Array.length_toList] at hlen
  have r : RelX fi.nt ρ w blks m (enterD fi xs ex) { tmps := vals ++ Array.replicate (fn.ntmps - vals.size) undef, defers := [] } w ρ m := by
    refine ⟨⟨?_, Marks.nil _ _, ⟨fun b x hb => ?_, fun b b' x x' p p' hb hb' hp hp' hpp => ?_, hro.1, hro.2⟩, Evo.refl _ _, Grows.refl _ _⟩, fun _ _ => rfl⟩
    · simp only [enterD, Array.toList_append, Array.toList_replicate, c3, hlen]
      exact hx.append (VRL.undef ρ m _)
    · obtain ⟨j, rfl, hj⟩ := hget_enter hb
      obtain ⟨p, p1, p2, p3, p4, cs, rfl, p5⟩ := hext.at_ j x hj
      exact ⟨p, p1, p3, p4, .inl (List.mem_of_getElem? p2), by simp [Blk.isRow]⟩
    · obtain ⟨j, rfl, hj⟩ := hget_enter hb
      obtain ⟨j', rfl, hj'⟩ := hget_enter hb'
      obtain ⟨q, p1, p2, _⟩ := hext.at_ j x hj
      obtain ⟨q', p1', p2', _⟩ := hext.at_ j' x' hj'
      rw [hp] at p1; cases p1
      rw [hp'] at p1'; cases p1'
      rw [hpp] at p2
      have hj1 := (List.getElem?_eq_some_iff.1 p2)
      have hj2 := (List.getElem?_eq_some_iff.1 p2')
      obtain ⟨a1, a2⟩ := hj1
      obtain ⟨b1, b2⟩ := hj2
      have hnd := hext.nodup
      unfold List.Nodup at hnd
      rw [List.pairwise_iff_getElem] at hnd
      rcases Nat.lt_trichotomy j j' with h | h | h
      · exact absurd (by rw [a2, b2]) (hnd j j' a1 b1 h)
      · rw [h]
      · exact absurd (by rw [a2, b2]) (hnd j' j b1 a1 h)
  refine calls_of_rel he (fun k x hk => (Array.getElem?_eq_some_iff.1 (hro.2 k x hk).1).1) c1 c2 (hrun ρ w blks m _ w ρ m hG r) ?_
  intro a' w' ρ' m' r'
  have final : ∃ v, (results fn a'.tmps).run P w' = .ok v w' /\ (∃ v' m', Ending.returned v = .returned v' /\ VR ρ m' (one vs') v' /\ ExtOK m' w' fi.nt ρ ex' blks /\ RoOK m' w' /\ Grows w.heap.size m m' /\ Evo blks w w') := by
    obtain ⟨us, u1, u2⟩ := resOf_ok K0.ty r'.toRel hG hr
    have hres : (results fn a'.tmps).run P w' = .ok (if h : us.toArray.size = 1 then us.toArray[0] else .tuple us.toArray) w' := by
      unfold results
      rw [show fn.results = fi.res.toArray from by rw [← c4], List.mapM_toArray, Sem.run_bind]
      have : (List.toArray <$> fi.res.mapM (fun | ResultVar.tmp t => pure (a'.tmps.getD t undef) | .cell b t => do loadVar t (← asAddr (a'.tmps.getD b undef)) : ResultVar -> Sem Value)).run P w' = .ok us.toArray w' := by
        rw [map_eq_pure_bind, Sem.run_bind, u1, Result.andThen_ok]
        rfl
      refine (congrArg (fun r => Result.andThen r _) this).trans ?_
      rw [Result.andThen_ok]
      rfl
    refine ⟨_, hres, ?_⟩
    let V := mentsL vs ++ (st.h.drop fi.nt).flatMap boxMents
    obtain ⟨bl, hbs⟩ := sealBs_get hb
    have hboxes : ∀ (j : Nat) (x : Blk), ex'[j]? = some x -> ∃ cs cs', hget st.h (fi.nt + j) = some (.box cs) /\ (st.h.drop fi.nt)[j]? = some (some (.box cs)) /\ sealL st.h cs = some cs' /\ x = .box cs' := by
      intro j x hj
      obtain ⟨y, hy, hyx⟩ := hbs j x hj
      have hbx : x.isBox = true := by
        have := List.all_eq_true.1 hbox x (List.mem_of_getElem? hj)
        exact this
      have hy' := hy
      rw [List.getElem?_drop] at hy
      cases y with
      | box cs =>
        simp only [sealB, Option.map_eq_some_iff] at hyx
        obtain ⟨cs', q1, rfl⟩ := hyx
        exact ⟨cs, cs', by unfold hget; rw [hy]; rfl, hy', q1, rfl⟩
      | row n es => simp only [sealB, Option.some.injEq] at hyx; subst hyx; simp [Blk.isBox] at hbx
      | iter s p => simp only [sealB, Option.some.injEq] at hyx; subst hyx; simp [Blk.isBox] at hbx
    have hV : ViewsOK st.h V := by
      intro b hb'
      rcases List.mem_append.1 hb' with hb' | hb'
      · exact (sealL_ments vs hs).2 b hb'
      · obtain ⟨y, hy, hb'⟩ := List.mem_flatMap.1 hb'
        obtain ⟨j, hj⟩ := List.getElem?_of_mem hy
        have hjl : j < ex'.length := by rw [← bl]; exact (List.getElem?_eq_some_iff.1 hj).1
        obtain ⟨cs, cs', q1, q2, q3, q4⟩ := hboxes j _ (List.getElem?_eq_getElem hjl)
        rw [hj] at q2; cases q2
        exact (sealL_ments cs q3).2 b hb'
    obtain ⟨g1, ro1, k1, k2⟩ := viewM_old r'.inv hV
    have hshow : Shows ρ' m' st.h (viewM ρ' w' m' V) V := viewM_shows r'.inv hV (Sub.refl _)
    refine ⟨_, viewM ρ' w' m' V, rfl, one_ok (by simpa using sealL_ok g1.1 hshow vs hs (fun b hb => List.mem_append_left _ hb) u2 ρ), ⟨?_, hext.nodup, fun j x hj => ?_⟩, ro1, r'.sub.trans g1, r'.evo⟩
    · rw [hl]; exact hext.len
    · obtain ⟨cs, cs', q1, q2, q3, rfl⟩ := hboxes j x hj
      obtain ⟨p, hp, hB, hm, hL, _⟩ := r'.inv.blk _ _ q1
      have hjl : j < ex.length := by rw [← hl]; exact (List.getElem?_eq_some_iff.1 hj).1
      obtain ⟨p0, z1, z2, _⟩ := hext.at_ j _ (List.getElem?_eq_getElem hjl)
      have : p = p0 := by
        have := r'.ext (fi.nt + j) (Nat.le_add_right _ _)
        rw [hp, z1] at this; exact Option.some.inj this
      subst this
      refine ⟨p, z1, z2, hB.box rfl fun u hu => sealL_ok g1.1 hshow cs q3 (fun b hb' => List.mem_append_right _ (List.mem_flatMap.2 ⟨_, List.mem_of_getElem? q2, hb'⟩)) hu ρ, ?_, cs', rfl, (sealL_ments cs q3).1⟩
      rw [k2, hm]
      intro b' hb' p' hp' hpp
      obtain ⟨n, es, hrow⟩ := hV b' hb'
      have := r'.inv.inj b' _ _ _ p' p hrow q1 hp' hp hpp
      subst this
      rw [hrow] at q1; cases q1
  exact final
theorem Run.sound (K0 : CfgOK P C Pr Ow) : ∀ {j : J}, Run C Pr Ow j -> Says P C j := by
  intro j h
  induction h with
  | skip => intro ρ0 w0 L m0 a w ρ m hG r; exact wp_skip ⟨rfl, ρ, m, r⟩
  | label => intro ρ0 w0 L m0 a w ρ m hG r; exact wp_label ⟨rfl, ρ, m, r⟩
  | region h ih =>
    intro ρ0 w0 L m0 a w ρ m hG r
    exact wp_region_list (by simpa using trace_list (Q := Post1 _ ρ0 w0 L m0 .normal _) hG ih r fun a' w' ρ' m' r' => ⟨rfl, ρ', m', r'⟩)
  | @draw f nt id ops st outs st' h hd ih =>
    intro ρ0 w0 L m0 a w ρ m hG r
    have D := draw_of ih hd
    refine wp_region_any K0.mixed ?_
    have r' : RelX nt ρ0 w0 L m0 st a w.drew ρ m := ⟨⟨r.slots, r.defers, r.inv.drew, r.evo.drew, r.sub⟩, r.ext⟩
    have key : ∀ (l : List (Oper × Out)) (k : Nat) (st : St), foldSel (fun k => (Array.replicate ops.size false).getD k false) k l st = st := by
      intro l
      induction l with
      | nil => intro _ _; rfl
      | cons x l ih =>
        intro k st; obtain ⟨o, out⟩ := x
        have : (Array.replicate ops.size false).getD k false = false := by
          simp [Array.getD_eq_getD_getElem?, Array.getElem?_replicate]
          split <;> rfl
        simp only [foldSel, this, Bool.false_eq_true, if_false]
        exact ih (k + 1) st
    have := D.any hG (Q := Post1 nt ρ0 w0 L m0 .normal st') (fun a' w' ρ' m' r' => ⟨rfl, ρ', m', r'⟩) ops.size (Array.replicate ops.size false) a w.drew ρ m (by simp) ?_ (Nat.le_trans List.countP_le_length (by simp)) (by rw [key]; exact r')
    · rw [Array.toArray_toList] at this; exact this
    · intro k o ho hk j hj
      simp [Array.getD_eq_getD_getElem?, Array.getElem?_replicate] at hk
      split at hk <;> simp at hk
  | seq h1 h2 i1 i2 =>
    intro ρ0 w0 L m0 a w ρ m hG r
    refine wp_seq (Go.wp_mono (i1 ρ0 w0 L m0 a w ρ m hG r) ?_)
    rintro e a' w' ⟨rfl, ρ', m', r'⟩
    exact i2 ρ0 w0 L m0 a' w' ρ' m' hG r'
  | @seqOut f nt x y st st1 e h1 he i1 =>
    intro ρ0 w0 L m0 a w ρ m hG r
    refine wp_seq (Go.wp_mono (i1 ρ0 w0 L m0 a w ρ m hG r) ?_)
    rintro e' a' w' ⟨rfl, ρ', m', r'⟩
    cases e <;> simp [Ex.isNormal] at he <;> exact ⟨rfl, ρ', m', r'⟩
  | @condT f nt c x y st st1 e hc h1 i1 =>
    intro ρ0 w0 L m0 a w ρ m hG r
    have := r.toRel.opnd c
    rw [hc] at this; simp only [VR] at this
    exact wp_cond_true this (i1 ρ0 w0 L m0 a w ρ m hG r)
  | @condF f nt c x y st st1 e hc h1 i1 =>
    intro ρ0 w0 L m0 a w ρ m hG r
    have := r.toRel.opnd c
    rw [hc] at this; simp only [VR] at this
    exact wp_cond_false this (i1 ρ0 w0 L m0 a w ρ m hG r)
  | @block f nt id c st st1 e h1 i1 =>
    intro ρ0 w0 L m0 a w ρ m hG r
    refine wp_block (Go.wp_mono (i1 ρ0 w0 L m0 a w ρ m hG r) ?_)
    rintro e' a' w' ⟨rfl, ρ', m', r'⟩
    cases e with
    | exit id' =>
      simp only [Ex.toExit, Exit.inBlock, Ex.inBlock]
      split <;> exact ⟨by rename_i h; simp [h, Ex.toExit], ρ', m', r'⟩
    | _ => exact ⟨rfl, ρ', m', r'⟩
  | loop h1 i1 =>
    intro ρ0 w0 L m0 a w ρ m hG r b k cs
    obtain ⟨e', a', w', q, harr⟩ := i1 ρ0 w0 L m0 a w ρ m hG r b k cs
    exact ⟨e', a', w', q, .of_steps (.one step_loop) harr⟩
  | @loopMore f nt c st st1 st2 e h1 h2 i1 i2 =>
    intro ρ0 w0 L m0 a w ρ m hG r b k cs
    obtain ⟨e', a', w', ⟨rfl, ρ', m', r'⟩, harr⟩ := i1 ρ0 w0 L m0 a w ρ m hG r b (.inLoop c :: k) cs
    obtain ⟨e2, a2, w2, q, harr2⟩ := i2 ρ0 w0 L m0 a' w' ρ' m' hG r' b k cs
    exact ⟨e2, a2, w2, q, .of_steps (Steps.trans harr (.one step_inLoop)) harr2⟩
  | @loopOut f nt c st st1 e h1 he i1 =>
    intro ρ0 w0 L m0 a w ρ m hG r b k cs
    obtain ⟨e', a', w', ⟨rfl, ρ', m', r'⟩, harr⟩ := i1 ρ0 w0 L m0 a w ρ m hG r b (.inLoop c :: k) cs
    exact ⟨_, a', w', ⟨rfl, ρ', m', r'⟩, loop_arrives he harr⟩
  | exit => intro ρ0 w0 L m0 a w ρ m hG r; exact wp_exit ⟨rfl, ρ, m, r⟩
  | goto => intro ρ0 w0 L m0 a w ρ m hG r; exact wp_goto ⟨rfl, ρ, m, r⟩
  | ret => intro ρ0 w0 L m0 a w ρ m hG r; exact wp_ret ⟨rfl, ρ, m, r⟩
  | @scope f nt c st st1 e h1 he i1 =>
    intro ρ0 w0 L m0 a w ρ m hG r b k cs
    obtain ⟨e', a', w', ⟨rfl, ρ', m', r'⟩, harr⟩ := i1 ρ0 w0 L m0 a w ρ m hG r b (.inScope c :: k) cs
    exact ⟨_, a', w', ⟨rfl, ρ', m', r'⟩, .of_steps (.one step_scope) (scope_arrives he harr)⟩
  | @scopeJump f nt c rest l st st1 st2 e h1 hf h2 i1 i2 =>
    intro ρ0 w0 L m0 a w ρ m hG r b k cs
    obtain ⟨e', a', w', ⟨rfl, ρ', m', r'⟩, harr⟩ := i1 ρ0 w0 L m0 a w ρ m hG r b (.inScope c :: k) cs
    obtain ⟨e2, a2, w2, q, harr2⟩ := i2 ρ0 w0 L m0 a' w' ρ' m' hG r' b k cs
    have hg : gotoIn l (.inScope c :: k) = some (.code rest :: .inScope c :: k) := by simp [gotoIn, hf]
    exact ⟨e2, a2, w2, q, .of_steps (.head step_scope (harr _ hg)) harr2⟩
  | @scopeEnd f nt c rest st st1 e h1 he i1 =>
    intro ρ0 w0 L m0 a w ρ m hG r b k cs
    obtain ⟨e', a', w', ⟨rfl, ρ', m', r'⟩, harr⟩ := i1 ρ0 w0 L m0 a w ρ m hG r b (.inScope c :: k) cs
    exact ⟨_, a', w', ⟨rfl, ρ', m', r'⟩, scope_arrives he harr⟩
  | @scopeOn f nt c rest rest' l st st1 st2 e h1 hf h2 i1 i2 =>
    intro ρ0 w0 L m0 a w ρ m hG r b k cs
    obtain ⟨e', a', w', ⟨rfl, ρ', m', r'⟩, harr⟩ := i1 ρ0 w0 L m0 a w ρ m hG r b (.inScope c :: k) cs
    obtain ⟨e2, a2, w2, q, harr2⟩ := i2 ρ0 w0 L m0 a' w' ρ' m' hG r' b k cs
    have hg : gotoIn l (.inScope c :: k) = some (.code rest' :: .inScope c :: k) := by simp [gotoIn, hf]
    exact ⟨e2, a2, w2, q, .of_steps (harr _ hg) harr2⟩
  | weak h h1 i1 => intro ρ0 w0 L m0 a w ρ m hG r; exact i1 ρ0 w0 L m0 a w ρ m hG (r.weaker h)
  | weakLoop h h1 i1 => intro ρ0 w0 L m0 a w ρ m hG r; exact i1 ρ0 w0 L m0 a w ρ m hG (r.weaker h)
  | sem h => exact K0.sem _ _ _ _ _ _ h
  | weakEnd h1 hw i1 => intro ρ0 w0 L m0 a w ρ m hG r; exact Go.wp_mono (i1 ρ0 w0 L m0 a w ρ m hG r) (by rintro e' a' w' ⟨he, ρ', m', r'⟩; exact ⟨he, ρ', m', r'.weaker hw⟩)
  | weakEndL h1 hw i1 =>
    intro ρ0 w0 L m0 a w ρ m hG r b k cs
    obtain ⟨e', a', w', ⟨he, ρ', m', r'⟩, hA⟩ := i1 ρ0 w0 L m0 a w ρ m hG r b k cs
    exact ⟨e', a', w', ⟨he, ρ', m', r'.weaker hw⟩, hA⟩
  | weakScope h h1 i1 => intro ρ0 w0 L m0 a w ρ m hG r; exact i1 ρ0 w0 L m0 a w ρ m hG (r.weaker h)
  | nil => rfl
  | act hw ha hφ h1 i1 => exact ⟨step_act K0 hw ha hφ, i1⟩
  | pass hw h1 i1 => exact ⟨step_pass hw, i1⟩
  | callF hw ho hx e1 hown h1 e2 hφ h2 i1 i2 => exact ⟨step_call i1.1 hw ho hx e1 e2 (.inl ⟨hown, i1.2⟩) hφ, i2⟩
  | callOwn hw ho hx e1 hown hsc how e2 hφ h2 i2 => exact ⟨step_call (K0.own _ _ _ how).1 hw ho hx e1 e2 (.inr ⟨hown, hsc, (K0.own _ _ _ how).2⟩) hφ, i2⟩
  | prim h => exact K0.prim _ _ _ h
  | callWk hx hr _ ih =>
    obtain ⟨h1, h2, h3, h4⟩ := ih
    refine ⟨h1, ?_, h3, fun ρ m w vals blks hG hR hv hE => (h4 ρ m w vals blks hG hR (hx.vrl hv) hE).mono ?_⟩
    · rcases hr with rfl | hr
      · exact h2
      · exact hr.1
    · rintro e w' ⟨v', m', rfl, k1, k2⟩
      refine ⟨v', m', rfl, ?_, k2⟩
      rcases hr with rfl | hr
      · exact k1
      · exact hr.2 _ _ _ k1
  | body hf h1 he hr hs hb hl hbox i1 => exact body_ok K0 hf i1 he hr hs hb hl hbox
end
end Go.Det
end

section
namespace Go.Det
def tdOf (P : Program) (t : Nat) : TypeDesc -> Option Td
  | .bool => some .bool
  | .int k => some (.int k)
  | .string => some .str
  | .pointer e => some (.ptr e)
  | .slice e => some (.sl e)
  | .array n e => some (.arr n e)
  | .map k e => some (.map k e)
  | .struct fs =>
    if fs.toList.all (fun f => f.name != "_" && (P.info? f.type).isSome) && !P.stoodInHeld t && !P.eqGuardType P.depth t then some (.st (fs.toList.map fun f => (f.offset, f.type))) else none
  | .func .. => some .fn
  | .interface _ => some .ifc
  | _ => some .other
def tiOf (P : Program) (t : Nat) : Option Ti :=
  match P.info? t, P.underlying t with
  | some i, some d => match tdOf P t d with
    | some td => some { d := td, size := i.size, bytes := i.bytes, zero := match i.zero with | some z => (ofCells z.cells.toList).getD [] | none => [] }
    | none => none
  | _, _ => none
def fiOf (P : Program) (f : Nat) : Option Fi :=
  match P.funcs[f]? with
  | some fn => match fn.body with
    | some c => if fn.name = "runtime.NumGoroutine" then none else some { nt := fn.ntmps, res := fn.results.toList, code := c }
    | none => none
  | none => none
theorem tiOf_ok {P : Program} {t : Nat} {ti : Ti} (h : tiOf P t = some ti) : TiOK P t ti := by
  unfold tiOf at h
  split at h
  · rename_i i d hi hd
    split at h
    · rename_i td htd
      simp only [Option.some.injEq] at h; subst h
      refine ⟨⟨i, hi, rfl, rfl, ?_⟩, ⟨d, hd, ?_⟩⟩
      · intro hz
        simp only at hz
        cases hzz : i.zero with
        | none => rw [hzz] at hz; exact absurd rfl hz
        | some z =>
          rw [hzz] at hz
          cases hc : ofCells z.cells.toList with
          | none => simp [hc] at hz
          | some cs =>
            obtain ⟨a, b, c⟩ := ofCells_ok (ρ := fun _ => none) (m := Ro.none) hc
            simp only [hc, Option.getD_some]
            exact ⟨z, rfl, a, b, c⟩
      · cases d <;> simp only [tdOf, Option.some.injEq] at htd <;> first
          | (subst htd; simp only [TdOK]; done)
          | (subst htd; exact rfl)
          | (subst htd; exact ⟨_, _, _, rfl⟩)
          | (subst htd; exact ⟨_, rfl⟩)
          | (subst htd; exact ⟨fun _ h => by simp at h, fun _ _ h => by simp at h, fun _ h => by simp at h⟩)
          | skip
        rename_i fs
        split at htd
        · rename_i hc
          simp only [Option.some.injEq] at htd; subst htd
          simp only [Bool.and_eq_true, Bool.not_eq_true', List.all_eq_true] at hc
          obtain ⟨⟨h1, h2⟩, h3⟩ := hc
          refine ⟨fs, rfl, rfl, fun f hf => ?_, h2, h3, fun f hf => (h1 f hf).2⟩
          simpa using (h1 f hf).1
        · simp at htd
    · simp at h
  · simp at h
theorem fiOf_ok {P : Program} {g : Nat} {fi : Fi} (h : fiOf P g = some fi) : ∃ fn, P.funcs[g]? = some fn /\ fn.body = some fi.code /\ fn.ntmps = fi.nt /\ fn.results.toList = fi.res /\ fn.name ≠ "runtime.NumGoroutine" := by
  unfold fiOf at h
  split at h
  · rename_i fn hf
    split at h
    · rename_i c hc
      split at h
      · simp at h
      · rename_i hn
        simp only [Option.some.injEq] at h; subst h
        exact ⟨fn, hf, hc, rfl, rfl, hn⟩
    · simp at h
  · simp at h
end Go.Det
end

section
namespace Go.Det
section
variable (C : Cfg) (Pr Ow : Nat -> List DV -> DV -> Prop)
def GoX (f nt : Nat) (c : Code) (st : St) (Q : Ex -> St -> Prop) : Prop := ∃ e st', Run C Pr Ow (.code f nt c st e st') /\ Q e st'
def GoL (f nt : Nat) (c : Code) (st : St) (Q : Ex -> St -> Prop) : Prop := ∃ e st', Run C Pr Ow (.loop f nt c st e st') /\ Q e st'
def GoS (f nt : Nat) (c rest : Code) (st : St) (Q : Ex -> St -> Prop) : Prop := ∃ e st', Run C Pr Ow (.scope f nt c rest st e st') /\ Q e st'
def GoO (f nt : Nat) (os l : List Oper) (st : St) (K : List Out -> St -> Prop) : Prop := ∃ outs st', Run C Pr Ow (.ops f nt os l st outs st') /\ K outs st'
def GoC (g : Nat) (xs : List DV) (ex : List Blk) (Φ : DV -> List Blk -> Prop) : Prop := ∃ r ex', Run C Pr Ow (.call g xs ex r ex') /\ Φ r ex'
end
section
variable {C : Cfg} {Pr Ow : Nat -> List DV -> DV -> Prop} {f nt : Nat} {st : St} {Q : Ex -> St -> Prop}
theorem GoX.mono {c : Code} {Q' : Ex -> St -> Prop} (h : GoX C Pr Ow f nt c st Q) (hq : ∀ e st', Q e st' -> Q' e st') : GoX C Pr Ow f nt c st Q' :=
  let ⟨r, ex', a, b⟩ := h; ⟨r, ex', a, hq _ _ b⟩
theorem GoL.mono {c : Code} {Q' : Ex -> St -> Prop} (h : GoL C Pr Ow f nt c st Q) (hq : ∀ e st', Q e st' -> Q' e st') : GoL C Pr Ow f nt c st Q' :=
  let ⟨r, ex', a, b⟩ := h; ⟨r, ex', a, hq _ _ b⟩
theorem go_sem {c : Code} {e : Ex} {st' : St} (hs : C.sem f nt c st e st') (h : Q e st') : GoX C Pr Ow f nt c st Q := ⟨_, _, .sem hs, h⟩
theorem go_skip (h : Q .normal st) : GoX C Pr Ow f nt .skip st Q := ⟨_, _, .skip, h⟩
theorem go_label {l : Nat} (h : Q .normal st) : GoX C Pr Ow f nt (.label l) st Q := ⟨_, _, .label, h⟩
theorem go_exit {id : Nat} (h : Q (.exit id) st) : GoX C Pr Ow f nt (.exit id) st Q := ⟨_, _, .exit, h⟩
theorem go_goto {l : Nat} (h : Q (.goto l) st) : GoX C Pr Ow f nt (.goto l) st Q := ⟨_, _, .goto, h⟩
theorem go_ret (h : Q .ret st) : GoX C Pr Ow f nt .ret st Q := ⟨_, _, .ret, h⟩
def Ex.on (Q : Ex -> St -> Prop) (K : St -> Prop) : Ex -> St -> Prop
  | .normal, st => K st
  | e, st => Q e st
theorem go_seq {x y : Code} (h : GoX C Pr Ow f nt x st (Ex.on Q fun st1 => GoX C Pr Ow f nt y st1 Q)) : GoX C Pr Ow f nt (.seq x y) st Q := by
  obtain ⟨e, st1, a, b⟩ := h
  cases e with
  | normal => obtain ⟨e2, st2, a2, b2⟩ := b; exact ⟨e2, st2, .seq a a2, b2⟩
  | exit id => exact ⟨_, _, .seqOut a rfl, b⟩
  | goto id => exact ⟨_, _, .seqOut a rfl, b⟩
  | ret => exact ⟨_, _, .seqOut a rfl, b⟩
theorem go_condT {c : Operand} {x y : Code} (hc : opnd st.t c = .bool true) (h : GoX C Pr Ow f nt x st Q) : GoX C Pr Ow f nt (.cond c x y) st Q :=
  let ⟨e, st1, a, b⟩ := h; ⟨e, st1, .condT hc a, b⟩
theorem go_condF {c : Operand} {x y : Code} (hc : opnd st.t c = .bool false) (h : GoX C Pr Ow f nt y st Q) : GoX C Pr Ow f nt (.cond c x y) st Q :=
  let ⟨e, st1, a, b⟩ := h; ⟨e, st1, .condF hc a, b⟩
def Ex.blocked (id : Nat) (Q : Ex -> St -> Prop) : Ex -> St -> Prop := fun e st => Q (e.inBlock id) st
theorem go_block {id : Nat} {c : Code} (h : GoX C Pr Ow f nt c st (Ex.blocked id Q)) : GoX C Pr Ow f nt (.block id c) st Q :=
  let ⟨_, st1, a, b⟩ := h; ⟨_, st1, .block a, b⟩
theorem go_loop {c : Code} (h : GoL C Pr Ow f nt c st Q) : GoX C Pr Ow f nt (.loop c) st Q :=
  let ⟨_, st1, a, b⟩ := h; ⟨_, st1, .loop a, b⟩
theorem go_round {c : Code} (h : GoX C Pr Ow f nt c st (Ex.on Q fun st1 => GoL C Pr Ow f nt c st1 Q)) : GoL C Pr Ow f nt c st Q := by
  obtain ⟨e, st1, a, b⟩ := h
  cases e with
  | normal => obtain ⟨e2, st2, a2, b2⟩ := b; exact ⟨e2, st2, .loopMore a a2, b2⟩
  | exit id => exact ⟨_, _, .loopOut a rfl, b⟩
  | goto id => exact ⟨_, _, .loopOut a rfl, b⟩
  | ret => exact ⟨_, _, .loopOut a rfl, b⟩
theorem go_weak {c : Code} {st1 : St} (hw : Weaker st st1) (h : GoX C Pr Ow f nt c st1 Q) : GoX C Pr Ow f nt c st Q :=
  let ⟨_, st2, a, b⟩ := h; ⟨_, st2, .weak hw a, b⟩
theorem go_weakL {c : Code} {st1 : St} (hw : Weaker st st1) (h : GoL C Pr Ow f nt c st1 Q) : GoL C Pr Ow f nt c st Q :=
  let ⟨_, st2, a, b⟩ := h; ⟨_, st2, .weakLoop hw a, b⟩
theorem go_weakEnd {c : Code} (h : GoX C Pr Ow f nt c st fun e st' => ∃ st2, Weaker st' st2 /\ Q e st2) : GoX C Pr Ow f nt c st Q :=
  let ⟨_, _, a, _, hw, hq⟩ := h; ⟨_, _, .weakEnd a hw, hq⟩
theorem go_weakEndL {c : Code} (h : GoL C Pr Ow f nt c st fun e st' => ∃ st2, Weaker st' st2 /\ Q e st2) : GoL C Pr Ow f nt c st Q :=
  let ⟨_, _, a, _, hw, hq⟩ := h; ⟨_, _, .weakEndL a hw, hq⟩
def Ex.scopedX (c : Code) (Q : Ex -> St -> Prop) (J : Code -> St -> Prop) : Ex -> St -> Prop
  | .goto l, st => match findLabel c l with
    | some rest => J rest st
    | none => Q (.goto l) st
  | e, st => Q e st
theorem go_scope {c : Code} (h : GoX C Pr Ow f nt c st (Ex.scopedX c Q fun rest st1 => GoS C Pr Ow f nt c rest st1 Q)) : GoX C Pr Ow f nt (.scope c) st Q := by
  obtain ⟨e, st1, a, b⟩ := h
  cases e with
  | normal => exact ⟨_, _, .scope a rfl, b⟩
  | exit id => exact ⟨_, _, .scope a rfl, b⟩
  | ret => exact ⟨_, _, .scope a rfl, b⟩
  | goto l =>
    unfold Ex.scopedX at b
    split at b
    · rename_i l' heq; cases heq
      split at b
      · rename_i rest hf
        obtain ⟨e2, st2, a2, b2⟩ := b
        exact ⟨e2, st2, .scopeJump a hf a2, b2⟩
      · rename_i hf
        exact ⟨_, _, .scope a (by simp [Ex.jumps, hf]), b⟩
    · rename_i hne; exact absurd rfl (hne l)
theorem go_scopeAt {c rest : Code} (h : GoX C Pr Ow f nt rest st (Ex.scopedX c Q fun rest st1 => GoS C Pr Ow f nt c rest st1 Q)) : GoS C Pr Ow f nt c rest st Q := by
  obtain ⟨e, st1, a, b⟩ := h
  cases e with
  | normal => exact ⟨_, _, .scopeEnd a rfl, b⟩
  | exit id => exact ⟨_, _, .scopeEnd a rfl, b⟩
  | ret => exact ⟨_, _, .scopeEnd a rfl, b⟩
  | goto l =>
    unfold Ex.scopedX at b
    split at b
    · rename_i l' heq; cases heq
      split at b
      · rename_i rest hf
        obtain ⟨e2, st2, a2, b2⟩ := b
        exact ⟨e2, st2, .scopeOn a hf a2, b2⟩
      · rename_i hf
        exact ⟨_, _, .scopeEnd a (by simp [Ex.jumps, hf]), b⟩
    · rename_i hne; exact absurd rfl (hne l)
theorem go_region {id : Nat} {ops : Array Oper} (h : GoO C Pr Ow f nt ops.toList ops.toList st fun _ st' => Q .normal st') : GoX C Pr Ow f nt (.region id ops false) st Q :=
  let ⟨_, _, a, b⟩ := h; ⟨_, _, .region a, b⟩
theorem go_draw {id : Nat} {ops : Array Oper} (h : GoO C Pr Ow f nt ops.toList ops.toList st fun outs st' => drawOK ops.toList st outs = true /\ Q .normal st') : GoX C Pr Ow f nt (.region id ops true) st Q :=
  let ⟨_, _, a, b⟩ := h; ⟨_, _, .draw a b.1, b.2⟩
variable {os l : List Oper} {o : Oper} {K : List Out -> St -> Prop}
theorem go_nil (h : K [] st) : GoO C Pr Ow f nt os [] st K := ⟨_, _, .nil, h⟩
theorem go_act {out : Out} {st1 : St} (hw : wants os st.t o = some true) (ha : Det.act C f st.t st.h o.dst o.op = some out) (hφ : phiOK nt out = true) (hs : apply st o.dst out = st1)
    (h : GoO C Pr Ow f nt os l st1 fun outs st' => K (out :: outs) st') : GoO C Pr Ow f nt os (o :: l) st K := by
  subst hs
  obtain ⟨_, _, a, b⟩ := h
  exact ⟨_, _, .act hw ha hφ a, b⟩
theorem go_pass {st1 : St} (hw : wants os st.t o = some false) (hs : apply st o.dst { v := .tup [] } = st1) (h : GoO C Pr Ow f nt os l st1 fun outs st' => K ({ v := .tup [] } :: outs) st') : GoO C Pr Ow f nt os (o :: l) st K := by
  subst hs
  obtain ⟨_, _, a, b⟩ := h
  exact ⟨_, _, .pass hw a, b⟩
theorem go_call {x : Operand} {as1 : Array Operand} {ts : Array TypeId} {g : Nat} {first cap xs xs' : List DV} {ex : List Blk} {Φ : DV -> List Blk -> Prop} (hw : wants os st.t o = some true) (ho : o.op = .call ⟨.value x, as1, ts⟩)
    (hx : calleeOf (opnd st.t x) = some (g, first, cap)) (hxs : first ++ as1.toList.map (opnd st.t) ++ cap = xs) (e1 : callIn C st.h g xs = some (xs', ex)) (hown : C.own g = false)
    (hc : GoC C Pr Ow g xs' ex Φ) (h : ∀ r ex', Φ r ex' -> ∃ out, callOut C st.h o.dst g xs r ex' = some out /\ phiOK nt out = true /\ GoO C Pr Ow f nt os l (apply st o.dst out) fun outs st' => K (out :: outs) st') : GoO C Pr Ow f nt os (o :: l) st K := by
  subst hxs
  obtain ⟨r, ex', a, b⟩ := hc
  obtain ⟨out, h1, h2, _, _, h3, h4⟩ := h r ex' b
  exact ⟨_, _, .callF hw ho hx e1 hown a h1 h2 h3, h4⟩
theorem go_callOwn {x : Operand} {as1 : Array Operand} {ts : Array TypeId} {g : Nat} {first cap xs xs' : List DV} {ex : List Blk} {r : DV} {out : Out} {st1 : St} (hw : wants os st.t o = some true) (ho : o.op = .call ⟨.value x, as1, ts⟩)
    (hx : calleeOf (opnd st.t x) = some (g, first, cap)) (hxs : first ++ as1.toList.map (opnd st.t) ++ cap = xs) (e1 : callIn C st.h g xs = some (xs', ex)) (hown : C.own g = true) (hsc : C.scal g = false)
    (hc : Ow g xs' r) (h1 : callOut C st.h o.dst g xs r [] = some out) (h2 : phiOK nt out = true) (hs : apply st o.dst out = st1)
    (h : GoO C Pr Ow f nt os l st1 fun outs st' => K (out :: outs) st') : GoO C Pr Ow f nt os (o :: l) st K := by
  subst hxs hs
  obtain ⟨_, _, h3, h4⟩ := h
  exact ⟨_, _, .callOwn hw ho hx e1 hown hsc hc h1 h2 h3, h4⟩
def Leaves (C : Cfg) (fi : Fi) (ex : List Blk) (Φ : DV -> List Blk -> Prop) (e : Ex) (st : St) : Prop :=
  e.ends = true /\ ∃ vs vs' ex', resL C st fi.res = some vs /\ sealL st.h vs = some vs' /\ sealBs st.h (st.h.drop fi.nt) = some ex' /\ ex'.length = ex.length /\ ex'.all Blk.isBox = true /\ Φ (one vs') ex'
theorem go_body {g : Nat} {fi : Fi} {xs : List DV} {ex : List Blk} {Φ : DV -> List Blk -> Prop} (hf : C.F g = some fi) (h : GoX C Pr Ow g fi.nt fi.code (enterD fi xs ex) (Leaves C fi ex Φ)) : GoC C Pr Ow g xs ex Φ := by
  obtain ⟨e, st, a, h1, vs, vs', ex', h2, h3, h4, h5, h6, h7⟩ := h
  exact ⟨_, _, .body hf a h1 h2 h3 h4 h5 h6, h7⟩
theorem go_wk {g : Nat} {xs xs' : List DV} {ex : List Blk} {Φ : DV -> List Blk -> Prop} (hx : WkL xs' xs) (h : GoC C Pr Ow g xs ex fun r ex' => ∃ r', (r = r' \/ WkV r r') /\ Φ r' ex') : GoC C Pr Ow g xs' ex Φ :=
  let ⟨_, _, a, _, hr, hq⟩ := h; ⟨_, _, .callWk hx hr a, hq⟩
theorem go_prim {g : Nat} {xs : List DV} {r : DV} {Φ : DV -> List Blk -> Prop} (h : Pr g xs r) (hq : Φ r []) : GoC C Pr Ow g xs [] Φ := ⟨_, _, .prim h, hq⟩
theorem GoC.run {g : Nat} {xs : List DV} {ex ex' : List Blk} {r : DV} (h : GoC C Pr Ow g xs ex fun r0 ex0 => r0 = r /\ ex0 = ex') : Run C Pr Ow (.call g xs ex r ex') := by
  obtain ⟨_, _, a, rfl, rfl⟩ := h; exact a
end
end Go.Det
end

section
namespace Go.Det
def keepT (ks bs : List Nat) (nt : Nat) (st : St) : St := { t := tidyT ks 0 st.t, h := tidyH bs nt 0 st.h }
theorem tidyT_len (ks : List Nat) : ∀ (l : List DV) (i : Nat), (tidyT ks i l).length = l.length
  | [], _ => rfl
  | x :: l, i => by simp [tidyT, tidyT_len ks l]
theorem tidyT_get (ks : List Nat) : ∀ (l : List DV) (i j : Nat) (x : DV), (tidyT ks i l)[j]? = some x -> x = .unk \/ l[j]? = some x
  | [], _, _, _, h => by simp [tidyT] at h
  | y :: l, i, 0, x, h => by
    simp only [tidyT, List.getElem?_cons_zero, Option.some.injEq] at h
    split at h
    · exact .inr (by simp [h])
    · exact .inl h.symm
  | y :: l, i, j + 1, x, h => by
    simp only [tidyT, List.getElem?_cons_succ] at h ⊢
    exact tidyT_get ks l (i + 1) j x h
theorem tidyH_get (bs : List Nat) (nt : Nat) : ∀ (l : Heap) (i j : Nat) (x : Blk), hget (tidyH bs nt i l) j = some x -> hget l j = some x
  | [], _, _, _, h => by simp [tidyH, hget] at h
  | y :: l, i, 0, x, h => by
    unfold hget at h ⊢
    simp only [tidyH, List.getElem?_cons_zero, Option.getD_some] at h ⊢
    split at h
    · exact h
    · simp at h
  | y :: l, i, j + 1, x, h => by
    unfold hget at h ⊢
    simp only [tidyH, List.getElem?_cons_succ] at h ⊢
    exact tidyH_get bs nt l (i + 1) j x h
theorem keepT_weaker (ks bs : List Nat) (nt : Nat) (st : St) : Weaker st (keepT ks bs nt st) :=
  ⟨tidyT_len ks st.t 0, fun i x h => (tidyT_get ks st.t 0 i x h).imp id fun h => ⟨_, h, .inl rfl⟩, fun b x h => tidyH_get bs nt st.h 0 b x h⟩
def setL : List DV -> List (Nat × DV) -> List DV
  | t, [] => t
  | t, (i, v) :: l => setL (t.set i v) l
def mkS (nt : Nat) (l : List (Nat × DV)) (h : List (Nat × Blk)) (ex : List Blk) : St :=
  { t := setL (List.replicate nt .unk) l, h := setAll (List.replicate nt none ++ ex.map some) (h.map fun x => (x.1, some x.2)) }
section
variable {C : Cfg} {Pr Ow : Nat -> List DV -> DV -> Prop} {f nt : Nat} {st st1 : St} {Q : Ex -> St -> Prop} {os l : List Oper} {K : List Out -> St -> Prop}
end
end Go.Det
end

section
namespace Go.Det
def obB (b : Bool) (k : Prop) : Prop := match b with
  | true => k
  | false => False
theorem obB_ok {b : Bool} {k : Prop} (h : obB b k) : b = true /\ k := by
  cases b with
  | true => exact ⟨rfl, h⟩
  | false => exact h.elim
theorem obB_of {b : Bool} {k : Prop} (h : b = true) (hk : k) : obB b k := by subst h; exact hk
def brB (b : Bool) (kt kf : Prop) : Prop := match b with
  | true => kt
  | false => kf
theorem brB_ok {b : Bool} {kt kf : Prop} (h : brB b kt kf) : (b = true /\ kt) \/ (b = false /\ kf) := by
  cases b with
  | true => exact .inl ⟨rfl, h⟩
  | false => exact .inr ⟨rfl, h⟩
theorem brB_of {b : Bool} {kt kf : Prop} (ht : b = true -> kt) (hf : b = false -> kf) : brB b kt kf := by
  cases b with
  | true => exact ht rfl
  | false => exact hf rfl
def OnC : Option Bool -> Prop
  | none => True
  | some c => c = true
def obC (c : Option Bool) (b : Bool) (k : Prop) : Prop := match c with
  | none => obB b k
  | some c => obB (b || !c) k
theorem obC_ok {c : Option Bool} {b : Bool} {k : Prop} (h : obC c b k) : (OnC c -> b = true) /\ k := by
  cases c with
  | none => exact ⟨fun _ => (obB_ok h).1, (obB_ok h).2⟩
  | some c =>
    obtain ⟨h1, h2⟩ := obB_ok h
    refine ⟨fun hc => ?_, h2⟩
    simp only [OnC] at hc
    subst hc; simpa using h1
def impC (c : Option Bool) (p : Prop) : Prop := match c with
  | none => p
  | some c => brB c p True
theorem impC_ok {c : Option Bool} {p : Prop} (h : impC c p) : OnC c -> p := by
  intro hc
  cases c with
  | none => exact h
  | some c => simp only [OnC] at hc; subst hc; exact h
def onS {α : Type} (x : Option α) (k : α -> Prop) : Prop := match x with
  | some v => k v
  | none => False
theorem onS_ok {α : Type} {x : Option α} {k : α -> Prop} (h : onS x k) : ∃ v, x = some v /\ k v := by
  cases x with
  | none => exact h.elim
  | some v => exact ⟨v, rfl, h⟩
def asNatP (c : Option Bool) (x : DV) (k : Nat -> Prop) : Prop := match x with
  | .int _ n => obC c (decide (0 <= n)) (k n.toNat)
  | _ => False
theorem asNatP_ok {c : Option Bool} {x : DV} {k : Nat -> Prop} (h : asNatP c x k) : ∃ n, (OnC c -> asNat x = some n) /\ k n := by
  unfold asNatP at h
  split at h
  · obtain ⟨h1, h2⟩ := obC_ok h
    exact ⟨_, fun hc => by simp only [asNat]; rw [if_pos (by simpa using h1 hc)], h2⟩
  · exact h.elim
def boundP (c : Option Bool) (x : Option DV) (d y : Nat) (k : Nat -> Prop) : Prop := match x with
  | none => k d
  | some v => asNatP c v fun n => obC c (decide (n <= y)) (k n)
theorem boundP_ok {c : Option Bool} {x : Option DV} {d y : Nat} {k : Nat -> Prop} (h : boundP c x d y k) : ∃ n, (OnC c -> bound x d y = some n) /\ k n := by
  unfold boundP at h
  split at h
  · exact ⟨d, fun _ => rfl, h⟩
  · obtain ⟨n, h1, h2⟩ := asNatP_ok h
    obtain ⟨h3, h4⟩ := obC_ok h2
    exact ⟨n, fun hc => by simp only [bound, h1 hc]; rw [if_pos (by simpa using h3 hc)], h4⟩
def strP (c : Option Bool) (op : BinOp) (x y : List UInt8) (k : DV -> Prop) : Prop := match op with
  | .add => obC c (decide (x.length + y.length <= 2 ^ 32)) (k (.str (x ++ y)))
  | op => onS (strOp op x y) k
theorem strP_ok {c : Option Bool} {op : BinOp} {x y : List UInt8} {k : DV -> Prop} (h : strP c op x y k) : ∃ v, (OnC c -> strOp op x y = some v) /\ k v := by
  unfold strP at h
  split at h
  · obtain ⟨h1, h2⟩ := obC_ok h
    exact ⟨_, fun hc => by simp only [strOp]; rw [if_pos (by simpa using h1 hc)], h2⟩
  · obtain ⟨v, h1, h2⟩ := onS_ok h
    exact ⟨v, fun _ => h1, h2⟩
def eqF' (T : Nat -> Option Ti) (f : Nat -> DV -> DV -> Option Bool) : List (Nat × Nat) -> List DV -> List DV -> Option Bool
  | [], _, _ => some true
  | (off, ft) :: fs, xs, ys =>
    match partT T ft xs off, partT T ft ys off with
    | some a, some b => match f ft a b, eqF' T f fs xs ys with
      | some p, some q => some (p && q)
      | _, _ => none
    | _, _ => none
def eqT' (T : Nat -> Option Ti) : Nat -> Nat -> DV -> DV -> Option Bool
  | 0, _, _, _ => none
  | d + 1, t, x, y =>
    match T t with
    | none => none
    | some ti =>
      match ti.d with
      | .st fs => match x, y with
        | .agg xs, .agg ys => eqF' T (eqT' T d) fs xs ys
        | _, _ => none
      | _ => eqT T (d + 1) t x y
theorem eqF'_ok {T : Nat -> Option Ti} {f g : Nat -> DV -> DV -> Option Bool} (hfg : ∀ t x y b, f t x y = some b -> g t x y = some b) : ∀ {fs : List (Nat × Nat)} {xs ys : List DV} {b : Bool}, eqF' T f fs xs ys = some b -> eqF T g fs xs ys = some b
  | [], _, _, _, h => h
  | (off, ft) :: fs, xs, ys, b, h => by
    simp only [eqF'] at h
    simp only [eqF]
    split at h
    · rename_i u v hu hv
      split at h
      · rename_i p q hp hq
        simp only [Option.some.injEq] at h; subst h
        rw [hu, hv]
        simp only [hfg _ _ _ _ hp]
        cases p with
        | true => simpa using eqF'_ok hfg hq
        | false => simp
      · simp at h
    · simp at h
theorem eqT'_ok {T : Nat -> Option Ti} : ∀ {d t : Nat} {x y : DV} {b : Bool}, eqT' T d t x y = some b -> eqT T d t x y = some b
  | 0, _, _, _, _, h => by simp [eqT'] at h
  | d + 1, t, x, y, b, h => by
    simp only [eqT'] at h
    split at h
    · simp at h
    · rename_i ti hti
      split at h
      · rename_i fs hfs
        split at h
        · simp only [eqT, hti, hfs]
          exact eqF'_ok (fun t x y b h => eqT'_ok h) h
        · simp at h
      · exact h
def inR (q : IntKind) (n : Int) : Bool := q.wrap n == n
def exactI : BinOp -> Int -> Int -> Option Int
  | .add, a, b => some (a + b)
  | .sub, a, b => some (a - b)
  | .mul, a, b => some (a * b)
  | _, _, _ => none
def binP (c : Option Bool) (ex : Bool) (T : Nat -> Option Ti) (op : BinOp) (t : Nat) (x y : DV) (k : DV -> Prop) : Prop :=
  match x, y with
  | .int q a, .int q' b =>
    match op with
    | .quo => onS (if q = q' then some () else none) fun _ => obC c (decide (b ≠ 0)) (k (.int q (q.wrap (a.tdiv b))))
    | .rem => onS (if q = q' then some () else none) fun _ => obC c (decide (b ≠ 0)) (k (.int q (a.tmod b)))
    | .shl => obC c (decide (0 <= b)) (k (.int q (q.wrap (a * 2 ^ (min b.toNat q.bits)))))
    | .shr => obC c (decide (0 <= b)) (k (.int q (a.fdiv (2 ^ (min b.toNat q.bits)))))
    | op => match ex, exactI op a b with
      | true, some n => onS (if q = q' then some () else none) fun _ => obC c (inR q n) (k (.int q n))
      | _, _ => onS (binOp T op t (.int q a) (.int q' b)) k
  | .str a, .str b => strP c op a b k
  | .agg a, .agg b => match op with
    | .eql => onS (eqT' T 20 t (.agg a) (.agg b)) fun r => k (.bool r)
    | .neq => onS (eqT' T 20 t (.agg a) (.agg b)) fun r => k (.bool (!r))
    | _ => False
  | x, y => onS (binOp T op t x y) k
theorem binP_ok {c : Option Bool} {ex : Bool} {T : Nat -> Option Ti} {op : BinOp} {t : Nat} {x y : DV} {k : DV -> Prop} (h : binP c ex T op t x y k) : ∃ v, (OnC c -> binOp T op t x y = some v) /\ k v := by
  have hqq : ∀ {q q' : IntKind} {u : Unit}, (if q = q' then some () else none) = some u -> q = q' := by
    intro q q' u h
    by_cases hq : q = q'
    · exact hq
    · rw [if_neg hq] at h; simp at h
  unfold binP at h
  split at h
  · rename_i q a q' b
    split at h
    · obtain ⟨u, h1, h2⟩ := onS_ok h
      obtain ⟨h3, h4⟩ := obC_ok h2
      refine ⟨_, fun hc => ?_, h4⟩
      simp only [binOp, if_pos (hqq h1), intOp]
      rw [if_neg (by simpa using h3 hc)]
    · obtain ⟨u, h1, h2⟩ := onS_ok h
      obtain ⟨h3, h4⟩ := obC_ok h2
      refine ⟨_, fun hc => ?_, h4⟩
      simp only [binOp, if_pos (hqq h1), intOp]
      rw [if_neg (by simpa using h3 hc)]
    · obtain ⟨h3, h4⟩ := obC_ok h
      refine ⟨_, fun hc => ?_, h4⟩
      simp only [binOp, shiftOp]
      rw [if_neg (by simpa using h3 hc)]
    · obtain ⟨h3, h4⟩ := obC_ok h
      refine ⟨_, fun hc => ?_, h4⟩
      simp only [binOp, shiftOp]
      rw [if_neg (by simpa using h3 hc)]
    · split at h
      · rename_i n hn
        obtain ⟨u, h1, h2⟩ := onS_ok h
        obtain ⟨h3, h4⟩ := obC_ok h2
        refine ⟨_, fun hc => ?_, h4⟩
        have hq := hqq h1
        subst hq
        have h5 : q.wrap n = n := by simpa [inR] using h3 hc
        cases op <;> simp only [exactI, Option.some.injEq, reduceCtorEq] at hn <;> subst hn <;> simp [binOp, intOp, h5]
      · obtain ⟨v, h1, h2⟩ := onS_ok h
        exact ⟨v, fun _ => h1, h2⟩
  · simpa [binOp] using strP_ok h
  · split at h
    · obtain ⟨r, h1, h2⟩ := onS_ok h
      exact ⟨_, fun _ => by simp only [binOp, eqT'_ok h1, Option.map_some], h2⟩
    · obtain ⟨r, h1, h2⟩ := onS_ok h
      exact ⟨_, fun _ => by simp only [binOp, eqT'_ok h1, Option.map_some], h2⟩
    · exact h.elim
  · obtain ⟨v, h1, h2⟩ := onS_ok h
    exact ⟨v, fun _ => h1, h2⟩
end Go.Det
end

section
namespace Go.Det
def sliceP (c : Option Bool) (T : Nat -> Option Ti) (t : Nat) (x : DV) (lo hi : Option DV) (k : DV -> Prop) : Prop :=
  match x with
  | .str s => onS (match T t with | some ti => (match ti.d with | .str => some () | _ => none) | none => none) fun _ =>
      boundP c hi s.length s.length fun h => boundP c lo 0 h fun l => k (.str ((s.take h).drop l))
  | .psl n es => onS (match T t with | some ti => (match ti.d with | .sl e => (match T e with | some te => if te.size = n then some () else none | none => none) | _ => none) | none => none) fun _ =>
      boundP c hi es.length es.length fun h => boundP c lo 0 h fun l => k (.psl n ((es.take h).drop l))
  | .rsl b n off len => onS (match T t with | some ti => (match ti.d with | .sl e => (match T e with | some te => if te.size = n then some () else none | none => none) | _ => none) | none => none) fun _ =>
      boundP c hi len len fun h => boundP c lo 0 h fun l => obC c (decide (l = 0 \/ l < h)) (k (.rsl b n (off + l) (h - l)))
  | x => onS (sliceOp T t x lo hi) k
theorem sliceP_ok {c : Option Bool} {T : Nat -> Option Ti} {t : Nat} {x : DV} {lo hi : Option DV} {k : DV -> Prop} (h : sliceP c T t x lo hi k) : ∃ v, (OnC c -> sliceOp T t x lo hi = some v) /\ k v := by
  unfold sliceP at h
  split at h
  · obtain ⟨u, h1, h2⟩ := onS_ok h
    obtain ⟨hh, h3, h4⟩ := boundP_ok h2
    obtain ⟨ll, h5, h6⟩ := boundP_ok h4
    refine ⟨_, fun hc => ?_, h6⟩
    have h3 := h3 hc
    have h5 := h5 hc
    unfold sliceOp
    split at h1
    · rename_i ti hti
      rw [hti]
      split at h1
      · rename_i hd
        simp only [hd, h3, h5]
      · simp at h1
    · simp at h1
  · obtain ⟨u, h1, h2⟩ := onS_ok h
    obtain ⟨hh, h3, h4⟩ := boundP_ok h2
    obtain ⟨ll, h5, h6⟩ := boundP_ok h4
    refine ⟨_, fun hc => ?_, h6⟩
    have h3 := h3 hc
    have h5 := h5 hc
    unfold sliceOp
    split at h1
    · rename_i ti hti
      rw [hti]
      split at h1
      · rename_i e hd
        split at h1
        · rename_i te hte
          split at h1
          · rename_i hs
            simp only [hd, hte, h3, h5, hs, ne_eq, not_true_eq_false, if_false]
          · simp at h1
        · simp at h1
      · simp at h1
    · simp at h1
  · obtain ⟨u, h1, h2⟩ := onS_ok h
    obtain ⟨hh, h3, h4⟩ := boundP_ok h2
    obtain ⟨ll, h5, h6⟩ := boundP_ok h4
    obtain ⟨h7, h8⟩ := obC_ok h6
    refine ⟨_, fun hc => ?_, h8⟩
    have h7 := of_decide_eq_true (h7 hc)
    have h3 := h3 hc
    have h5 := h5 hc
    unfold sliceOp
    split at h1
    · rename_i ti hti
      rw [hti]
      split at h1
      · rename_i e hd
        split at h1
        · rename_i te hte
          split at h1
          · rename_i hs
            simp only [hd, hte, h3, h5, hs, ne_eq, not_true_eq_false, if_false, h7, if_true]
          · simp at h1
        · simp at h1
      · simp at h1
    · simp at h1
  · obtain ⟨v, h1, h2⟩ := onS_ok h
    exact ⟨v, fun _ => h1, h2⟩
def indexP (c : Option Bool) (T : Nat -> Option Ti) (t : Nat) (x i : DV) (k : DV -> Prop) : Prop :=
  match x with
  | .str s => onS (match T t with | some ti => (match ti.d with | .str => some () | _ => none) | none => none) fun _ =>
      asNatP c i fun i => obC c (decide (i < s.length)) (k (.int .u8 ((s.getD i 0).toNat : Int)))
  | x => onS (indexOp T t x i) k
theorem indexP_ok {c : Option Bool} {T : Nat -> Option Ti} {t : Nat} {x i : DV} {k : DV -> Prop} (h : indexP c T t x i k) : ∃ v, (OnC c -> indexOp T t x i = some v) /\ k v := by
  unfold indexP at h
  split at h
  · rename_i s
    obtain ⟨u, h1, h2⟩ := onS_ok h
    obtain ⟨n, h3, h4⟩ := asNatP_ok h2
    obtain ⟨h5, h6⟩ := obC_ok h4
    refine ⟨_, fun hc => ?_, h6⟩
    have h5 := of_decide_eq_true (h5 hc)
    have h3 := h3 hc
    unfold indexOp
    rw [h3]
    split at h1
    · rename_i ti hti
      rw [hti]
      split at h1
      · rename_i hd
        simp only [hd]
        rw [List.getElem?_eq_getElem h5, List.getD_eq_getElem?_getD, List.getElem?_eq_getElem h5]
        rfl
      · simp at h1
    · simp at h1
  · obtain ⟨v, h1, h2⟩ := onS_ok h
    exact ⟨v, fun _ => h1, h2⟩
def arrD (T : Nat -> Option Ti) (t : Nat) : Option (Nat × Nat) := match T t with
  | some ti => (match ti.d with
    | .arr n e => (match T e with
      | some te => if te.size = 0 then none else some (n, te.size)
      | none => none)
    | _ => none)
  | none => none
theorem arrD_ok {T : Nat -> Option Ti} {t : Nat} {p : Nat × Nat} (h : arrD T t = some p) : ∃ ti e te, T t = some ti /\ ti.d = .arr p.1 e /\ T e = some te /\ te.size = p.2 /\ te.size ≠ 0 := by
  unfold arrD at h
  split at h
  · rename_i ti hti
    split at h
    · rename_i n e hd
      split at h
      · rename_i te hte
        split at h
        · cases h
        · rename_i hs
          cases h
          exact ⟨ti, e, te, hti, hd, hte, rfl, hs⟩
      · cases h
    · cases h
  · cases h
def indexAddrP (c : Option Bool) (T : Nat -> Option Ti) (t : Nat) (x i : DV) (k : DV -> Prop) : Prop :=
  match x with
  | .psl n es => onS (match T t with | some ti => (match ti.d with | .sl e => (match T e with | some te => if te.size = n then some () else none | none => none) | _ => none) | none => none) fun _ =>
      asNatP c i fun i => obC c (decide (i < es.length)) (k (.eptr n es i 0))
  | .rsl b n off len => onS (match T t with | some ti => (match ti.d with | .sl e => (match T e with | some te => if te.size = n then some () else none | none => none) | _ => none) | none => none) fun _ =>
      asNatP c i fun i => obC c (decide (i < len)) (k (.ptr b n (off + i) 0))
  | .gptr g o => onS (arrD T t) fun p => asNatP c i fun i => obC c (decide (i < p.1)) (k (.gptr g (o + i * p.2)))
  | .ptr b n j o => onS (arrD T t) fun p => asNatP c i fun i => obC c (decide (i < p.1)) (obC c (decide (o + i * p.2 < n)) (k (.ptr b n j (o + i * p.2))))
  | x => onS (indexAddrOp T t x i) k
theorem indexAddrP_ok {c : Option Bool} {T : Nat -> Option Ti} {t : Nat} {x i : DV} {k : DV -> Prop} (h : indexAddrP c T t x i k) : ∃ v, (OnC c -> indexAddrOp T t x i = some v) /\ k v := by
  unfold indexAddrP at h
  split at h
  · obtain ⟨u, h1, h2⟩ := onS_ok h
    obtain ⟨n, h3, h4⟩ := asNatP_ok h2
    obtain ⟨h5, h6⟩ := obC_ok h4
    refine ⟨_, fun hc => ?_, h6⟩
    have h5 := of_decide_eq_true (h5 hc)
    have h3 := h3 hc
    unfold indexAddrOp
    rw [h3]
    split at h1
    · rename_i ti hti
      split at h1
      · rename_i e hd
        split at h1
        · rename_i te hte
          split at h1
          · rename_i hs
            simp only [hti, hd, hte, hs, h5, and_self, if_true]
          · simp at h1
        · simp at h1
      · simp at h1
    · simp at h1
  · obtain ⟨u, h1, h2⟩ := onS_ok h
    obtain ⟨n, h3, h4⟩ := asNatP_ok h2
    obtain ⟨h5, h6⟩ := obC_ok h4
    refine ⟨_, fun hc => ?_, h6⟩
    have h5 := of_decide_eq_true (h5 hc)
    have h3 := h3 hc
    unfold indexAddrOp
    rw [h3]
    split at h1
    · rename_i ti hti
      split at h1
      · rename_i e hd
        split at h1
        · rename_i te hte
          split at h1
          · rename_i hs
            simp only [hti, hd, hte, hs, h5, and_self, if_true]
          · simp at h1
        · simp at h1
      · simp at h1
    · simp at h1
  · obtain ⟨p, h1, h2⟩ := onS_ok h
    obtain ⟨n, h3, h4⟩ := asNatP_ok h2
    obtain ⟨h5, h6⟩ := obC_ok h4
    refine ⟨_, fun hc => ?_, h6⟩
    have h5 := of_decide_eq_true (h5 hc)
    have h3 := h3 hc
    obtain ⟨ti, e, te, k1, k2, k3, k4, k5⟩ := arrD_ok h1
    unfold indexAddrOp
    rw [h3]
    simp only [k1, k2, k3]
    rw [if_pos ⟨h5, k5⟩, k4]
    rfl
  · rename_i b n0 j o
    obtain ⟨p, h1, h2⟩ := onS_ok h
    obtain ⟨n, h3, h4⟩ := asNatP_ok h2
    obtain ⟨h5, h6⟩ := obC_ok h4
    obtain ⟨h7, h8⟩ := obC_ok h6
    refine ⟨_, fun hc => ?_, h8⟩
    have h5 := of_decide_eq_true (h5 hc)
    have h7 := of_decide_eq_true (h7 hc)
    have h3 := h3 hc
    obtain ⟨ti, e, te, k1, k2, k3, k4, k5⟩ := arrD_ok h1
    unfold indexAddrOp
    rw [h3]
    simp only [k1, k2, k3]
    rw [if_pos ⟨h5, k5⟩, k4]
    simp only [shiftPtr, if_pos h7]
  · obtain ⟨v, h1, h2⟩ := onS_ok h
    exact ⟨v, fun _ => h1, h2⟩
def scalT (C : Cfg) (t : Nat) : Option Unit := match C.T t with
  | some ti => if ti.size = 1 /\ agD ti.d = false then some () else none
  | none => none
def scalS (C : Cfg) (t : Nat) : Option (Option Nat) := match C.T t with
  | some ti => if agD ti.d = true then (if ti.size = 0 then none else some (some ti.size)) else if ti.size = 1 then some none else none
  | none => none
def loadP (c : Option Bool) (C : Cfg) (h : Heap) (an : Option DV) (t : Nat) (a : DV) (k : DV -> Prop) : Prop :=
  match an, a with
  | some e, .eptr n es i off => impC c (es[i]? = some e) /\ onS ((C.T t).bind fun ti => loadIn ti n e off) k
  | some e, .ptr b n i off => match hget h b with
    | some (.row m es) => impC c (es[i]? = some e) /\ onS (if n = m then (C.T t).bind fun ti => loadIn ti n e off else none) k
    | some (.box cs) => onS (scalT C t) fun _ => impC c ((i = 0 /\ n = cs.length) /\ cs[off]? = some e) /\ k e
    | _ => False
  | some e, .gptr g off => onS (C.glob g) fun cs => onS (scalS C t) fun z => match z, e with
    | none, e => impC c (cs[off]? = some e) /\ k e
    | some z, .agg l => impC c (off + z <= cs.length /\ (cs.drop off).take z = l) /\ k (.agg l)
    | some _, _ => False
  | _, a => onS (loadOp C h t a) k
theorem loadP_ok {c : Option Bool} {C : Cfg} {h : Heap} {an : Option DV} {t : Nat} {a : DV} {k : DV -> Prop} (hh : loadP c C h an t a k) : ∃ v, (OnC c -> loadOp C h t a = some v) /\ k v := by
  unfold loadP at hh
  split at hh
  · obtain ⟨h1, h2⟩ := hh
    obtain ⟨v, h3, h4⟩ := onS_ok h2
    refine ⟨v, fun hc => ?_, h4⟩
    have h1 := impC_ok h1 hc
    unfold loadOp
    cases hT : C.T t with
    | none => rw [hT] at h3; simp at h3
    | some ti => rw [hT] at h3; simp only [h1]; simpa using h3
  · split at hh
    · rename_i m es hb
      obtain ⟨h1, h2⟩ := hh
      obtain ⟨v, h3, h4⟩ := onS_ok h2
      refine ⟨v, fun hc => ?_, h4⟩
      have h1 := impC_ok h1 hc
      unfold loadOp
      split at h3
      · rename_i hnm
        cases hT : C.T t with
        | none => rw [hT] at h3; simp at h3
        | some ti => rw [hT] at h3; simp only [hb, h1, if_pos hnm]; simpa using h3
      · simp at h3
    · rename_i cs hb
      obtain ⟨u, h1, h2⟩ := onS_ok hh
      obtain ⟨h3, h4⟩ := h2
      refine ⟨_, fun hc => ?_, h4⟩
      obtain ⟨⟨rfl, h5⟩, h6⟩ := impC_ok h3 hc
      unfold scalT at h1
      unfold loadOp
      split at h1
      · rename_i ti hti
        split at h1
        · rename_i hs
          have hlt := (List.getElem?_eq_some_iff.1 h6).1
          simp only [hti, hb]
          rw [if_pos ⟨trivial, h5, by omega, by omega⟩, hs.2]
          simpa using h6
        · cases h1
      · cases h1
    · exact hh.elim
  · obtain ⟨cs, h1, h2⟩ := onS_ok hh
    obtain ⟨z, h3, h4⟩ := onS_ok h2
    unfold scalS at h3
    split at h3
    · rename_i ti hti
      split at h3
      · rename_i ha
        split at h3
        · cases h3
        · rename_i hs
          cases h3
          split at h4
          · rename_i q; cases q
          · rename_i q; cases q
            obtain ⟨h5, h6⟩ := h4
            refine ⟨_, fun hc => ?_, h6⟩
            obtain ⟨h7, h8⟩ := impC_ok h5 hc
            unfold loadOp
            simp only [hti, h1]
            rw [if_pos ⟨h7, hs⟩, ha, h8]
            rfl
          · exact h4.elim
      · rename_i ha
        split at h3
        · rename_i hs
          cases h3
          simp only at h4
          obtain ⟨h5, h6⟩ := h4
          refine ⟨_, fun hc => ?_, h6⟩
          have h7 := impC_ok h5 hc
          have hlt := (List.getElem?_eq_some_iff.1 h7).1
          unfold loadOp
          simp only [hti, h1]
          rw [if_pos ⟨by omega, by omega⟩]
          simp only [ha]
          exact h7
        · cases h3
    · cases h3
  · obtain ⟨v, h1, h2⟩ := onS_ok hh
    exact ⟨v, fun _ => h1, h2⟩
end Go.Det
end
