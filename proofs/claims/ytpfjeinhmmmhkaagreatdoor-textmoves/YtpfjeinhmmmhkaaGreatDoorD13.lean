/- TextMovesCardSaid: part 13 of the texts behind it: Kn0. No premise of its own. -/
import Derived.Test.YtpfjeinhmmmhkaaGreatDoorD12
set_option linter.all false
section
namespace Go.Det.Sea
open Go Go.Det
theorem ments_encs' : ∀ ts : List Tr, mentsL (Tr.encs ts) = []
  | [] => rfl
  | t :: ts => by
    have h1 : (Tr.enc t).ments = [] := by rw [Tr.enc_eq]; rfl
    simp only [Tr.encs, mentsL, h1, ments_encs' ts, List.append_nil]
theorem WkL.vre {ρ : Rho} {m : Ro} {n : Nat} : ∀ {l l' : List DV} {c : Array Value} {o : Nat}, WkL l l' -> VRE ρ m n l c o -> VRE ρ m n l' c o
  | [], [], _, _, _, _ => by simp [VRE]
  | [], _ :: _, _, _, h, _ => h.elim
  | _ :: _, [], _, _, h, _ => h.elim
  | x :: l, y :: l', c, o, h, hv => by
    simp only [VRE] at hv ⊢
    obtain ⟨⟨v, h1, h2⟩, h3⟩ := hv
    refine ⟨⟨v, ?_, h2⟩, WkL.vre h.2 h3⟩
    rcases h.1 with rfl | hw
    · exact h1
    · exact hw.2 _ _ _ h1
theorem WkL.len : ∀ {l l' : List DV}, WkL l l' -> l.length = l'.length
  | [], [], _ => rfl
  | [], _ :: _, h => h.elim
  | _ :: _, [], h => h.elim
  | _ :: l, _ :: l', h => by simp [WkL.len h.2]
theorem wk_psl {n : Nat} {l l' : List DV} (h : WkL l l') (hm : mentsL l' = []) : WkV (.psl n l) (.psl n l') := by
  refine ⟨by simpa [DV.ments] using hm, fun ρ m v hv => ?_⟩
  simp only [VR] at hv ⊢
  obtain ⟨a, cap, h1, rfl, h2, h3⟩ := hv
  have hl := WkL.len h
  refine ⟨a, cap, by omega, by rw [hl], hm, ?_⟩
  rcases h3 with rfl | ⟨r, base, c, k1, k2, k3⟩
  · left
    cases l' with
    | nil => rfl
    | cons y l' => exact h.elim
  · exact .inr ⟨r, base, c, k1, k2, WkL.vre h k3⟩
def toTr : Nat -> DV -> Option Tr
  | 0, _ => none
  | n + 1, d => match d with
    | .agg [.int .i64 k, .int .i64 vk, .int .i64 vm, .int .i64 vs, .str vt, .bool vb, .int .i64 ve, .int .i64 ar, .int .i64 ac, .bool arr, .bool arc, .int .i64 br, .int .i64 bc, .bool brr, .bool brc, .int .i64 sh, .int .i64 op, ks] =>
      (match ks with
        | .nilsl => some (.mk k ⟨vk, vm, vs, vt, vb, ve⟩ ⟨ar, ac, arr, arc⟩ ⟨br, bc, brr, brc⟩ sh op [])
        | .psl 18 es => (match es.mapM (toTr n) with
          | some ts => some (.mk k ⟨vk, vm, vs, vt, vb, ve⟩ ⟨ar, ac, arr, arc⟩ ⟨br, bc, brr, brc⟩ sh op ts)
          | none => none)
        | _ => none)
    | _ => none
theorem toTr_ok : ∀ {n : Nat} {d : DV} {t : Tr}, toTr n d = some t -> WkV d t.dv
  | 0, d, t, h => by cases h
  | n + 1, d, t, h => by
    simp only [toTr] at h
    split at h
    · split at h
      · simp only [Option.some.injEq] at h; subst h
        exact wk_cells (.mk _ ⟨_, _, _, _, _, _⟩ ⟨_, _, _, _⟩ ⟨_, _, _, _⟩ _ _ []) 18
      · rename_i es
        split at h
        · rename_i ts hts
          simp only [Option.some.injEq] at h; subst h
          have key : ∀ (es : List DV) (ts : List Tr), es.mapM (toTr n) = some ts -> WkL es (Tr.encs ts) := by
            intro es
            induction es with
            | nil => intro ts h; simp at h; subst h; trivial
            | cons e es ih =>
              intro ts h
              rw [List.mapM_cons] at h
              cases h1 : toTr n e with
              | none => rw [h1] at h; cases h
              | some t0 =>
                cases h2 : es.mapM (toTr n) with
                | none => rw [h1, h2] at h; cases h
                | some ts0 =>
                  rw [h1, h2] at h
                  cases h
                  refine ⟨.inr ?_, ih _ h2⟩
                  rw [Tr.enc_eq]
                  exact toTr_ok h1
          have hw := wk_psl (n := 18) (key es ts hts) (ments_encs' ts)
          refine wk_agg (l' := Tr.cells _) ⟨.inl rfl, .inl rfl, .inl rfl, .inl rfl, .inl rfl, .inl rfl, .inl rfl, .inl rfl, .inl rfl, .inl rfl, .inl rfl, .inl rfl, .inl rfl, .inl rfl, .inl rfl, .inl rfl, .inl rfl, .inr hw, trivial⟩ ?_
          simp [Tr.cells, Tr.cellsK, mentsL, DV.ments, ments_encs']
        · cases h
      · cases h
    · cases h
def chk48 (e : KE) : Bool := Nat.beq e.g 48 && match e.xs, e.ex, e.ex' with
  | [d], [], [] => (match toTr 50 d with
    | some t => Nat.ble t.count 900000 && DV.beq (.psl 19 (nds (t.pre 1))) e.r
    | none => false)
  | _, _, _ => false
theorem k48 (n : Int) {e : KE} (h : chk48 e = true) : KG n e := by
  obtain ⟨g, xs, ex, r, ex'⟩ := e
  simp only [chk48, Bool.and_eq_true] at h
  obtain ⟨hg, h⟩ := h
  rw [beqF hg]
  split at h
  · rename_i d
    split at h
    · rename_i t ht
      simp only [Bool.and_eq_true] at h
      have hr := DV.beq_ok h.2
      subst hr
      exact .callWk (xs := [t.dv]) ⟨.inr (toTr_ok ht), trivial⟩ (.inl rfl) (.prim (.inl ⟨rfl, t, Nat.le_of_ble_eq_true h.1, rfl, rfl⟩))
    · cases h
  · cases h
def chk154 (e : KE) : Bool := Nat.beq e.g 154 && match e.xs, e.ex, e.ex' with
  | [.str s, .int .u8 c], [], [] => DV.beq (.int .i64 (Lib.indexByte s c.toNat.toUInt8)) e.r
  | _, _, _ => false
theorem k154 (n : Int) {e : KE} (h : chk154 e = true) : KG n e := by
  obtain ⟨g, xs, ex, r, ex'⟩ := e
  simp only [chk154, Bool.and_eq_true] at h
  obtain ⟨hg, h⟩ := h
  rw [beqF hg]
  split at h
  · rename_i s c
    have hr := DV.beq_ok h
    subst hr
    exact .prim (.inr (.inl ⟨rfl, s, c, rfl, rfl⟩))
  · cases h
def strsO : List DV -> Option (List (List UInt8))
  | [] => some []
  | .str s :: l => (strsO l).map (s :: ·)
  | _ :: _ => none
theorem strsO_ok : ∀ {l : List DV} {ss : List (List UInt8)}, strsO l = some ss -> l = ss.map .str
  | [], ss, h => by simp [strsO] at h; subst h; rfl
  | x :: l, ss, h => by
    cases x <;> simp [strsO] at h
    obtain ⟨ss', h1, rfl⟩ := h
    rw [strsO_ok h1]; rfl
def chk61 (e : KE) : Bool := Nat.beq e.g 61 && match e.xs, e.ex, e.ex' with
  | [.psl 1 es, .str sep], [], [] => (match strsO es with
    | some (s :: ss) => Nat.ble (s :: ss).length 1000000 && (Nat.ble (Lib.join (s :: ss) sep).length 140737488355328 && DV.beq (.str (Lib.join (s :: ss) sep)) e.r)
    | _ => false)
  | _, _, _ => false
theorem k61 (n : Int) {e : KE} (h : chk61 e = true) : KG n e := by
  obtain ⟨g, xs, ex, r, ex'⟩ := e
  simp only [chk61, Bool.and_eq_true] at h
  obtain ⟨hg, h⟩ := h
  rw [beqF hg]
  split at h
  · rename_i es sep
    split at h
    · rename_i s ss hs
      simp only [Bool.and_eq_true] at h
      have hr := DV.beq_ok h.2.2
      subst hr
      rw [strsO_ok hs]
      exact .prim (.inr (.inr (.inl ⟨rfl, s :: ss, sep, by simp, Nat.le_of_ble_eq_true h.1, Nat.le_of_ble_eq_true h.2.1, rfl, rfl⟩)))
    · cases h
  · cases h
def chk93 (e : KE) : Bool := Nat.beq e.g 93 && match e.xs, e.ex, e.ex' with
  | [.str s, .str old, .str new], [], [] => Nat.ble (s.length + 1) 1000000 && (Nat.ble 1 old.length && (Nat.ble (s.length + Lib.countB ⟨s.toArray⟩ ⟨old.toArray⟩ * new.length) 140737488355328 && DV.beq (.str (Lib.replaceAll s old new)) e.r))
  | _, _, _ => false
theorem k93 (n : Int) {e : KE} (h : chk93 e = true) : KG n e := by
  obtain ⟨g, xs, ex, r, ex'⟩ := e
  simp only [chk93, Bool.and_eq_true] at h
  obtain ⟨hg, h⟩ := h
  rw [beqF hg]
  split at h
  · rename_i s old new
    simp only [Bool.and_eq_true] at h
    have hr := DV.beq_ok h.2.2.2
    subst hr
    exact .prim (.inr (.inr (.inr ⟨rfl, s, old, new, Nat.le_of_ble_eq_true h.1, Nat.le_of_ble_eq_true h.2.1, Nat.le_of_ble_eq_true h.2.2.1, rfl, rfl⟩)))
  · cases h
def nd (k vk vm vs : Int) (vt : List UInt8) (vb : Bool) (ve ar ac : Int) (arr arc : Bool) (br bc : Int) (brr brc : Bool) (sh op : Int) (ks : DV) : DV :=
  .agg [.int .i64 k, .int .i64 vk, .int .i64 vm, .int .i64 vs, .str vt, .bool vb, .int .i64 ve, .int .i64 ar, .int .i64 ac, .bool arr, .bool arc, .int .i64 br, .int .i64 bc, .bool brr, .bool brc, .int .i64 sh, .int .i64 op, ks]
abbrev nz (k op : Int) (x : DV) : DV := nd k 0 0 0 [] false 0 0 0 false false 0 0 false false 0 op x
abbrev sK : List UInt8 := [83, 85, 77, 40, 83, 50, 33, 65, 49, 32, 58, 32, 66, 50, 44, 32, 78, 51, 39, 44, 32, 34, 97, 34, 34, 98, 34, 44, 32, 35, 78, 47, 65, 44, 32, 84, 82, 85, 69, 41]
abbrev sL : List UInt8 := [65, 66, 67, 68, 69, 70, 71, 72, 73, 74, 75, 76, 77, 78, 79, 80, 81, 82, 83, 84, 85, 86, 87, 88, 89, 90, 48, 49, 50, 51, 52, 53, 54, 55, 56, 57, 36, 39]
end Go.Det.Sea
end
