/- TextMovesCardSaid: part 32 of the texts behind it: Fu2. No premise of its own. -/
import Derived.Test.YtpfjeinhmmmhkaaGreatDoorD31
import Derived.Laws.RangeAny
import Derived.Laws.BitsLemmas
set_option linter.all false
section
namespace Go.Det.Sea
open Go Go.Det
theorem bsize (s : List UInt8) : (⟨s.toArray⟩ : ByteArray).size = s.length := by simp [ByteArray.size]
theorem dec_pos {s : List UInt8} {j : Nat} (h : j < s.length) : 1 <= (Utf8.decode ⟨s.toArray⟩ j).2 := by
  have h' : j < (⟨s.toArray⟩ : ByteArray).size := by rw [bsize]; exact h
  by_cases ha : 128 <= ((⟨s.toArray⟩ : ByteArray)[j]'h').toNat
  · exact (decode_high _ j h' ha).2
  · have hn : ((⟨s.toArray⟩ : ByteArray)[j]'h').toNat < 128 := by omega
    simp only [Utf8.decode, get_at _ j h', hn, if_true]
    exact Nat.le_refl _
theorem inR32n {n : Int} (h0 : 0 <= n) (h1 : n < 2147483648) : inR .i32 n = true := by
  unfold inR; rw [IntKind.wrap_i32]; simp; omega
section
variable {Pr Ow : Nat -> List DV -> DV -> Prop}
theorem nt156 : ntOf cfg 156 = 32 := by kernel_rfl
theorem nd156 : nodupK (loops 0 (codeOf cfg 156)) = true := by kernel_rfl
def hd156 (s : List UInt8) : Option (Bool × List Int) -> Nat -> St
  | none, j => hd156_0 s j
  | some (false, o), j => hd156_a s o o.length j
  | some (true, o), j => hd156_b s o o.length j
def In156 (s : List UInt8) : Option (Bool × List Int) -> Nat -> Prop
  | none, _ => True
  | some (_, o), j => o.length <= 2 * j /\ o.length <= 2 * s.length
theorem roomy8 {n : Nat} (h : n <= 6002) : roomy 8 n = true := by
  unfold roomy; simp; omega
theorem far156 {c : Nat} (h0 : 65536 <= c) (h1 : c <= 2147483647) : inR .i32 ((c : Int) - 65536) = true /\ inR .i64 (55296 + IntKind.wrap .i64 (Int.fdiv ((c : Int) - 65536) 1024)) = true /\
    ∀ y : Int, inR .i64 (56320 + IntKind.wrap .i64 (IntKind.wrap .i32 y)) = true := by
  refine ⟨inR32n (by omega) (by omega), ?_, fun y => ?_⟩
  · have e : Int.fdiv ((c : Int) - 65536) 1024 = ((c : Int) - 65536) / 1024 := Int.fdiv_eq_ediv_of_nonneg _ (by omega)
    rw [e, wrap64 (by omega) (by omega)]
    exact inR64 (by omega)
  · have := IntKind.wrap_i32 y
    have e : IntKind.wrap .i64 (IntKind.wrap .i32 y) = IntKind.wrap .i32 y := Go.IntWalk.i64_in _ (by omega)
    rw [e]
    exact inR64 (by omega)
theorem st156a {s : List UInt8} {o : List Int} {j w : Nat} (v : Int) (h : j < s.length) (hw : 1 <= w) (hp : o.length <= 2 * j /\ o.length <= 2 * s.length) :
    j < s.length /\ ∃ p', In156 s p' (j + w) /\ mkS 32 [(3, DV.rsl 17 1 0 (o.length + 1)), (7, DV.ptr 7 0 0 0)] [(7, Blk.iter s (j + w)), (17, Blk.row 1 (List.take o.length (ints o) ++ [DV.int .i64 v]))] [] = hd156 s p' (j + w) := by
  refine ⟨h, some (false, o ++ [v]), ⟨by simp; omega, by simp; omega⟩, ?_⟩
  simp only [hd156, hd156_a, List.length_append, List.length_cons, List.length_nil, ints_snoc]
theorem st156b {s : List UInt8} {o : List Int} {j w : Nat} (v u : Int) (h : j < s.length) (hw : 1 <= w) (hp : o.length <= 2 * j /\ o.length <= 2 * s.length) :
    j < s.length /\ ∃ p', In156 s p' (j + w) /\ mkS 32 [(3, DV.rsl 30 1 0 (o.length + 2)), (7, DV.ptr 7 0 0 0)] [(7, Blk.iter s (j + w)), (30, Blk.row 1 (List.take o.length (ints o) ++ [DV.int .i64 v, DV.int .i64 u]))] [] = hd156 s p' (j + w) := by
  refine ⟨h, some (true, o ++ [v, u]), ⟨by simp; omega, by simp; omega⟩, ?_⟩
  simp only [hd156, hd156_b, List.length_append, List.length_cons, List.length_nil, ints_snoc2]
set_option maxRecDepth 100000 in
theorem loop156 {s : List UInt8} (hs : s.length <= 3000) {K : Ex -> St -> Prop} (hK : F156 s.length K) : ∀ (d : Nat) (p : Option (Bool × List Int)) (j : Nat), s.length <= j + d -> In156 s p j -> GoL cfg Pr Ow 156 32 (bodyOf cfg 156 0) (hd156 s p j) K := by
  intro d
  induction d with
  | zero =>
    intro p j hd hp
    refine round_of (E := E156b (Utf8.decode ⟨s.toArray⟩ j).1 (Utf8.decode ⟨s.toArray⟩ j).2) (envOK trivial trivial trivial) nt156 rfl (L := fun _ => False) (ks := [3, 7]) (bs := [7, 17, 30]) (ks2 := [3]) (bs2 := [17, 30]) ?_ (fun _ h => h.elim)
    have hb : ¬ j < s.length := by omega
    match p, hp with
    | none, hp =>
      show vcB cfg _ 156 0 (hd156_0 s j) _
      rw [vc156_0]
      exact brB_of (fun h => absurd (of_decide_eq_true h) hb) fun _ => hK.1
    | some (false, o), hp =>
      show vcB cfg _ 156 0 (hd156_a s o o.length j) _
      rw [vc156_a]
      exact brB_of (fun h => absurd (of_decide_eq_true h) hb) fun _ => hK.2.1 o hp.2
    | some (true, o), hp =>
      show vcB cfg _ 156 0 (hd156_b s o o.length j) _
      rw [vc156_b]
      exact brB_of (fun h => absurd (of_decide_eq_true h) hb) fun _ => hK.2.2 o hp.2
  | succ d ih =>
    intro p j hd hp
    obtain ⟨c, w, e⟩ : ∃ c w, Utf8.decode ⟨s.toArray⟩ j = (c, w) := ⟨_, _, rfl⟩
    obtain ⟨bb, hbb⟩ : ∃ bb, decide ((c : Int) < 65536) = bb := ⟨_, rfl⟩
    refine round_of (E := E156b c w) (envOK trivial trivial trivial) nt156 rfl (L := fun st => j < s.length /\ ∃ p', In156 s p' (j + w) /\ st = hd156 s p' (j + w)) (ks := [3, 7]) (bs := [7, 17, 30]) (ks2 := [3]) (bs2 := [17, 30]) ?_ ?_
    · have hc : c <= 2147483647 := by have := decode_le ⟨s.toArray⟩ j; rw [e] at this; exact this
      have f : ¬ (c : Int) < 65536 -> _ := fun h => far156 (c := c) (by omega) hc
      have hw : j < s.length -> 1 <= w := fun h => by have := dec_pos h; rw [e] at this; exact this
      match p, hp with
      | none, hp =>
        show vcB cfg _ 156 0 (hd156_0 s j) _
        rw [vc156_0, hbb]
        refine brB_of (fun h => ⟨e, brB_of (fun hc => ⟨of_decide_eq_true h, some (false, [_]), ?_, rfl⟩) fun hc => ?_⟩) fun _ => hK.1
        · have h := of_decide_eq_true h; have := hw h
          exact ⟨by simp; omega, by simp; omega⟩
        · have h := of_decide_eq_true h; have := hw h
          obtain ⟨f1, f2, f3⟩ := f (of_decide_eq_false (hbb.trans hc))
          exact obB_of f1 (obB_of f2 (obB_of (f3 _) ⟨h, some (true, [_, _]), ⟨by simp; omega, by simp; omega⟩, rfl⟩))
      | some (false, o), hp =>
        show vcB cfg _ 156 0 (hd156_a s o o.length j) _
        rw [vc156_a, hbb]
        have ho : o.length <= 6000 := by have := hp.2; omega
        refine brB_of (fun h => ⟨e, brB_of (fun hc => ?_) fun hc => ?_⟩) fun _ => hK.2.1 o hp.2
        · have h := of_decide_eq_true h; have := hw h
          exact obB_of (by simp [ints_len]) (obB_of (roomy8 (by omega)) (st156a _ h this hp))
        · have h := of_decide_eq_true h; have := hw h
          obtain ⟨f1, f2, f3⟩ := f (of_decide_eq_false (hbb.trans hc))
          exact obB_of f1 (obB_of f2 (obB_of (f3 _) (obB_of (by simp [ints_len]) (obB_of (roomy8 (by omega)) (st156b _ _ h this hp)))))
      | some (true, o), hp =>
        show vcB cfg _ 156 0 (hd156_b s o o.length j) _
        rw [vc156_b, hbb]
        have ho : o.length <= 6000 := by have := hp.2; omega
        refine brB_of (fun h => ⟨e, brB_of (fun hc => ?_) fun hc => ?_⟩) fun _ => hK.2.2 o hp.2
        · have h := of_decide_eq_true h; have := hw h
          exact obB_of (by simp [ints_len]) (obB_of (roomy8 (by omega)) (st156a _ h this hp))
        · have h := of_decide_eq_true h; have := hw h
          obtain ⟨f1, f2, f3⟩ := f (of_decide_eq_false (hbb.trans hc))
          exact obB_of f1 (obB_of f2 (obB_of (f3 _) (obB_of (by simp [ints_len]) (obB_of (roomy8 (by omega)) (st156b _ _ h this hp)))))
    · rintro _ ⟨h, p', hp', rfl⟩
      have hw : 1 <= w := by have := dec_pos h; rw [e] at this; exact this
      exact ih p' (j + w) (by omega) hp'
theorem unitsP_ok : SpecOK cfg Pr Ow 156 (unitsP 3000) := by
  intro xs ex k hk
  cases ex with
  | cons _ _ => exact hk.elim
  | nil =>
    obtain ⟨s, hs, rfl, hk⟩ := hk
    refine go_wk (WkL.refl _) (fn_of (E := E156 (fun st => st = hd156_0 s 0) s.length) (envOK trivial trivial trivial) nt156 nd156 ?_ ?_)
    · intro b sp hl' st k hs'
      obtain ⟨rfl, rfl⟩ := look_one rfl hl'
      exact loopS_ok (fun st hst k hk => by subst hst; exact loop156 hs hk s.length none 0 (by omega) trivial) hs'
    · rw [vc156]
      have ht : ∀ o : List Int, (ints o).take o.length = ints o := fun o => by rw [← ints_len, List.take_length]
      refine ⟨rfl, ⟨_, .inr (wk_nil 1), hk [] (by simp)⟩, fun o ho => obB_of (by simp [ints_len]) ⟨_, .inl rfl, ?_⟩, fun o ho => obB_of (by simp [ints_len]) ⟨_, .inl rfl, ?_⟩⟩
      · rw [ht]; exact hk o (by omega)
      · rw [ht]; exact hk o (by omega)
theorem units_any {s : List UInt8} {b : Bool} (hs : s.length <= 3000) (hv : ∀ Φ : DV -> List Blk -> Prop, Φ (.bool b) [] -> GoC cfg Pr Ow 155 [.str s] [] Φ) : ∃ n e : Int, GoC cfg Pr Ow 113 [.str s] [] fun r ex => r = .tup [.int .i64 n, .int .i64 e] /\ ex = [] := by
  have h : GoC cfg Pr Ow 113 [.str s] [] fun r ex => ∃ n e : Int, r = .tup [.int .i64 n, .int .i64 e] /\ ex = [] := by
    refine fn_of0 (E := E113 s b) (envOK ⟨callG_ok fun _ => hv, unitsP_ok, trivial⟩ trivial trivial) rfl ?_
    rw [vc113]
    exact ⟨trivial, rfl, brB_of (fun _ => ⟨_, _, rfl, rfl⟩) fun _ => ⟨s, hs, rfl, fun o _ => brB_of (fun _ => ⟨_, _, rfl, rfl⟩) fun _ => ⟨_, _, rfl, rfl⟩⟩⟩
  obtain ⟨r, ex, h1, n, e, rfl, rfl⟩ := h
  exact ⟨n, e, _, _, h1, rfl, rfl⟩
theorem units_ex (vB : List UInt8 -> Bool) (hv : ∀ s : List UInt8, s.length <= 3000 -> ∀ Φ : DV -> List Blk -> Prop, Φ (.bool (vB s)) [] -> GoC cfg Pr Ow 155 [.str s] [] Φ) : ∃ uN uE : List UInt8 -> Int, ∀ s : List UInt8, s.length <= 3000 -> UnitsOK Pr Ow uN uE s := by
  have h : ∀ s : List UInt8, ∃ n : Int × Int, s.length <= 3000 -> GoC cfg Pr Ow 113 [.str s] [] fun r ex => r = .tup [.int .i64 n.1, .int .i64 n.2] /\ ex = [] := by
    intro s
    by_cases hs : s.length <= 3000
    · obtain ⟨n, e, h⟩ := units_any hs (hv s hs)
      exact ⟨(n, e), fun _ => h⟩
    · exact ⟨(0, 0), fun h => absurd h hs⟩
  refine ⟨fun s => (h s).choose.1, fun s => (h s).choose.2, fun s hs Φ hΦ => ?_⟩
  obtain ⟨r, ex, h1, rfl, rfl⟩ := (h s).choose_spec hs
  exact ⟨_, _, h1, hΦ⟩
end
end Go.Det.Sea
end
