/- TextMovesCardSaid: part 15 of the texts behind it: Lg3. No premise of its own. -/
import Derived.Test.YtpfjeinhmmmhkaaGreatDoorD14
set_option linter.all false
section
namespace Go.Det.Sea
open Go Go.Det
theorem inR32 {n : Int} (h : -2147483648 <= n /\ n <= 2147483647) : inR .i32 n = true := by
  simp [inR, IntKind.wrap, IntKind.bits, IntKind.signed]
  omega
theorem foldl_mono {f : Nat -> UInt8 -> Nat} (hf : ∀ a x, a <= f a x) : ∀ (l : List UInt8) (a : Nat), a <= l.foldl f a
  | [], a => Nat.le_refl _
  | x :: l, a => Nat.le_trans (hf a x) (foldl_mono hf l _)
section
variable {Pr Ow : Nat -> List DV -> DV -> Prop}
theorem nt226 : ntOf cfg 226 = 79 := by kernel_rfl
theorem nd226 : nodupK (loops 0 (codeOf cfg 226)) = true := by kernel_rfl
theorem digs226 (s : List UInt8) (c : Nat) {K : Ex -> St -> Prop} : ∀ (l : List UInt8) (j a d : Nat), s.drop j = l -> l.all isDig = true -> 0 < j -> (d = 0 -> l ≠ [] -> (l.getD 0 0).toNat ≠ 48) -> l.foldl (fun a x => a * 10 + (x.toNat - 48)) a <= 65536 -> d + l.length <= 100 -> 
    F226 c ((l.foldl (fun a x => a * 10 + (x.toNat - 48)) a : Nat) : Int) ((d + l.length : Nat) : Int) K -> GoL cfg Pr Ow 226 79 (bodyOf cfg 226 0) (hd226 s j c a d) K := by
  intro l
  induction l with
  | nil =>
    intro j a d hd _ hj _ hm _ hF
    have hge : ¬ j < s.length := fun h => by rw [List.drop_eq_getElem_cons h] at hd; cases hd
    refine round_of (E := E226b 0) (envOK trivial trivial trivial) nt226 rfl (L := fun _ => False) (ks := [2, 3, 4, 5, 6, 11]) (bs := [2, 11]) (ks2 := [2, 3, 4, 5, 6]) (bs2 := [2]) ?_ (fun _ h => h.elim)
    rw [vc226b]
    exact brB_of (fun h => absurd (of_decide_eq_true h) hge) (fun _ => hF)
  | cons y l ih =>
    intro j a d hd hA hj hlead hm hlen hF
    obtain ⟨hx, hlt, htl⟩ := byt_drop hd
    rw [List.all_cons, Bool.and_eq_true] at hA
    obtain ⟨y1, y2⟩ := isDig_at hA.1
    simp only [List.foldl_cons] at hm hF
    have hle : a * 10 + (y.toNat - 48) <= 65536 := Nat.le_trans (foldl_mono (fun a x => by omega) l _) hm
    rw [List.length_cons] at hlen hF
    refine round_of (E := E226b y.toNat) (envOK trivial trivial trivial) nt226 rfl (L := fun st => st = hd226 s (j + 1) c ((a * 10 + (y.toNat - 48) : Nat) : Int) ((d + 1 : Nat) : Int)) (ks := [2, 3, 4, 5, 6, 11]) (bs := [2, 11]) (ks2 := [2, 3, 4, 5, 6]) (bs2 := [2]) ?_ ?_
    · rw [vc226b]
      have c1 : (decide ((y.toNat : Int) ≥ 65) && decide ((y.toNat : Int) <= 90) && ((d : Int) == 0)) = false := by
        rw [decide_eq_false (show ¬ ((y.toNat : Int) ≥ 65) by omega)]; rfl
      have c2 : (decide ((y.toNat : Int) ≥ 48) && decide ((y.toNat : Int) <= 57) && decide ((j : Int) > 0) && ((y.toNat : Int) != 48 || decide ((d : Int) > 0))) = true := by
        rw [decide_eq_true (show ((y.toNat : Int) ≥ 48) by omega), decide_eq_true (show ((y.toNat : Int) <= 57) by omega), decide_eq_true (show ((j : Int) > 0) by omega)]
        simp only [Bool.and_self, Bool.true_and, Bool.or_eq_true, bne_iff_ne, decide_eq_true_eq]
        by_cases h0 : d = 0
        · left
          have := hlead h0 (by simp)
          rw [List.getD_cons_zero] at this
          omega
        · right; omega
      rw [c1, c2]
      have ew : IntKind.wrap .i64 ((y.toNat : Int) - 48) = ((y.toNat - 48 : Nat) : Int) := by rw [wrap64 (by omega) (by omega)]; omega
      rw [ew]
      have eX : (a : Int) * 10 + ((y.toNat - 48 : Nat) : Int) = ((a * 10 + (y.toNat - 48) : Nat) : Int) := by omega
      rw [eX]
      refine brB_of (fun _ => ⟨by rw [dec_ascii hlt (by rw [hx]; omega), hx], brB_of (fun h => by cases h) fun _ => brB_of (fun _ => obB_of (inR64 (by omega)) (obB_of ?_ (obB_of (inR64 (by omega)) (obB_of (inR64 (by omega)) ?_)))) (fun h => by cases h)⟩) (fun h => absurd (decide_eq_true hlt) (by rw [h]; decide))
      · exact inR32 (by omega)
      · rw [if_neg (show ¬ (false = true) by decide), if_neg (show ¬ ((65537 : Int) < ((a * 10 + (y.toNat - 48) : Nat) : Int)) by omega)]
        rfl
    · rintro _ rfl
      refine ih (j + 1) _ (d + 1) htl hA.2 (by omega) (fun h => absurd h (by omega)) hm (by omega) ?_
      rw [show d + 1 + l.length = d + (l.length + 1) by omega]
      exact hF
theorem lets226 (s : List UInt8) {K : Ex -> St -> Prop} (D : List UInt8) : ∀ (l : List UInt8) (j a : Nat), s.drop j = l ++ D -> l.all isLet = true -> l.foldl (fun a x => a * 26 + (x.toNat - 64)) a <= 256 -> 
    GoL cfg Pr Ow 226 79 (bodyOf cfg 226 0) (hd226 s (j + l.length) ((l.foldl (fun a x => a * 26 + (x.toNat - 64)) a : Nat) : Int) 0 0) K -> GoL cfg Pr Ow 226 79 (bodyOf cfg 226 0) (hd226 s j a 0 0) K := by
  intro l
  induction l with
  | nil => intro j a _ _ _ h; exact h
  | cons y l ih =>
    intro j a hd hA hm hF
    obtain ⟨hx, hlt, htl⟩ := byt_drop hd
    rw [List.all_cons, Bool.and_eq_true] at hA
    obtain ⟨y1, y2⟩ := isLet_at hA.1
    simp only [List.foldl_cons] at hm hF
    have hle : a * 26 + (y.toNat - 64) <= 256 := Nat.le_trans (foldl_mono (fun a x => by omega) l _) hm
    refine round_of (E := E226b y.toNat) (envOK trivial trivial trivial) nt226 rfl (L := fun st => st = hd226 s (j + 1) ((a * 26 + (y.toNat - 64) : Nat) : Int) 0 0) (ks := [2, 3, 4, 5, 6, 11]) (bs := [2, 11]) (ks2 := [2, 3, 4, 5, 6]) (bs2 := [2]) ?_ ?_
    · rw [vc226b]
      have c1 : (decide ((y.toNat : Int) ≥ 65) && decide ((y.toNat : Int) <= 90) && ((0 : Int) == 0)) = true := by
        rw [decide_eq_true (show ((y.toNat : Int) ≥ 65) by omega), decide_eq_true (show ((y.toNat : Int) <= 90) by omega)]; rfl
      rw [c1]
      have ew : IntKind.wrap .i64 ((y.toNat : Int) - 65) = ((y.toNat - 65 : Nat) : Int) := by rw [wrap64 (by omega) (by omega)]; omega
      rw [ew]
      have eX : (a : Int) * 26 + ((y.toNat - 65 : Nat) : Int) + 1 = ((a * 26 + (y.toNat - 64) : Nat) : Int) := by omega
      rw [eX]
      refine brB_of (fun _ => ⟨by rw [dec_ascii hlt (by rw [hx]; omega), hx], brB_of (fun _ => obB_of (inR64 (by omega)) (obB_of ?_ (obB_of (inR64 (by omega)) (obB_of (inR64 (by omega)) ?_)))) fun h => by cases h⟩) (fun h => absurd (decide_eq_true hlt) (by rw [h]; decide))
      · exact inR32 (by omega)
      · rw [if_neg (show ¬ (false = true) by decide), if_neg (show ¬ ((257 : Int) < ((a * 26 + (y.toNat - 64) : Nat) : Int)) by omega)]
        rfl
    · rintro _ rfl
      refine ih (j + 1) _ htl hA.2 hm ?_
      rw [show j + 1 + l.length = j + (y :: l).length by simp; omega]
      exact hF
theorem go226 {L D : List UInt8} {r c : Int} (h : RefOK L D r c) (Φ : DV -> List Blk -> Prop) (hΦ : Φ (.tup [.agg [.int .i64 r, .int .i64 c], .int .i64 0]) []) : GoC cfg Pr Ow 226 [.str (L ++ D)] [] Φ := by
  have hg := h.good
  simp only [goodB, Bool.and_eq_true, decide_eq_true_eq] at hg
  obtain ⟨⟨⟨g1, g2⟩, g3⟩, g4⟩ := hg
  have hlen := h.len
  have hD : 0 < D.length := by have := h.d0; cases D with | nil => exact absurd rfl this | cons _ _ => simp
  have hL : 0 < L.length := by have := h.l0; cases L with | nil => exact absurd rfl this | cons _ _ => simp
  have hrow := h.row
  unfold valD at hrow
  refine fn_of (E := E226 (fun st => st = hd226 (L ++ D) 0 0 0 0) ((c.toNat + 1 : Nat) : Int) ((r.toNat + 1 : Nat) : Int) (D.length : Int)) (envOK ⟨callG_ok fun _ Φ h' => go24 _ _ Φ ?_, trivial⟩ trivial trivial) nt226 nd226 ?_ ?_
  · rw [show ((r.toNat + 1 : Nat) : Int) - 1 = r by omega, show ((c.toNat + 1 : Nat) : Int) - 1 = c by omega, h.good]; exact h'
  · intro b sp hl' st k hk
    obtain ⟨rfl, rfl⟩ := look_one rfl hl'
    refine loopS_ok (fun st hst K hK => ?_) hk
    subst hst
    refine lets226 (L ++ D) D L 0 0 rfl h.ll (by rw [h.col]; omega) ?_
    rw [h.col, Nat.zero_add]
    refine digs226 (L ++ D) (c.toNat + 1) D L.length 0 0 (by simp) h.dd hL (fun _ _ => h.lead) (by rw [hrow]; omega) (by omega) ?_
    rw [hrow, Nat.zero_add]
    exact hK
  · rw [vc226]
    rw [show ((r.toNat + 1 : Nat) : Int) - 1 = r by omega, show ((c.toNat + 1 : Nat) : Int) - 1 = c by omega]
    refine ⟨rfl, obB_of (inR64 (by omega)) (obB_of (inR64 (by omega)) (brB_of (fun h0 => ?_) fun _ => ⟨trivial, rfl, hΦ⟩))⟩
    have : (D.length : Int) = 0 := by simpa using h0
    omega
theorem trim_letters {L D : List UInt8} (hL : L.all isLet = true) (hD : ∀ x t, D = x :: t -> letB x.toNat = false) : trimB (L ++ D) = D := by
  induction L with
  | nil =>
    cases D with
    | nil => rfl
    | cons x t => simp [trimB, hD x t rfl]
  | cons y L ih =>
    rw [List.all_cons, Bool.and_eq_true] at hL
    have hy := isLet_at hL.1
    have : letB y.toNat = true := by
      unfold letB; rw [Bool.and_eq_true]
      exact ⟨Nat.ble_eq_true_of_le hy.1, Nat.ble_eq_true_of_le hy.2⟩
    simp only [List.cons_append, trimB, this, cond_true]
    exact ih hL.2
theorem letB_no {n : Nat} (h : n < 65) : letB n = false := by
  unfold letB
  cases hb : Nat.ble 65 n with
  | false => rfl
  | true => have := Nat.le_of_ble_eq_true hb; omega
theorem idx_none : ∀ {D : List UInt8} (j : Nat), D.all isDig = true -> idxI qutL D j = -1
  | [], _, _ => rfl
  | x :: D, j, h => by
    rw [List.all_cons, Bool.and_eq_true] at h
    have hx := isDig_at h.1
    have : mem qutL x.toNat = false := by
      unfold mem
      rw [List.any_eq_false]
      intro z hz hb
      have := Nat.eq_of_beq_eq_true hb
      simp only [qutL, List.mem_cons, List.not_mem_nil, or_false] at hz
      rcases hz with rfl | rfl
      · have : (36 : UInt8).toNat = 36 := rfl
        omega
      · have : (39 : UInt8).toNat = 39 := rfl
        omega
    simp only [idxI, this, cond_false]
    exact idx_none (j + 1) h.2
theorem cpF_dol {l : List UInt8} (b : Bool) (h : ∀ x t, l = x :: t -> x.toNat ≠ 36) : cpF (dol b ++ l) [36] = (l, !b) := by
  cases b with
  | false =>
    unfold cpF
    have : hp (dol false ++ l) [36] = true := by simp [dol, hp, hp_nil]
    rw [this]; rfl
  | true =>
    unfold cpF
    have : hp (dol true ++ l) [36] = false := by
      cases l with
      | nil => rfl
      | cons x t =>
        have := h x t rfl
        simp only [dol, cond_true, List.nil_append, hp]
        cases hb : Nat.beq x.toNat (36 : UInt8).toNat with
        | false => rfl
        | true => exact absurd (Nat.eq_of_beq_eq_true hb) this
    rw [this]; rfl
structure LbA (Pr Ow : Nat -> List DV -> DV -> Prop) : Prop where
  ix : SpecOK cfg Pr Ow 154 idxS
  a140 : ∀ Φ : DV -> List Blk -> Prop, Φ (.tup [.agg asD, .bool true]) [] -> GoC cfg Pr Ow 140 [.str letP] [] Φ
  pi : ∀ (n : Nat), n <= 100000 -> ∀ Φ : DV -> List Blk -> Prop, Φ (.tup [.int .i64 n, .niliface]) [] -> GoC cfg Pr Ow 211 [.str (Lib.decDigits n), .int .i64 10, .int .i64 64] [] Φ
  fi : ∀ (n : Nat), n <= 100000 -> ∀ Φ : DV -> List Blk -> Prop, Φ (.str (Lib.decDigits n)) [] -> GoC cfg Pr Ow 212 [.int .i64 n, .int .i64 10] [] Φ
  fd : ∀ (i : Nat), i < 30 -> ∀ Φ : DV -> List Blk -> Prop, Φ (.tup [.int .i64 i, .bool true]) [] -> GoC cfg Pr Ow 182 [.str (fnNm i)] [] Φ
variable (lb : LbA Pr Ow)
include lb
theorem go214 {row col : Int} (h3 : farI row) (h4 : farI col) {w : List UInt8} {R : Rf} (h : RefW row col w R) (s : List UInt8) (p : Nat) (q : Int) (Φ : DV -> List Blk -> Prop) (hΦ : Φ R.dv [rdr s row col p 0 0]) : GoC cfg Pr Ow 214 [.ptr 67 6 0 0, .int .i64 q, .str w] [rdr s row col p 0 0] Φ := by
  cases h with
  | @mk L D r c rr rc h =>
    have hg := h.good
    simp only [goodB, Bool.and_eq_true, decide_eq_true_eq] at hg
    obtain ⟨⟨⟨g1, g2⟩, g3⟩, g4⟩ := hg
    have hlen := h.len
    have hL : 0 < L.length := by have := h.l0; cases L with | nil => exact absurd rfl this | cons _ _ => simp
    have e1 : cpF (dol rc ++ (L ++ (dol rr ++ D))) [36] = (L ++ (dol rr ++ D), !rc) := cpF_dol rc fun x t e => by
      have hll := h.ll
      cases L with
      | nil => simp at hL
      | cons z L =>
        simp only [List.cons_append, List.cons.injEq] at e
        rw [List.all_cons, Bool.and_eq_true] at hll
        have := isLet_at hll.1
        rw [← e.1]; omega
    have e2 : trimB (L ++ (dol rr ++ D)) = dol rr ++ D := trim_letters h.ll fun x t e => by
      cases rr with
      | false =>
        simp only [dol, cond_false, List.cons_append, List.cons.injEq] at e
        rw [← e.1]; rfl
      | true =>
        simp only [dol, cond_true, List.nil_append] at e
        have hdd := h.dd
        rw [e, List.all_cons, Bool.and_eq_true] at hdd
        have := isDig_at hdd.1
        exact letB_no (by omega)
    have e3 : cpF (dol rr ++ D) [36] = (D, !rr) := cpF_dol rr fun x t e => by
      have hdd := h.dd
      rw [e, List.all_cons, Bool.and_eq_true] at hdd
      have := isDig_at hdd.1
      omega
    have hdl : (dol rr).length <= 1 := by cases rr <;> simp [dol]
    refine fn_of0 (E := E214 (dol rc ++ (L ++ (dol rr ++ D))) (L ++ (dol rr ++ D)) (dol rr ++ D) (dol rr ++ D) D (L ++ D) (!rc) (!rr) True r c row col ⟨relR rr r row, relC rc c col, rr, rc⟩) (envOK ⟨noCall_ok, trivial⟩
      ⟨callG_ok fun _ Φ h => go150 _ _ Φ (by rw [e1]; exact h), callG_ok fun _ Φ h => go224 lb.a140 _ Φ (by rw [e2]; exact h), callG_ok fun _ Φ h => go150 _ _ Φ (by rw [e3]; exact h), callG_ok fun _ Φ h' => go225 lb.ix D (by omega) ?_ Φ ?_, callG_ok fun _ => go226 h, callG_ok fun _ Φ h' => go227 r c row col _ _ ⟨by omega, by omega⟩ ⟨by omega, by omega⟩ h3 h4 Φ ?_, trivial⟩ trivial) rfl ?_
    · exact asc_of (L := []) rfl h.dd
    · rw [idx_none 0 h.dd]; exact h'
    · rw [Bool.not_not, Bool.not_not]; exact h'
    · rw [vc214]
      have t0 : ((L ++ (dol rr ++ D)).length : Int) - ((dol rr ++ D).length : Int) = (L.length : Int) := by simp
      rw [t0]
      have t1 : Int.toNat (L.length : Int) = L.length := by omega
      have t2 : List.drop L.length (List.take (L ++ (dol rr ++ D)).length (L ++ (dol rr ++ D))) = dol rr ++ D := by rw [List.take_length]; simp
      have t3 : List.drop 0 (List.take L.length (L ++ (dol rr ++ D))) = L := by simp
      rw [t1, t2, t3]
      have d0 : decide ((0 : Int) <= (L.length : Int)) = true := decide_eq_true (by omega)
      have d1 : decide (L.length <= (L ++ (dol rr ++ D)).length) = true := decide_eq_true (by simp)
      refine ⟨trivial, rfl, trivial, rfl, obB_of (inR64 (by omega)) (obB_of d0 (obB_of d1 (brB_of (fun _ => ⟨trivial, rfl, trivial, rfl, obB_of d0 (obB_of d1 (obB_of (decide_eq_true (by omega)) ⟨trivial, rfl, trivial, rfl, hΦ⟩))⟩) fun h0 => ?_)))⟩
      have := of_decide_eq_false h0
      omega
theorem go184 (n : Nat) (hn : n <= 100000) (Φ : DV -> List Blk -> Prop) (hΦ : Φ (.tup [.int .i64 n, .bool true]) []) : GoC cfg Pr Ow 184 [.str (Lib.decDigits n)] [] Φ := by
  refine fn_of0 (E := E184 (Lib.decDigits n) (Lib.decDigits n) n) (envOK ⟨callG_ok fun _ => lb.pi n hn, callG_ok fun _ => lb.fi n hn, trivial⟩ trivial trivial) rfl ?_
  rw [vc184]
  refine ⟨trivial, rfl, trivial, rfl, brB_of (fun h => ?_) fun _ => brB_of (fun h => ?_) fun _ => brB_of (fun h => ?_) fun _ => hΦ⟩
  · simp at h
  · have := of_decide_eq_true h; omega
  · have := of_decide_eq_true h; omega
theorem go186c {row col : Int} (h3 : farI row) (h4 : farI col) {w : List UInt8} {A : Rf} (h : RefW row col w A) (s : List UInt8) (hs : s.length <= 4000000000) (p p1 : Nat) (hp' : p <= s.length) (q k ar sh : Int) (hsg : signF s p [58] = (false, p1))
    (Φ : DV -> List Blk -> Prop) (hΦ : Φ (Tr.mk k v0 A r0 sh 0 []).dv [rdr s row col p1 0 0]) : GoC cfg Pr Ow 186 [.ptr 56 6 0 0, .int .i64 q, .str w, .int .i64 k, .int .i64 ar, .int .i64 sh] [rdr s row col p 0 0] Φ := by
  refine go_wk (WkL.refl _) (fn_of0 (E := E186 s row col p p1 p1 p1 q q w w false A A) (envOK ⟨noCall_ok, trivial⟩ ⟨callE_ok fun _ => go214 lb h3 h4 h s p q, sign_ok s row col hs hp' (by simp) hsg, callE_ok (fun h => by cases h), callE_ok (fun h => by cases h), callE_ok (fun h => by cases h), trivial⟩ trivial) rfl ?_)
  rw [vc186]
  exact ⟨⟨trivial, rfl, rfl⟩, ⟨trivial, rfl, rfl⟩, _, .inr (wk_cells (Tr.mk k v0 A r0 sh 0 []) 18), hΦ⟩
theorem go186a {row col : Int} (h3 : farI row) (h4 : farI col) {w w2 : List UInt8} {A B : Rf} (h : RefW row col w A) (h2 : RefW row col w2 B) (hw2 : w2 ≠ []) (s : List UInt8) (hs : s.length <= 4000000000) (p p1 p2 p3 : Nat) (hp' : p <= s.length) (q k ar sh : Int) (hsg : signF s p [58] = (true, p1))
    (hb : blN s p1 = p2) (hwd : ∀ Φ : DV -> List Blk -> Prop, Φ (.str w2) [rdr s row col p3 0 0] -> GoC cfg Pr Ow 180 [.ptr 39 6 0 0] [rdr s row col p2 0 0] Φ)
    (Φ : DV -> List Blk -> Prop) (hΦ : Φ (Tr.mk ar v0 A B sh 0 []).dv [rdr s row col p3 0 0]) : GoC cfg Pr Ow 186 [.ptr 56 6 0 0, .int .i64 q, .str w, .int .i64 k, .int .i64 ar, .int .i64 sh] [rdr s row col p 0 0] Φ := by
  refine go_wk (WkL.refl _) (fn_of0 (E := E186 s row col p p1 p2 p3 q p2 w w2 true A B) (envOK ⟨noCall_ok, trivial⟩ ⟨callE_ok fun _ => go214 lb h3 h4 h s p q, sign_ok s row col hs hp' (by simp) hsg, callE_ok fun _ Φ hΦ => go36 s hs row col 0 0 p1 Φ (by rw [hb]; exact hΦ), callE_ok fun _ => hwd, callE_ok fun _ => go214 lb h3 h4 h2 s p3 p2, trivial⟩ trivial) rfl ?_)
  rw [vc186]
  refine ⟨⟨trivial, rfl, rfl⟩, ⟨trivial, rfl, rfl⟩, ⟨rfl, rfl, rfl⟩, ⟨rfl, rfl, rfl⟩, brB_of (fun h0 => ?_) fun _ => ⟨⟨rfl, rfl, rfl⟩, _, .inr (wk_cells (Tr.mk ar v0 A B sh 0 []) 18), hΦ⟩⟩
  have : w2 = [] := by simpa using h0
  exact hw2 this
end
end Go.Det.Sea
end
