/- TextMovesCardSaid: part 10 of the texts behind it: Pl2, Pl3, Hp1, ShC. No premise of its own. -/
import Derived.Test.YtpfjeinhmmmhkaaGreatDoorD9
import Derived.Lib.ItoaNum
import Derived.Lib.ParseIntB
import Derived.Lib.Repeat
import Derived.Shelf.Unicode.ValidAny
import Derived.Lib.LaidU8T
import Derived.Test.YtpfjeinhmmmhkaaGreatDoorProg
set_option linter.all false
section
namespace Go.Det.Sea
open Go Go.Det
theorem vlEq_eq {a b : Vl} (h : vlEq a b = true) : a = b := by
  obtain ⟨a1, a2, a3, a4, a5, a6⟩ := a
  obtain ⟨b1, b2, b3, b4, b5, b6⟩ := b
  simp only [vlEq, Bool.and_eq_true, beq_iff_eq, and_true] at h
  obtain ⟨rfl, ⟨rfl, rfl⟩, rfl, rfl, rfl⟩ := h
  rfl
theorem rfEq_eq {a b : Rf} (h : rfEq a b = true) : a = b := by
  obtain ⟨a1, a2, a3, a4⟩ := a
  obtain ⟨b1, b2, b3, b4⟩ := b
  simp only [rfEq, Bool.and_eq_true, beq_iff_eq, and_true] at h
  obtain ⟨rfl, rfl, rfl, rfl⟩ := h
  rfl
theorem alone_eq {o t : Tr} (h : aloneB o t = true) : o.v = t.v /\ o.a = t.a /\ o.b = t.b /\ o.sheet = t.sheet /\ o.op = t.op /\ o.kids.length = t.kids.length := by
  simp only [aloneB, Bool.and_eq_true, beq_iff_eq, and_true] at h
  obtain ⟨⟨⟨⟨h1, h2, h3⟩, h4⟩, h5⟩, h6⟩ := h
  exact ⟨vlEq_eq h1, rfEq_eq h2, rfEq_eq h3, h4, h5, by omega⟩
theorem part_split {uE : List UInt8 -> Int} {t : Tr} (h : partE uE t = 0) : (1 <= t.kind /\ t.kind <= 10) /\ aloneB (ownT t) t = true /\ (t.kind = 1 -> valE uE t.v = 0 /\ t.v.kind ≠ 0) /\ areaE t.a t.b = 0 /\ (0 <= t.sheet /\ t.sheet <= 7) /\ countsB t = true := by
  unfold partE at h
  cases h1 : withinB t.kind 1 10 with
  | false => rw [h1] at h; simp at h
  | true =>
    cases h2 : aloneB (ownT t) t with
    | false => rw [h1, h2] at h; simp at h
    | true =>
      simp only [h1, h2, Bool.not_true, cond_false] at h
      have hr : restE t = 0 -> areaE t.a t.b = 0 /\ (0 <= t.sheet /\ t.sheet <= 7) /\ countsB t = true := by
        intro h
        unfold restE at h
        cases h3 : areaE t.a t.b != 0 with
        | true => rw [h3] at h; simp only [cond_true] at h; simp [h] at h3
        | false =>
          simp only [h3, cond_false] at h
          cases h4 : withinB t.sheet 0 7 with
          | false => rw [h4] at h; simp at h
          | true =>
            simp only [h4, Bool.not_true, cond_false] at h
            cases h5 : countsB t with
            | false => rw [h5] at h; simp at h
            | true =>
              simp only [withinB, Bool.and_eq_true, decide_eq_true_eq] at h4
              exact ⟨by simpa using h3, h4, rfl⟩
      simp only [withinB, Bool.and_eq_true, decide_eq_true_eq] at h1
      cases h3 : t.kind == 1 with
      | false =>
        simp only [h3, cond_false] at h
        exact ⟨h1, rfl, fun hk => (by simp [hk] at h3), hr h⟩
      | true =>
        simp only [h3, cond_true] at h
        cases h4 : valE uE t.v != 0 with
        | true => rw [h4] at h; simp only [cond_true] at h; simp [h] at h4
        | false =>
          simp only [h4, cond_false] at h
          cases h5 : t.v.kind == 0 with
          | true => rw [h5] at h; simp at h
          | false =>
            simp only [h5, cond_false] at h
            exact ⟨h1, rfl, fun _ => ⟨by simpa using h4, by simpa using h5⟩, hr h⟩
mutual
def okT (uE : List UInt8 -> Int) : Tr -> Prop
  | .mk k v a b s o ks => partE uE (.mk k v a b s o ks) = 0 /\ okTs uE ks
def okTs (uE : List UInt8 -> Int) : List Tr -> Prop
  | [] => True
  | t :: l => okT uE t /\ okTs uE l
end
theorem okTs_mem {uE : List UInt8 -> Int} : ∀ {l : List Tr} {t : Tr}, okTs uE l -> t ∈ l -> okT uE t
  | x :: l, t, h, hm => by
    simp only [okTs] at h
    simp only [List.mem_cons] at hm
    rcases hm with rfl | hm
    · exact h.1
    · exact okTs_mem h.2 hm
theorem firstE_mem {uE : List UInt8 -> Int} : ∀ {l : List (Tr × Int)}, firstE uE l = 0 -> ∀ p ∈ l, partE uE p.1 = 0
  | [], _, p, hp => by cases hp
  | q :: l, h, p, hp => by
    simp only [firstE] at h
    cases h1 : partE uE q.1 != 0 with
    | true => rw [h1] at h; simp only [cond_true] at h; simp [h] at h1
    | false =>
      rw [h1] at h
      simp only [cond_false] at h
      simp only [List.mem_cons] at hp
      rcases hp with rfl | hp
      · simpa using h1
      · exact firstE_mem h p hp
mutual
theorem okT_of_pre {uE : List UInt8 -> Int} : ∀ (t : Tr) (d : Int), (∀ p ∈ t.pre d, partE uE p.1 = 0) -> okT uE t
  | .mk k v a b s o ks, d, h => by
    simp only [Tr.pre] at h
    exact ⟨h (.mk k v a b s o ks, d) (by simp), okTs_of_pre ks (d + 1) fun p hp => h p (by simp [hp])⟩
theorem okTs_of_pre {uE : List UInt8 -> Int} : ∀ (l : List Tr) (d : Int), (∀ p ∈ Tr.pres l d, partE uE p.1 = 0) -> okTs uE l
  | [], d, h => trivial
  | t :: l, d, h => by
    simp only [Tr.pres] at h
    exact ⟨okT_of_pre t d fun p hp => h p (by simp [hp]), okTs_of_pre l d fun p hp => h p (by simp [hp])⟩
end
theorem checkE_split {uE : List UInt8 -> Int} {t : Tr} (h : checkE uE t = 0) : ((t.pre 1).any (fun p => decide (p.2 > 16)) = false) /\ (t.pre 1).length <= 1024 /\ firstE uE (t.pre 1) = 0 := by
  unfold checkE at h
  cases h1 : (t.pre 1).any (fun p => decide (p.2 > 16)) with
  | true => rw [h1] at h; simp at h
  | false =>
    rw [h1] at h
    simp only [cond_false] at h
    cases h2 : decide (((t.pre 1).length : Int) > 1024) with
    | true => rw [h2] at h; simp at h
    | false =>
      rw [h2] at h
      have := of_decide_eq_false h2
      exact ⟨rfl, by omega, h⟩
theorem okT_of_check {uE : List UInt8 -> Int} {t : Tr} (h : checkE uE t = 0) : okT uE t := okT_of_pre t 1 (firstE_mem (checkE_split h).2.2)
def colT (c : Int) : List UInt8 := let n := c.toNat
  bif decide (n < 26) then [UInt8.ofNat (65 + n)] else [UInt8.ofNat (65 + (n / 26 - 1)), UInt8.ofNat (65 + n % 26)]
def atR (r : Rf) (row : Int) : Int := bif r.rr then (r.row % 65536 + row % 65536) % 65536 else r.row % 65536
def atC (r : Rf) (col : Int) : Int := bif r.rc then (r.col % 256 + col % 256) % 256 else r.col % 256
def dol (b : Bool) : List UInt8 := bif b then [] else [36]
def placeT (row col : Int) (r : Rf) : List UInt8 := dol r.rc ++ (colT (atC r col) ++ (dol r.rr ++ Lib.decDigits ((atR r row).toNat + 1)))
def dbl : List UInt8 -> List UInt8
  | [] => []
  | x :: l => bif Nat.beq x.toNat 34 then 34 :: 34 :: dbl l else x :: dbl l
def padT (n k : Nat) : List UInt8 := let d := Lib.decDigits n
  List.replicate (k + 1 - d.length) 48 ++ d
def uDecT (n k : Nat) : List UInt8 := bif decide (0 < k) then (padT n k).take ((padT n k).length - k) ++ 46 :: (padT n k).drop ((padT n k).length - k) else Lib.decDigits n
def decT (m s : Int) : List UInt8 := bif decide (m < 0) then 45 :: uDecT m.natAbs s.toNat else uDecT m.natAbs s.toNat
def truT (b : Bool) : List UInt8 := bif b then [84, 82, 85, 69] else [70, 65, 76, 83, 69]
def valT (v : Vl) : List UInt8 := bif v.kind == 1 then decT v.m v.s else bif v.kind == 2 then v.txt else bif v.kind == 3 then truT v.b else bif v.kind == 4 then nameF v.e else []
def constT (v : Vl) : List UInt8 := bif v.kind == 2 then 34 :: (dbl v.txt ++ [34]) else valT v
def sheetT (k sh : Int) : List UInt8 := bif k == 4 || k == 5 then 83 :: (Lib.itoa (sh + 1) ++ [33]) else []
def bindI (t : Tr) : Int := bif t.kind == 8 then bindsI t.op else bif t.kind == 7 && t.op == 3 then 7 else bif t.kind == 7 || (t.kind == 1 && t.v.kind == 1 && decide (t.v.m < 0)) then 6 else 8
def fnL : List (List UInt8) := [[83, 85, 77], [77, 73, 78], [77, 65, 88], [67, 79, 85, 78, 84], [65, 86, 69, 82, 65, 71, 69], [65, 66, 83], [83, 73, 71, 78], [73, 78, 84], [77, 79, 68], [82, 79, 85, 78, 68], [73, 70], [65, 78, 68], [79, 82], [78, 79, 84], [76, 69, 78], [76, 69, 70, 84], [82, 73, 71, 72, 84], [77, 73, 68], [67, 79, 78, 67, 65, 84], [85, 80, 80, 69, 82], [76, 79, 87, 69, 82], [73, 83, 66, 76, 65, 78, 75], [73, 83, 69, 82, 82, 79, 82], [73, 70, 69, 82, 82, 79, 82], [73, 78, 68, 69, 88], [67, 72, 79, 79, 83, 69], [69, 88, 65, 67, 84], [82, 69, 80, 84], [78, 65], [84, 89, 80, 69]]
def fnNm (i : Nat) : List UInt8 := fnL.getD i []
def wrapT (k : Tr) (t : List UInt8) (w : Int) : List UInt8 := bif decide (bindI k < w) then 40 :: (t ++ [41]) else t
def wrapB (k : Tr) (t : Tr) (w : Int) : Tr := bif decide (bindI k < w) then paT t else t
def leftI (o : Int) : Int := bif bindsI o == 5 then 6 else bindsI o
mutual
def toldT (row col : Int) : Tr -> List UInt8
  | .mk k v a b sh op ks =>
    let ts := toldTs row col ks
    bif k == 1 then constT v else
    bif k == 2 || k == 4 then sheetT k sh ++ placeT row col a else
    bif k == 3 || k == 5 then sheetT k sh ++ (placeT row col a ++ 58 :: placeT row col b) else
    bif k == 6 then 78 :: (Lib.itoa op ++ [39]) else
    bif k == 7 then (bif op == 3 then wrapT (ks.getD 0 default) (ts.getD 0 []) 7 ++ [37] else (bif op == 1 then 45 else 43) :: wrapT (ks.getD 0 default) (ts.getD 0 []) 6) else
    bif k == 8 then wrapT (ks.getD 0 default) (ts.getD 0 []) (leftI op) ++ (sgn (op.toNat - 1) ++ wrapT (ks.getD 1 default) (ts.getD 1 []) (bindsI op + 1)) else
    bif k == 9 then fnNm op.toNat ++ (40 :: (comma ts ++ [41])) else
    40 :: (ts.getD 0 [] ++ [41])
def toldTs (row col : Int) : List Tr -> List (List UInt8)
  | [] => []
  | t :: l => toldT row col t :: toldTs row col l
end
mutual
def brT : Tr -> Tr
  | .mk k v a b sh op ks =>
    let ts := brTs ks
    bif k == 1 then (bif v.kind == 1 && decide (v.m < 0) then unT 1 (cNum (-v.m) v.s) else .mk k v a b sh op ks) else
    bif decide (k <= 6) then .mk k v a b sh op ks else
    bif k == 7 then (bif op == 3 then unT 3 (wrapB (ks.getD 0 default) (ts.getD 0 default) 7) else unT op (wrapB (ks.getD 0 default) (ts.getD 0 default) 6)) else
    bif k == 8 then biT op (wrapB (ks.getD 0 default) (ts.getD 0 default) (leftI op)) (wrapB (ks.getD 1 default) (ts.getD 1 default) (bindsI op + 1)) else
    bif k == 9 then caT op ts else
    paT (ts.getD 0 default)
def brTs : List Tr -> List Tr
  | [] => []
  | t :: l => brT t :: brTs l
end
theorem toldTs_eq (row col : Int) : ∀ l : List Tr, toldTs row col l = l.map (toldT row col)
  | [] => rfl
  | t :: l => by simp [toldTs, toldTs_eq row col l]
theorem brTs_eq : ∀ l : List Tr, brTs l = l.map brT
  | [] => rfl
  | t :: l => by simp [brTs, brTs_eq l]
def cStr (x : List UInt8) : Tr := .mk 1 ⟨2, 0, 0, x, false, 0⟩ r0 r0 0 0 []
def cTru (b : Bool) : Tr := .mk 1 ⟨3, 0, 0, [], b, 0⟩ r0 r0 0 0 []
def cFlt (e : Int) : Tr := .mk 1 ⟨4, 0, 0, [], false, e⟩ r0 r0 0 0 []
def isDig (x : UInt8) : Bool := Nat.ble 48 x.toNat && Nat.ble x.toNat 57
def isLet (x : UInt8) : Bool := Nat.ble 65 x.toNat && Nat.ble x.toNat 90
def ptT (bh : List UInt8) : List UInt8 := match bh with
  | [] => []
  | _ :: _ => 46 :: bh
def valD (l : List UInt8) : Nat := l.foldl (fun a x => a * 10 + (x.toNat - 48)) 0
structure NumOK (wh bh : List UInt8) : Prop where
  w0 : wh ≠ []
  wd : wh.all isDig = true
  bd : bh.all isDig = true
  lead : wh.length > 1 -> (wh.getD 0 0).toNat ≠ 48
  last : ∀ x, bh.getLast? = some x -> x.toNat ≠ 48
  blen : bh.length <= 9
  small : valD (wh ++ bh) < 9223372036854775808
structure RefOK (L D : List UInt8) (r c : Int) : Prop where
  l0 : L ≠ []
  ll : L.all isLet = true
  d0 : D ≠ []
  dd : D.all isDig = true
  lead : (D.getD 0 0).toNat ≠ 48
  len : L.length + D.length <= 8
  col : L.foldl (fun a x => a * 26 + (x.toNat - 64)) 0 = c.toNat + 1
  row : valD D = r.toNat + 1
  good : goodB r c = true
def relR (rr : Bool) (r row : Int) : Int := bif rr then (r % 65536 - row % 65536) % 65536 else r % 65536
def relC (rc : Bool) (c col : Int) : Int := bif rc then (c % 256 - col % 256) % 256 else c % 256
inductive RefW (row col : Int) : List UInt8 -> Rf -> Prop where
  | mk {L D : List UInt8} {r c : Int} {rr rc : Bool} : RefOK L D r c -> RefW row col (dol rc ++ (L ++ (dol rr ++ D))) ⟨relR rr r row, relC rc c col, rr, rc⟩
inductive LeafT (row col : Int) (uE : List UInt8 -> Int) : List UInt8 -> Tr -> Prop where
  | num {wh bh : List UInt8} : NumOK wh bh -> LeafT row col uE (wh ++ ptT bh) (cNum (valD (wh ++ bh)) bh.length)
  | str {x : List UInt8} : uE x = 0 -> x.length <= 3000 -> LeafT row col uE (34 :: (dbl x ++ [34])) (cStr x)
  | flt {i : Nat} : i < 7 -> LeafT row col uE (nameF ([0, 7, 15, 23, 29, 36, 42].getD i 0)) (cFlt ([0, 7, 15, 23, 29, 36, 42].getD i 0))
  | tru (b : Bool) : LeafT row col uE (truT b) (cTru b)
  | name {n : Nat} : n <= 1023 -> LeafT row col uE (78 :: (Lib.decDigits n ++ [39])) (.mk 6 v0 r0 r0 0 n [])
  | cell {w : List UInt8} {R : Rf} : RefW row col w R -> LeafT row col uE w (.mk 2 v0 R r0 0 0 [])
  | area {w w2 : List UInt8} {R R2 : Rf} : RefW row col w R -> RefW row col w2 R2 -> LeafT row col uE (w ++ 58 :: w2) (.mk 3 v0 R R2 0 0 [])
  | scell {n : Nat} {w : List UInt8} {R : Rf} : n <= 7 -> RefW row col w R -> LeafT row col uE (83 :: (Lib.decDigits (n + 1) ++ 33 :: w)) (.mk 4 v0 R r0 n 0 [])
  | sarea {n : Nat} {w w2 : List UInt8} {R R2 : Rf} : n <= 7 -> RefW row col w R -> RefW row col w2 R2 -> LeafT row col uE (83 :: (Lib.decDigits (n + 1) ++ 33 :: (w ++ 58 :: w2))) (.mk 5 v0 R R2 n 0 [])
def isPl (t : Tr) : Bool := t.kind == 2 || t.kind == 4
def leafG (s : List UInt8) (row col : Int) (uE : List UInt8 -> Int) (q : Nat) (t : Tr) (p2 : Nat) : Prop := ∃ T rest, s.drop q = T ++ rest /\ stopW rest = true /\ p2 = (bif isPl t then blN s (q + T.length) else q + T.length) /\ LeafT row col uE T t
def headG (s : List UInt8) (q : Nat) (op : Int) (p1 : Nat) : Prop := ∃ (i : Nat) (rest : List UInt8), i < 30 /\ s.drop q = fnNm i ++ (40 :: rest) /\ op = i /\ p1 = q + (fnNm i).length
end Go.Det.Sea
end

section
namespace Go.Det.Sea
open Go Go.Det
theorem dig_of {n : Nat} (h : n < 10) : isDig (UInt8.ofNat (48 + n)) = true /\ (UInt8.ofNat (48 + n)).toNat = 48 + n := by
  have : (UInt8.ofNat (48 + n)).toNat = 48 + n := by simp; omega
  refine ⟨?_, this⟩
  unfold isDig
  rw [this, Bool.and_eq_true]
  exact ⟨Nat.ble_eq_true_of_le (by omega), Nat.ble_eq_true_of_le (by omega)⟩
theorem isDig_at {x : UInt8} (h : isDig x = true) : 48 <= x.toNat /\ x.toNat <= 57 := by
  unfold isDig at h
  rw [Bool.and_eq_true] at h
  exact ⟨Nat.le_of_ble_eq_true h.1, Nat.le_of_ble_eq_true h.2⟩
theorem isLet_at {x : UInt8} (h : isLet x = true) : 65 <= x.toNat /\ x.toNat <= 90 := by
  unfold isLet at h
  rw [Bool.and_eq_true] at h
  exact ⟨Nat.le_of_ble_eq_true h.1, Nat.le_of_ble_eq_true h.2⟩
theorem valD_app (a b : List UInt8) : valD (a ++ b) = b.foldl (fun a x => a * 10 + (x.toNat - 48)) (valD a) := by
  unfold valD; rw [List.foldl_append]
theorem valD_snoc (a : List UInt8) (x : UInt8) : valD (a ++ [x]) = valD a * 10 + (x.toNat - 48) := by
  rw [valD_app]; rfl
theorem dec_big {n : Nat} (h : ¬ n < 10) : Lib.decDigits n = Lib.decDigits (n / 10) ++ [UInt8.ofNat (48 + n % 10)] := by rw [Lib.decDigits, dif_neg h]
theorem dec_dig (n : Nat) : (Lib.decDigits n).all isDig = true := by
  induction n using Nat.strongRecOn with
  | _ n ih =>
    by_cases h : n < 10
    · rw [Lib.decDigits_one h]; simp only [List.all_cons, List.all_nil, Bool.and_true]; exact (dig_of h).1
    · rw [dec_big h, List.all_append, ih (n / 10) (by omega)]
      simp only [List.all_cons, List.all_nil, Bool.and_true, Bool.true_and]; exact (dig_of (n := n % 10) (by omega)).1
theorem dec_val (n : Nat) : valD (Lib.decDigits n) = n := by
  induction n using Nat.strongRecOn with
  | _ n ih =>
    by_cases h : n < 10
    · rw [Lib.decDigits_one h]
      show 0 * 10 + ((UInt8.ofNat (48 + n)).toNat - 48) = n
      rw [(dig_of h).2]; omega
    · rw [dec_big h, valD_snoc, ih (n / 10) (by omega), (dig_of (n := n % 10) (by omega)).2]; omega
theorem dec_ne (n : Nat) : Lib.decDigits n ≠ [] := by
  intro h
  have := Lib.decDigits_length n
  rw [h] at this
  have := Lib.nDigits_pos n
  simp at *; omega
theorem dec_last (n : Nat) : (Lib.decDigits n).getLast? = some (UInt8.ofNat (48 + n % 10)) := by
  by_cases h : n < 10
  · rw [Lib.decDigits_one h, Nat.mod_eq_of_lt h]; rfl
  · rw [dec_big h]; simp
theorem getD_app {a b : List UInt8} (h : a ≠ []) : (a ++ b).getD 0 0 = a.getD 0 0 := by
  cases a with
  | nil => exact absurd rfl h
  | cons x l => rfl
theorem dec_lead (n : Nat) : 0 < n -> ((Lib.decDigits n).getD 0 0).toNat ≠ 48 := by
  induction n using Nat.strongRecOn with
  | _ n ih =>
    intro h0
    by_cases h : n < 10
    · rw [Lib.decDigits_one h]
      show (UInt8.ofNat (48 + n)).toNat ≠ 48
      rw [(dig_of h).2]; omega
    · rw [dec_big h, getD_app (dec_ne _)]
      exact ih (n / 10) (by omega) (by omega)
theorem dec_len_le {n k : Nat} (h : n < 10 ^ k) (hk : 1 <= k) : (Lib.decDigits n).length <= k := by
  rw [Lib.decDigits_length]
  induction k generalizing n with
  | zero => omega
  | succ k ih =>
    by_cases h' : n < 10
    · rw [Lib.nDigits_small h']; omega
    · rw [Lib.nDigits_big h']
      by_cases hk' : 1 <= k
      · have := ih (n := n / 10) (by rw [Nat.pow_succ] at h; omega) hk'
        omega
      · obtain rfl : k = 0 := by omega
        simp at h; omega
theorem pad_len (n k : Nat) : k + 1 <= (padT n k).length /\ (k + 1 <= (Lib.decDigits n).length -> padT n k = Lib.decDigits n) /\ ((Lib.decDigits n).length <= k + 1 -> (padT n k).length = k + 1) := by
  unfold padT
  simp only [List.length_append, List.length_replicate]
  refine ⟨by omega, fun h => ?_, fun h => by omega⟩
  rw [show k + 1 - (Lib.decDigits n).length = 0 by omega]; rfl
theorem val_zeros : ∀ (j : Nat), valD (List.replicate j 48) = 0
  | 0 => rfl
  | j + 1 => by rw [List.replicate_succ', valD_snoc, val_zeros j]; rfl
theorem foldl_val : ∀ (l : List UInt8) (a : Nat), l.foldl (fun a x => a * 10 + (x.toNat - 48)) a = a * 10 ^ l.length + valD l
  | [], a => by simp [valD]
  | x :: l, a => by
    unfold valD
    simp only [List.foldl_cons, List.length_cons]
    rw [foldl_val l, foldl_val l (0 * 10 + (x.toNat - 48)), Nat.pow_succ, Nat.zero_mul, Nat.zero_add]
    have : (a * 10 + (x.toNat - 48)) * 10 ^ l.length = a * (10 ^ l.length * 10) + (x.toNat - 48) * 10 ^ l.length := by
      rw [Nat.add_mul, Nat.mul_assoc, Nat.mul_comm 10]
    omega
theorem pad_val (n k : Nat) : valD (padT n k) = n := by
  unfold padT
  simp only
  rw [valD_app, val_zeros, foldl_val, dec_val]; omega
theorem pad_dig (n k : Nat) : (padT n k).all isDig = true := by
  unfold padT
  simp only
  rw [List.all_append, dec_dig, Bool.and_true, List.all_eq_true]
  intro x hx
  rw [List.mem_replicate] at hx
  rw [hx.2]; rfl
theorem pad_last (n k : Nat) : (padT n k).getLast? = some (UInt8.ofNat (48 + n % 10)) := by
  unfold padT
  simp only
  rw [List.getLast?_append, dec_last]; rfl
theorem all_take {p : UInt8 -> Bool} {l : List UInt8} (h : l.all p = true) (k : Nat) : (l.take k).all p = true /\ (l.drop k).all p = true := by
  rw [List.all_eq_true] at h
  exact ⟨by rw [List.all_eq_true]; exact fun x hx => h x (List.mem_of_mem_take hx), by rw [List.all_eq_true]; exact fun x hx => h x (List.mem_of_mem_drop hx)⟩
theorem uDec_ok {n k : Nat} (hk : k <= 9) (hn : n < 9223372036854775808) (h10 : 0 < k -> n % 10 ≠ 0) : ∃ wh bh, uDecT n k = wh ++ ptT bh /\ NumOK wh bh /\ valD (wh ++ bh) = n /\ bh.length = k := by
  by_cases h0 : 0 < k
  · obtain ⟨p1, p2, p3⟩ := pad_len n k
    have hb : ((padT n k).drop ((padT n k).length - k)).length = k := by rw [List.length_drop]; omega
    refine ⟨(padT n k).take ((padT n k).length - k), (padT n k).drop ((padT n k).length - k), ?_, ⟨?_, (all_take (pad_dig n k) _).1, (all_take (pad_dig n k) _).2, ?_, ?_, by omega, ?_⟩, ?_, hb⟩
    · unfold uDecT
      rw [decide_eq_true h0]
      cases hd : (padT n k).drop ((padT n k).length - k) with
      | nil => rw [hd] at hb; simp at hb; omega
      | cons x l => rfl
    · intro h
      have : ((padT n k).take ((padT n k).length - k)).length = 0 := by rw [h]; rfl
      rw [List.length_take] at this; omega
    · intro hl
      rw [List.length_take] at hl
      by_cases hq : k + 1 <= (Lib.decDigits n).length
      · rw [p2 hq] at hl ⊢
        have hnn : 0 < n := by
          refine Decidable.byContradiction fun h => ?_
          obtain rfl : n = 0 := by omega
          rw [Lib.decDigits_one (by omega)] at hq
          simp at hq; omega
        have := dec_lead n hnn
        cases hd : Lib.decDigits n with
        | nil => exact absurd hd (dec_ne n)
        | cons x l =>
          rw [hd] at this hl
          rw [show (x :: l).length - k = ((x :: l).length - k - 1) + 1 by omega]
          exact this
      · have := p3 (by omega)
        omega
    · intro x hx
      have hne : (padT n k).drop ((padT n k).length - k) ≠ [] := by intro h; rw [h] at hb; simp at hb; omega
      have : (padT n k).getLast? = some x := by
        conv => lhs; rw [← List.take_append_drop ((padT n k).length - k) (padT n k)]
        rw [List.getLast?_append, hx]; rfl
      rw [pad_last] at this
      cases this
      rw [(dig_of (n := n % 10) (by omega)).2]
      have := h10 h0
      omega
    · rw [List.take_append_drop, pad_val]; exact hn
    · rw [List.take_append_drop, pad_val]
  · obtain rfl : k = 0 := by omega
    refine ⟨Lib.decDigits n, [], ?_, ⟨dec_ne n, dec_dig n, rfl, ?_, fun x hx => (by cases hx), (by simp), ?_⟩, ?_, rfl⟩
    · unfold uDecT; simp [ptT]
    · intro hl
      refine dec_lead n (Decidable.byContradiction fun h => ?_)
      obtain rfl : n = 0 := by omega
      rw [Lib.decDigits_one (by omega)] at hl
      simp at hl
    · rw [List.append_nil, dec_val]; exact hn
    · rw [List.append_nil, dec_val]
theorem place_both (row col : Int) {r : Rf} (h : refE r = 0) : RefW row col (placeT row col r) r /\ RefOK (colT (atC r col)) (Lib.decDigits ((atR r row).toNat + 1)) (atR r row) (atC r col) := by
  unfold refE at h
  cases hg : goodB r.row r.col with
  | false => rw [hg] at h; simp at h
  | true =>
    have hg' := hg
    simp only [goodB, Bool.and_eq_true, decide_eq_true_eq] at hg
    obtain ⟨⟨⟨g1, g2⟩, g3⟩, g4⟩ := hg
    have hR : 0 <= atR r row /\ atR r row < 65536 := by unfold atR; cases r.rr <;> simp only [cond_true, cond_false] <;> omega
    have hC : 0 <= atC r col /\ atC r col < 256 := by unfold atC; cases r.rc <;> simp only [cond_true, cond_false] <;> omega
    have e : r = ⟨relR r.rr (atR r row) row, relC r.rc (atC r col) col, r.rr, r.rc⟩ := by
      have e1 : relR r.rr (atR r row) row = r.row := by unfold relR atR; cases r.rr <;> simp only [cond_true, cond_false] <;> omega
      have e2 : relC r.rc (atC r col) col = r.col := by unfold relC atC; cases r.rc <;> simp only [cond_true, cond_false] <;> omega
      rw [e1, e2]
    have key : RefOK (colT (atC r col)) (Lib.decDigits ((atR r row).toNat + 1)) (atR r row) (atC r col) := by
      have hlen : (Lib.decDigits ((atR r row).toNat + 1)).length <= 5 := dec_len_le (k := 5) (by omega) (by omega)
      have hcl : (colT (atC r col)).length <= 2 := by
        unfold colT
        simp only
        cases decide ((atC r col).toNat < 26) <;> simp
      refine ⟨?_, ?_, dec_ne _, dec_dig _, dec_lead _ (by omega), by omega, ?_, dec_val _, ?_⟩
      · unfold colT
        simp only
        cases decide ((atC r col).toNat < 26) <;> simp
      · unfold colT
        simp only
        generalize hn : (atC r col).toNat = n
        have hn' : n < 256 := by omega
        have let_of : ∀ m, m < 26 -> isLet (UInt8.ofNat (65 + m)) = true := by
          intro m hm
          have : (UInt8.ofNat (65 + m)).toNat = 65 + m := by simp; omega
          unfold isLet
          rw [this, Bool.and_eq_true]
          exact ⟨Nat.ble_eq_true_of_le (by omega), Nat.ble_eq_true_of_le (by omega)⟩
        by_cases h26 : n < 26
        · rw [decide_eq_true h26]; simp only [cond_true, List.all_cons, List.all_nil, Bool.and_true]; exact let_of n h26
        · rw [decide_eq_false h26]; simp only [cond_false, List.all_cons, List.all_nil, Bool.and_true, Bool.and_eq_true]; exact ⟨let_of (n / 26 - 1) (by omega), let_of (n % 26) (by omega)⟩
      · unfold colT
        simp only
        generalize hn : (atC r col).toNat = n
        have hn' : n < 256 := by omega
        have tn : ∀ m, m < 26 -> (UInt8.ofNat (65 + m)).toNat = 65 + m := by intro m hm; simp; omega
        by_cases h26 : n < 26
        · rw [decide_eq_true h26]
          simp only [cond_true, List.foldl_cons, List.foldl_nil]
          rw [tn n h26]; omega
        · rw [decide_eq_false h26]
          simp only [cond_false, List.foldl_cons, List.foldl_nil]
          rw [tn (n / 26 - 1) (by omega), tn (n % 26) (by omega)]; omega
      · unfold goodB
        simp only [Bool.and_eq_true, decide_eq_true_eq]
        omega
    have := RefW.mk (row := row) (col := col) (rr := r.rr) (rc := r.rc) key
    rw [← e] at this
    exact ⟨this, key⟩
theorem place_ok (row col : Int) {r : Rf} (h : refE r = 0) : RefW row col (placeT row col r) r := (place_both row col h).1
theorem place_ref {row col : Int} {r : Rf} (h : refE r = 0) : RefOK (colT (atC r col)) (Lib.decDigits ((atR r row).toNat + 1)) (atR r row) (atC r col) := (place_both row col h).2
end Go.Det.Sea
end

section
namespace Go.Det.Sea
open Go Go.Det Go.Proofs
theorem rep_dbl : ∀ x : List UInt8, Lib.replaceK [34] [34, 34] (Lib.count x [34]) x = dbl x
  | [] => by
    have : Lib.index ([] : List UInt8) [34] = -1 := by simp [Lib.index]
    rw [Lib.count_miss this]; rfl
  | y :: l => by
    have ih := rep_dbl l
    by_cases hy : y = 34
    · subst hy
      have h0 : Lib.index (34 :: l : List UInt8) [34] = ((0 : Nat) : Int) := by simp [Lib.index]
      have hc := Lib.count_hit (sub := [34]) (by simp) h0
      simp only [List.length_cons, List.length_nil, Nat.zero_add, List.drop_succ_cons, List.drop_zero] at hc
      rw [hc, Nat.add_comm, Lib.replaceK_hit _ _ _ _ 0 h0]
      simp only [List.length_cons, List.length_nil, Nat.zero_add, List.drop_succ_cons, List.drop_zero, List.take_zero, List.nil_append]
      rw [ih]
      rfl
    · have hb : Nat.beq y.toNat 34 = false := by
        cases h : Nat.beq y.toNat 34 with
        | false => rfl
        | true => exact absurd (UInt8.toNat_inj.1 (Nat.eq_of_beq_eq_true h : y.toNat = (34 : UInt8).toNat)) hy
      have hd : dbl (y :: l) = y :: dbl l := by simp only [dbl, hb, cond_false]
      rw [hd, ← ih]
      have hi : Lib.index (y :: l) [34] = if Lib.index l [34] == -1 then -1 else Lib.index l [34] + 1 := by
        have : ¬ ((34 : UInt8) = y) := fun e => hy e.symm
        rw [Lib.index]; simp [this]
      by_cases hm : Lib.index l [34] = -1
      · have h1 : Lib.index (y :: l) [34] = -1 := by rw [hi, hm]; rfl
        rw [Lib.count_miss hm, Lib.count_miss h1]; rfl
      · have hge := Lib.index_ge l [34]
        obtain ⟨i, e⟩ : ∃ i : Nat, Lib.index l [34] = i := ⟨(Lib.index l [34]).toNat, by omega⟩
        have h1 : Lib.index (y :: l) [34] = ((i + 1 : Nat) : Int) := by
          rw [hi, if_neg (by simpa using hm), e]; rfl
        have c1 := Lib.count_hit (sub := [34]) (by simp) h1
        have c2 := Lib.count_hit (sub := [34]) (by simp) e
        simp only [List.length_cons, List.length_nil, Nat.zero_add, List.drop_succ_cons] at c1 c2
        rw [c1, ← c2, c2, Nat.add_comm, Lib.replaceK_hit _ _ _ _ _ h1, Lib.replaceK_hit _ _ _ _ _ e]
        simp
theorem rep_all (x : List UInt8) : Lib.replaceAll x [34] [34, 34] = dbl x := by
  have hn : ([34] == ([34, 34] : List UInt8)) = false := by decide
  unfold Lib.replaceAll Lib.replace
  rw [hn]
  have : Lib.replaceNum x [34] (-1) = Lib.count x [34] := by unfold Lib.replaceNum; rw [if_pos (.inl (by decide))]
  rw [this]
  exact rep_dbl x
theorem repeat_zero (k : Nat) : Lib.repeatL [48] k = List.replicate k 48 := by
  induction k with
  | zero => rfl
  | succ k ih => simp only [Lib.repeatL, ih, List.replicate_succ]; rfl
theorem fval_ge : ∀ (l : List UInt8) (a : Nat), a <= l.foldl (fun a x => a * 10 + (x.toNat - 48)) a
  | [], a => Nat.le_refl _
  | x :: l, a => by
    have := fval_ge l (a * 10 + (x.toNat - 48))
    simp only [List.foldl_cons]
    omega
theorem parseM : ∀ (l : List UInt8) (a : Nat), l.all isDig = true -> l.foldl (fun a x => a * 10 + (x.toNat - 48)) a <= 100000 -> Lib.parseUintM (2 ^ 64 - 1) a l = .ok (l.foldl (fun a x => a * 10 + (x.toNat - 48)) a)
  | [], a, _, _ => rfl
  | x :: l, a, h, hb => by
    simp only [List.all_cons, Bool.and_eq_true] at h
    have hx := isDig_at h.1
    have hge := fval_ge l (a * 10 + (x.toNat - 48))
    simp only [List.foldl_cons] at hb ⊢
    rw [Lib.parseUintM, if_pos ⟨by omega, by omega⟩, if_neg (by omega), if_neg (by omega)]
    exact parseM l _ h.2 hb
theorem parse_dec {n : Nat} (hn : n <= 100000) : Lib.parseIntB 64 (Lib.decDigits n) = .ok (n : Int) := by
  have hd := dec_dig n
  have hv := dec_val n
  have hne := dec_ne n
  generalize Lib.decDigits n = l at hd hv hne
  cases l with
  | nil => exact absurd rfl hne
  | cons c r =>
    have hc := isDig_at (by simp only [List.all_cons, Bool.and_eq_true] at hd; exact hd.1)
    have hm := parseM (c :: r) 0 hd (by unfold valD at hv; rw [hv]; exact hn)
    unfold valD at hv
    rw [hv] at hm
    have h1 : ¬ (c.toNat = 43 \/ c.toNat = 45) := by omega
    have h2 : ¬ (c.toNat = 45) := by omega
    have e : Lib.parseUintB 64 (c :: r) = .ok n := by unfold Lib.parseUintB; rw [if_neg (by simp)]; exact hm
    simp only [Lib.parseIntB, if_neg h1]
    rw [e]
    have hb : ¬ (2 ^ (64 - 1) <= n) := by omega
    simp [h2]
    omega
end Go.Det.Sea
end

section
namespace Go.Proofs
open Go.Shelf
def Tryz.laysValid_ren : Go.Shelf.Ren := ⟨fun | 196 => 155 | 259 => 192 | n => n, fun | 9 => 9 | 4 => 4 | 3 => 3 | 5 => 5 | 12 => 12 | 119 => 234 | 0 => 0 | 46 => 224 | 139 => 237 | 138 => 236 | 53 => 201 | n => n, fun | 3 => 0 | 4 => 1 | n => n⟩
theorem Tryz.laysValid : Go.Proofs.Lays.n196 Tryz.prog Tryz.laysValid_ren := {
  mixed := by kernel_rfl
  f196 := Tryz.func155.trans (congrArg some (by kernel_rfl))
  f259 := Tryz.func192.trans (congrArg some (by kernel_rfl))
  t0 := Tryz.underlying0
  a0 := Tryz.isAgg0
  z0 := Tryz.sizeOf0
  v0 := Tryz.zeroValue0
  t3 := Tryz.underlying3
  a3 := Tryz.isAgg3
  z3 := Tryz.sizeOf3
  v3 := Tryz.zeroValue3
  t4 := Tryz.underlying4
  a4 := Tryz.isAgg4
  z4 := Tryz.sizeOf4
  v4 := Tryz.zeroValue4
  t5 := Tryz.underlying5
  a5 := Tryz.isAgg5
  z5 := Tryz.sizeOf5
  v5 := Tryz.zeroValue5
  t9 := Tryz.underlying9
  a9 := Tryz.isAgg9
  z9 := Tryz.sizeOf9
  v9 := Tryz.zeroValue9
  t12 := Tryz.underlying12
  a12 := Tryz.isAgg12
  z12 := Tryz.sizeOf12
  v12 := Tryz.zeroValue12
  t46 := Tryz.underlying224
  a46 := Tryz.isAgg224
  z46 := Tryz.sizeOf224
  v46 := Tryz.zeroValue224
  t53 := Tryz.underlying201
  a53 := Tryz.isAgg201
  z53 := Tryz.sizeOf201
  v53 := Tryz.zeroValue201
  t119 := Tryz.underlying234
  a119 := Tryz.isAgg234
  z119 := Tryz.sizeOf234
  t138 := Tryz.underlying236
  a138 := Tryz.isAgg236
  z138 := Tryz.sizeOf236
  v138 := Tryz.zeroValue236
  t139 := Tryz.underlying237
  a139 := Tryz.isAgg237
  z139 := Tryz.sizeOf237
  v139 := Tryz.zeroValue237
  g3 := by kernel_rfl
  g4 := by kernel_rfl }
theorem Tryz.u8types : U8Types Tryz.prog Tryz.laysValid_ren := U8Types.of196 Tryz.laysValid
open Go.RowKit Go.Lib in
theorem Tryz.utf8_ValidString (s : ByteArray) (w : World) (hs : s.size <= 9223372036854775807) (hT : Lib.Utf8Tabs (Tryz.laysValid_ren.g 3) (Tryz.laysValid_ren.g 4) w) :
    Calls Tryz.prog 155 #[.string s] w fun e w' => e = .returned (.bool (Lib.validD s.data.toList)) /\ Below w.heap.size w w' := Any.utf8_ValidString Tryz.laysValid s w hs hT
theorem Tryz.u8extra : U8Extra Tryz.prog Tryz.laysValid_ren := { n3 := by kernel_rfl, n4 := by kernel_rfl, y3 := by kernel_rfl, y4 := by kernel_rfl, c5 := by kernel_rfl, c119 := by kernel_rfl, c138 := by kernel_rfl }
end Go.Proofs
end
