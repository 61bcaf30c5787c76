/- TextMovesCardSaid: part 28 of the texts behind it: Hp2. No premise of its own. -/
import Derived.Test.YtpfjeinhmmmhkaaGreatDoorD27
import Derived.Lib.AppendIntMem
import Derived.Lib.SmallJoins
set_option linter.all false
section
namespace Go.Det.Sea
open Go Go.Det Go.Proofs Go.RowKit
noncomputable def firstZ : List Int := (List.range 256).map fun c => (Lib.firstT c : Int)
noncomputable def accZ : List Int := (List.range 32).map fun k => bif k % 2 == 0 then (Lib.accLo (k / 2) : Int) else (Lib.accHi (k / 2) : Int)
noncomputable def globH (n : Int) (g : Nat) : Option (List DV) :=
  bif Nat.beq g 0 then some (firstZ.map (DV.int .u8)) else bif Nat.beq g 1 then some (accZ.map (DV.int .u8)) else bif Nat.beq g 2 then some (Lib.pow10Tab.map (DV.int .u64)) else bif Nat.beq g 3 then some [.int .i64 n] else none
noncomputable def cfgH (n : Int) : Cfg := { cfgG n with glob := globH n }
theorem FH (n : Int) : (cfgH n).F = cfg.F := by kernel_rfl
theorem TH (n : Int) : (cfgH n).T = cfg.T := by kernel_rfl
theorem baseH (n : Int) (g : Nat) : baseOf (cfgH n) g = baseOf cfg g := by unfold baseOf; rw [FH]
theorem cfgH_up (n : Int) : cfgH n = upC cfg (cfgH n).glob (cfgH n).prim := by kernel_rfl
theorem globHG {n : Int} {m : Ro} (h : GlobOK (cfgH n) m) : GlobOK (cfgG n) m := by
  intro g cs hg
  have hg' : (bif Nat.beq g 3 then some [DV.int .i64 n] else none) = some cs := hg
  cases hb : Nat.beq g 3 with
  | false => rw [hb] at hg'; cases hg'
  | true =>
    rw [hb] at hg'
    have := Nat.eq_of_beq_eq_true hb
    subst this
    exact h 3 cs hg'
theorem callOK_H {n : Int} {g : Nat} {xs : List DV} {ex ex' : List Blk} {r : DV} (h : CallOK Tryz.prog (cfgG n) g xs ex r ex') : CallOK Tryz.prog (cfgH n) g xs ex r ex' := by
  obtain ⟨h1, h2, h3⟩ := h
  refine ⟨h1, h2, fun ρ m w vals blks hG hro hx hext => ?_⟩
  rw [baseH, ← baseG n] at hext ⊢
  exact h3 ρ m w vals blks (globHG hG) hro hx hext
theorem vrl_ints {ρ : Rho} {m : Ro} {k : IntKind} : ∀ {zs : List Int} {vs : List Value}, VRL ρ m (zs.map (DV.int k)) vs -> vs = zs.map (Value.int k)
  | [], vs, h => by simpa [VRL] using h
  | z :: zs, vs, h => by
    simp only [List.map_cons, VRL] at h
    obtain ⟨v, r, rfl, hv, hr⟩ := h
    simp only [VR] at hv
    subst hv
    rw [vrl_ints hr]; rfl
theorem vrl_ints' {ρ : Rho} {m : Ro} {k : IntKind} : ∀ (zs : List Int), VRL ρ m (zs.map (DV.int k)) (zs.map (Value.int k))
  | [] => by simp [VRL]
  | z :: zs => by simp only [List.map_cons, VRL, VR]; exact ⟨_, _, rfl, rfl, vrl_ints' zs⟩
theorem tabH {n : Int} {m : Ro} {w : World} {g : Nat} {k : IntKind} {zs : List Int} (hG : GlobOK (cfgH n) m) (hro : RoOK m w) (hg : globH n g = some (zs.map (DV.int k))) : ∃ el fr, w.heap[g]? = some (.cells (zs.map (Value.int k)).toArray el fr) := by
  obtain ⟨c, h1, h2, _⟩ := hG g _ hg
  obtain ⟨el, fr, hw⟩ := hro.1 _ _ h1
  have := vrl_ints h2
  have hc : c = (zs.map (Value.int k)).toArray := by cases c; simp_all
  subst hc
  exact ⟨el, fr, hw⟩
theorem powH {n : Int} {m : Ro} {w : World} (hG : GlobOK (cfgH n) m) (hro : RoOK m w) : Lib.TabIs Tryz.prog w "internal/strconv.uint64pow10" .u64 Lib.pow10Tab := by
  obtain ⟨el, fr, hw⟩ := tabH (g := 2) (k := .u64) (zs := Lib.pow10Tab) hG hro rfl
  have hn : Tryz.prog.globalNamed "internal/strconv.uint64pow10" = some 2 := by kernel_rfl
  unfold Lib.TabIs World.var?
  rw [hn]
  simp [hw]
theorem utf8H {n : Int} {m : Ro} {w : World} (hG : GlobOK (cfgH n) m) (hro : RoOK m w) : Lib.Utf8Tabs (Tryz.laysValid_ren.g 3) (Tryz.laysValid_ren.g 4) w := by
  obtain ⟨el, fr, hw⟩ := tabH (g := 0) (k := .u8) (zs := firstZ) hG hro rfl
  obtain ⟨el', fr', hw'⟩ := tabH (g := 1) (k := .u8) (zs := accZ) hG hro rfl
  refine ⟨fun c hc => ?_, fun i hi => ⟨?_, ?_⟩⟩
  · rw [show Tryz.laysValid_ren.g 3 = 0 from rfl, cell_at hw]
    simp [firstZ, hc]
  · rw [show Tryz.laysValid_ren.g 4 = 1 from rfl, cell_at hw']
    have : 2 * i < 32 := by omega
    simp [accZ, this]
  · rw [show Tryz.laysValid_ren.g 4 = 1 from rfl, cell_at hw']
    have : 2 * i + 1 < 32 := by omega
    have e : (2 * i + 1) % 2 = 1 := by omega
    have e' : (2 * i + 1) / 2 = i := by omega
    simp [accZ, this, e, e']
theorem sz (s : List UInt8) : (⟨s.toArray⟩ : ByteArray).size = s.length := by simp [ByteArray.size]
theorem call_ok {n : Int} {g : Nat} {xs : List DV} {r : DV} {v : Value} (hm : r.ments = []) (hc : Callable Tryz.prog g) (hv : ∀ m, VR (fun _ => none) m r v) (hv' : ∀ ρ m, VR (fun _ => none) m r v -> VR ρ m r v)
    (h : ∀ (ρ : Rho) (m : Ro) (w : World) (vals : Array Value), GlobOK (cfgH n) m -> RoOK m w -> VRL ρ m xs vals.toList -> Calls Tryz.prog g vals w fun e w' => e = .returned v /\ Below w.heap.size w w') :
    Callable Tryz.prog g /\ CallOK Tryz.prog (cfgH n) g xs [] r [] := by
  refine ⟨hc, hm, rfl, ?_⟩
  intro ρ m w vals blks hG hro hx hext
  have hb : blks = [] := by have := hext.len; simpa using this
  subst hb
  refine (h ρ m w vals hG hro hx).mono ?_
  rintro e w' ⟨rfl, hbe⟩
  exact ⟨_, m, rfl, hv' ρ m (hv m), ⟨hext.len, by simp, by simp⟩, ro_below hro hbe, Grows.refl _ _, evo_below hbe⟩
def prH (g : Nat) (xs : List DV) (r : DV) : Prop :=
  prF g xs r \/
  (g = 155 /\ ∃ s : List UInt8, s.length <= 100000000 /\ xs = [.str s] /\ r = .bool (Lib.validD s)) \/
  (g = 54 /\ ∃ z : Int, -9223372036854775808 <= z /\ z <= 9223372036854775807 /\ xs = [.int .i64 z] /\ r = .str (Lib.itoa z)) \/
  (g = 212 /\ ∃ z : Int, -9223372036854775808 <= z /\ z <= 9223372036854775807 /\ xs = [.int .i64 z, .int .i64 10] /\ r = .str (Lib.itoa z)) \/
  (g = 173 /\ ∃ u : Nat, u < 18446744073709551616 /\ xs = [.int .u64 u, .int .i64 10] /\ r = .str (Lib.decDigits u)) \/
  (g = 211 /\ ∃ (s : List UInt8) (v : Int), s.length <= 100000000 /\ Lib.parseIntB 64 s = .ok v /\ xs = [.str s, .int .i64 10, .int .i64 64] /\ r = .tup [.int .i64 v, .niliface]) \/
  (g = 174 /\ ∃ (s : List UInt8) (c : Nat), c <= 1000000 /\ s.length <= 1000000 /\ xs = [.str s, .int .i64 c] /\ r = .str (Lib.repeatL s c)) \/
  (g = 61 /\ ∃ s : List UInt8, xs = [.nilsl, .str s] /\ r = .str []) \/
  (g = 182 /\ ∃ i : Nat, i < 30 /\ xs = [.str (fnNm i)] /\ r = .tup [.int .i64 i, .bool true]) \/
  (g = 60 /\ ∃ i : Nat, i < 30 /\ xs = [.int .i64 i] /\ r = .tup [.str (fnNm i), .bool true]) \/
  (g = 140 /\ xs = [.str letP] /\ r = .tup [.agg asD, .bool true])
theorem vstr (s : List UInt8) : ∀ m, VR (fun _ => none) m (.str s) (.string ⟨s.toArray⟩) := fun m => by simp only [VR]
theorem prH_ok (n : Int) : ∀ g xs r, prH g xs r -> Callable Tryz.prog g /\ CallOK Tryz.prog (cfgH n) g xs [] r [] := by
  rintro g xs r (h | ⟨rfl, s, hs, rfl, rfl⟩ | ⟨rfl, z, h1, h2, rfl, rfl⟩ | ⟨rfl, z, h1, h2, rfl, rfl⟩ | ⟨rfl, u, h1, rfl, rfl⟩ | ⟨rfl, s, v, hs, h1, rfl, rfl⟩ | ⟨rfl, s, c, h1, h2, rfl, rfl⟩ | ⟨rfl, s, rfl, rfl⟩ | ⟨rfl, i, h1, rfl, rfl⟩ | ⟨rfl, i, h1, rfl, rfl⟩ | ⟨rfl, rfl, rfl⟩)
  · exact ⟨(prF_ok n g xs r h).1, callOK_H (prF_ok n g xs r h).2⟩
  · refine call_ok rfl ⟨Tryz.f155, Tryz.func155, by kernel_rfl, of_decide_eq_true (by kernel_rfl)⟩ (v := .bool (Lib.validD s)) (fun m => by simp only [VR]) (fun _ _ h => by simpa only [VR] using h) ?_
    intro ρ m w vals hG hro hx
    simp only [VRL] at hx
    obtain ⟨v, r, hv, hvr, rfl⟩ := hx
    rw [arr1 hv]
    simp only [VR] at hvr
    subst hvr
    exact Tryz.utf8_ValidString ⟨s.toArray⟩ w (by rw [sz]; omega) (utf8H hG hro)
  · refine call_ok rfl ⟨Tryz.f54, Tryz.func54, by kernel_rfl, of_decide_eq_true (by kernel_rfl)⟩ (vstr _) (fun _ _ h => by simpa only [VR] using h) ?_
    intro ρ m w vals hG hro hx
    simp only [VRL] at hx
    obtain ⟨v, r, hv, hvr, rfl⟩ := hx
    rw [arr1 hv]
    simp only [VR] at hvr
    subst hvr
    refine (Tryz.strconv_Itoa z h1 h2 w (powH hG hro)).mono ?_
    rintro e w' ⟨rfl, k, os, rfl⟩
    exact ⟨rfl, Lib.below_grow _ _ (Nat.le_refl _) _ _⟩
  · refine call_ok rfl ⟨Tryz.f212, Tryz.func212, by kernel_rfl, of_decide_eq_true (by kernel_rfl)⟩ (vstr _) (fun _ _ h => by simpa only [VR] using h) ?_
    intro ρ m w vals hG hro hx
    simp only [VRL] at hx
    obtain ⟨v, r, hv, hvr, u, r2, rfl, hur, rfl⟩ := hx
    rw [arr2 hv]
    simp only [VR] at hvr hur
    subst hvr hur
    refine (Tryz.strconv_FormatInt_10 z h1 h2 w (powH hG hro)).mono ?_
    rintro e w' ⟨rfl, k, os, rfl⟩
    exact ⟨rfl, Lib.below_grow _ _ (Nat.le_refl _) _ _⟩
  · refine call_ok rfl ⟨Tryz.f173, Tryz.func173, by kernel_rfl, of_decide_eq_true (by kernel_rfl)⟩ (vstr _) (fun _ _ h => by simpa only [VR] using h) ?_
    intro ρ m w vals hG hro hx
    simp only [VRL] at hx
    obtain ⟨v, r, hv, hvr, x, r2, rfl, hur, rfl⟩ := hx
    rw [arr2 hv]
    simp only [VR] at hvr hur
    subst hvr hur
    refine (fmtUint173 u h1 w (powH hG hro)).mono ?_
    rintro e w' ⟨rfl, k, os, rfl⟩
    exact ⟨rfl, Lib.below_grow _ _ (Nat.le_refl _) _ _⟩
  · refine call_ok rfl ⟨Tryz.f211, Tryz.func211, by kernel_rfl, of_decide_eq_true (by kernel_rfl)⟩ (v := .tuple #[.int .i64 v, .nilIface]) (fun m => ?_) (fun ρ m h => ?_) ?_
    · simp only [VR, VRL]
      exact ⟨_, rfl, _, _, rfl, rfl, _, _, rfl, rfl, rfl⟩
    · simp only [VR, VRL] at h ⊢
      exact ⟨_, rfl, _, _, rfl, rfl, _, _, rfl, rfl, rfl⟩
    intro ρ m w vals hG hro hx
    simp only [VRL] at hx
    obtain ⟨v, r, hv, hvr, u, r2, rfl, hur, x, r3, rfl, hxr, rfl⟩ := hx
    rw [arr3 hv]
    simp only [VR] at hvr hur hxr
    subst hvr hur hxr
    refine (Tryz.strconv_ParseInt_10_at64_ok ⟨s.toArray⟩ (by rw [sz]; omega) _ (by rw [bytes_data]; exact h1) w).mono ?_
    rintro e w' ⟨rfl, rfl | ⟨t, rfl⟩⟩
    · exact ⟨rfl, Below.refl _ _⟩
    · exact ⟨rfl, Go.Joins.below_bytesWorld _ _ _ _ (Nat.le_refl _)⟩
  · refine call_ok rfl ⟨Tryz.f174, Tryz.func174, by kernel_rfl, of_decide_eq_true (by kernel_rfl)⟩ (vstr _) (fun _ _ h => by simpa only [VR] using h) ?_
    intro ρ m w vals hG hro hx
    simp only [VRL] at hx
    obtain ⟨v, r, hv, hvr, u, r2, rfl, hur, rfl⟩ := hx
    rw [arr2 hv]
    simp only [VR] at hvr hur
    subst hvr hur
    have := Tryz.strings_Repeat ⟨s.toArray⟩ c w (by omega) (by rw [sz]; exact Nat.le_trans (Nat.mul_le_mul h2 h1) (by decide))
    rwa [bytes_data] at this
  · refine call_ok rfl ⟨Tryz.f61, Tryz.func61, by kernel_rfl, of_decide_eq_true (by kernel_rfl)⟩ (vstr _) (fun _ _ h => by simpa only [VR] using h) ?_
    intro ρ m w vals hG hro hx
    simp only [VRL] at hx
    obtain ⟨v, r, hv, hvr, u, r2, rfl, hur, rfl⟩ := hx
    rw [arr2 hv]
    simp only [VR] at hvr hur
    subst hvr hur
    refine (Tryz.strings_Join_none none 0 ⟨s.toArray⟩ w).mono ?_
    rintro e w' ⟨rfl, rfl⟩
    exact ⟨rfl, Below.refl _ _⟩
  · have := Run.sound (cfgG_ok n (prG_ok n)) (kfd_ok n i h1)
    exact ⟨this.1, callOK_H this.2⟩
  · have := Run.sound (cfgG_ok n (prG_ok n)) (kmd_ok n i h1)
    exact ⟨this.1, callOK_H this.2⟩
  · have := Run.sound (cfgG_ok n (prG_ok n)) (kas_ok n)
    exact ⟨this.1, callOK_H this.2⟩
theorem owH_ok (n : Int) : ∀ g xs r, owG g xs r -> Callable Tryz.prog g /\ OwnOK Tryz.prog (cfgH n) g xs r := by
  intro g xs r h
  obtain ⟨h1, h2, h3⟩ := owG_ok n g xs r h
  exact ⟨h1, h2, fun ρ m w vals hG hro hx => h3 ρ m w vals (globHG hG) hro hx⟩
theorem cfgH_ok (n : Int) {Pr : Nat -> List DV -> DV -> Prop} (hp : ∀ g xs r, Pr g xs r -> Callable Tryz.prog g /\ CallOK Tryz.prog (cfgH n) g xs [] r []) : CfgOK Tryz.prog (cfgH n) Pr owG := by
  have b := base_ok (Pr := prS) (Ow := NoP) prS_ok (fun _ _ _ h => h.elim)
  exact ⟨by rw [TH]; exact b.ty, by rw [FH]; exact b.fn, hp, owH_ok n, b.mixed, fun _ _ _ _ _ _ h => (show False from h).elim⟩
theorem callOK_ofH {g : Nat} {xs : List DV} {r : DV} (h : GoC cfg prH owG g xs [] fun r' ex' => r' = r /\ ex' = []) (n : Int) : CallOK Tryz.prog (cfgH n) g xs [] r [] := by
  have := Run.up (fun _ => rfl) (cfgH n).glob (cfgH n).prim (GoC.run h)
  rw [← cfgH_up] at this
  exact (Run.sound (cfgH_ok n (prH_ok n)) this).2
end Go.Det.Sea
end
