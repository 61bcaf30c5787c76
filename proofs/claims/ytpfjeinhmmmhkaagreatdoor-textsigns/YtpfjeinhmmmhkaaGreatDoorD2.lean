/- TextSigns: whatever three signs come in, the law answers true and its input reads as it did (the tied card): part 2 of the texts behind it: DetQ, DetR, DetS, DetT, DetU, DetV, DetW, DetX, DetY, DetZ, Det1, Det2, Det4, Det5, Det6, Det7. No premise of its own. -/
import Derived.Test.YtpfjeinhmmmhkaaGreatDoorD1
import Derived.Orders
import Derived.Tactics
import Derived.Scope
import Derived.RangeFuncLeaves
import Derived.RangeFuncRecord
set_option linter.all false
section
set_option linter.unusedVariables false
set_option linter.unusedSimpArgs false
namespace Go.Det

/-! What goes into a call. -/
theorem Imp.ext_spec (s : Imp) (b : Nat) : s.exts <+: (s.ext b).2.exts ∧ (s.ext b).2.views = s.views ∧ (s.ext b).2.exts[(s.ext b).1]? = some b ∧ (s.exts.Nodup → (s.ext b).2.exts.Nodup) := by
  unfold Imp.ext
  cases h : s.exts.findIdx? (· == b) with
  | some j =>
    refine ⟨List.prefix_refl _, rfl, ?_, id⟩
    rw [List.findIdx?_eq_some_iff_getElem] at h
    obtain ⟨hl, h1, _⟩ := h
    simp at h1
    simp [hl, h1]
  | none =>
    refine ⟨List.prefix_append _ _, rfl, by simp, fun hn => ?_⟩
    rw [List.findIdx?_eq_none_iff] at h
    simp only
    rw [List.nodup_append]
    refine ⟨hn, by simp, fun a ha b' hb' => ?_⟩
    simp at hb'; subst hb'
    have := h a ha
    simpa using this

mutual
theorem imp_mono {h : Heap} {base : Nat} : ∀ (x : DV) {s s' : Imp} {x' : DV}, imp h base x s = some (x', s') → s.exts <+: s'.exts ∧ (∀ b ∈ s.views, b ∈ s'.views) ∧ (s.exts.Nodup → s'.exts.Nodup)
  | .any, s, s', x', e => by simp [imp] at e
  | .unk, s, s', x', e => by simp [imp] at e
  | .bool _, s, s', x', e => by simp [imp] at e; obtain ⟨_, rfl⟩ := e; exact ⟨List.prefix_refl _, fun _ h => h, id⟩
  | .int _ _, s, s', x', e => by simp [imp] at e; obtain ⟨_, rfl⟩ := e; exact ⟨List.prefix_refl _, fun _ h => h, id⟩
  | .str _, s, s', x', e => by simp [imp] at e; obtain ⟨_, rfl⟩ := e; exact ⟨List.prefix_refl _, fun _ h => h, id⟩
  | .nilptr, s, s', x', e => by simp [imp] at e; obtain ⟨_, rfl⟩ := e; exact ⟨List.prefix_refl _, fun _ h => h, id⟩
  | .ptr b n i off, s, s', x', e => by
    simp only [imp] at e
    split at e
    · simp only [Option.some.injEq, Prod.mk.injEq] at e; obtain ⟨_, rfl⟩ := e
      obtain ⟨h1, h2, h3, h4⟩ := s.ext_spec b
      exact ⟨h1, by rw [h2]; exact fun _ h => h, h4⟩
    · simp at e
  | .eptr _ _ _ _, s, s', x', e => by simp [imp] at e; obtain ⟨_, rfl⟩ := e; exact ⟨List.prefix_refl _, fun _ h => h, id⟩
  | .gptr _ _, s, s', x', e => by simp [imp] at e; obtain ⟨_, rfl⟩ := e; exact ⟨List.prefix_refl _, fun _ h => h, id⟩
  | .nilsl, s, s', x', e => by simp [imp] at e; obtain ⟨_, rfl⟩ := e; exact ⟨List.prefix_refl _, fun _ h => h, id⟩
  | .rsl b n off len, s, s', x', e => by
    simp only [imp, Option.map_eq_some_iff, Prod.mk.injEq] at e
    obtain ⟨v, _, _, rfl⟩ := e
    exact ⟨List.prefix_refl _, fun _ h => List.mem_cons_of_mem _ h, id⟩
  | .psl _ _, s, s', x', e => by simp [imp] at e; obtain ⟨_, rfl⟩ := e; exact ⟨List.prefix_refl _, fun _ h => h, id⟩
  | .fn f a c, s, s', x', e => by
    simp only [imp] at e
    split at e
    · rename_i a' s1 h1
      simp only [Option.map_eq_some_iff, Prod.mk.injEq] at e
      obtain ⟨⟨c', s2⟩, h2, _, rfl⟩ := e
      obtain ⟨k1, k2, k3⟩ := impL_mono a h1
      obtain ⟨l1, l2, l3⟩ := impL_mono c h2
      exact ⟨k1.trans l1, fun b hb => l2 b (k2 b hb), fun hn => l3 (k3 hn)⟩
    · simp at e
  | .nilfn, s, s', x', e => by simp [imp] at e; obtain ⟨_, rfl⟩ := e; exact ⟨List.prefix_refl _, fun _ h => h, id⟩
  | .iface t v, s, s', x', e => by
    simp only [imp, Option.map_eq_some_iff, Prod.mk.injEq] at e
    obtain ⟨⟨v', s1⟩, h1, _, rfl⟩ := e
    exact imp_mono v h1
  | .niliface, s, s', x', e => by simp [imp] at e; obtain ⟨_, rfl⟩ := e; exact ⟨List.prefix_refl _, fun _ h => h, id⟩
  | .map b, s, s', x', e => by
    simp only [imp, Option.some.injEq, Prod.mk.injEq] at e; obtain ⟨_, rfl⟩ := e
    obtain ⟨h1, h2, h3, h4⟩ := s.ext_spec b
    exact ⟨h1, by rw [h2]; exact fun _ h => h, h4⟩
  | .nilmap, s, s', x', e => by simp [imp] at e; obtain ⟨_, rfl⟩ := e; exact ⟨List.prefix_refl _, fun _ h => h, id⟩
  | .agg cs, s, s', x', e => by
    simp only [imp, Option.map_eq_some_iff, Prod.mk.injEq] at e
    obtain ⟨⟨v', s1⟩, h1, _, rfl⟩ := e
    exact impL_mono cs h1
  | .tup cs, s, s', x', e => by
    simp only [imp, Option.map_eq_some_iff, Prod.mk.injEq] at e
    obtain ⟨⟨v', s1⟩, h1, _, rfl⟩ := e
    exact impL_mono cs h1
theorem impL_mono {h : Heap} {base : Nat} : ∀ (l : List DV) {s s' : Imp} {l' : List DV}, impL h base l s = some (l', s') → s.exts <+: s'.exts ∧ (∀ b ∈ s.views, b ∈ s'.views) ∧ (s.exts.Nodup → s'.exts.Nodup)
  | [], s, s', l', e => by simp [impL] at e; obtain ⟨_, rfl⟩ := e; exact ⟨List.prefix_refl _, fun _ h => h, id⟩
  | x :: l, s, s', l', e => by
    simp only [impL] at e
    split at e
    · rename_i v' s1 h1
      simp only [Option.map_eq_some_iff, Prod.mk.injEq] at e
      obtain ⟨⟨c', s2⟩, h2, _, rfl⟩ := e
      obtain ⟨k1, k2, k3⟩ := imp_mono x h1
      obtain ⟨l1, l2, l3⟩ := impL_mono l h2
      exact ⟨k1.trans l1, fun b hb => l2 b (k2 b hb), fun hn => l3 (k3 hn)⟩
    · simp at e
end

/-- Everything that is viewed is a row. -/
def ViewsOK (h : Heap) (l : List Nat) : Prop := ∀ b ∈ l, ∃ n es, hget h b = some (.row n es)
theorem viewRow_row {h : Heap} {b n off len : Nat} {v : DV} (e : viewRow h b n off len = some v) : ∃ es, hget h b = some (.row n es) ∧ off + len ≤ es.length ∧ v = .psl n ((es.drop off).take len) := by
  unfold viewRow at e
  split at e
  · rename_i m es hh
    split at e
    · rename_i hc
      obtain ⟨rfl, hl⟩ := hc
      simp only [Option.some.injEq] at e
      exact ⟨es, hh, hl, e.symm⟩
    · simp at e
  · simp at e
mutual
theorem imp_views {h : Heap} {base : Nat} : ∀ (x : DV) {s s' : Imp} {x' : DV}, imp h base x s = some (x', s') → ViewsOK h s.views → ViewsOK h s'.views
  | .any, s, s', x', e, hv => by simp [imp] at e
  | .unk, s, s', x', e, hv => by simp [imp] at e
  | .bool _, s, s', x', e, hv => by simp [imp] at e; obtain ⟨_, rfl⟩ := e; exact hv
  | .int _ _, s, s', x', e, hv => by simp [imp] at e; obtain ⟨_, rfl⟩ := e; exact hv
  | .str _, s, s', x', e, hv => by simp [imp] at e; obtain ⟨_, rfl⟩ := e; exact hv
  | .nilptr, s, s', x', e, hv => by simp [imp] at e; obtain ⟨_, rfl⟩ := e; exact hv
  | .ptr b n i off, s, s', x', e, hv => by
    simp only [imp] at e
    split at e
    · simp only [Option.some.injEq, Prod.mk.injEq] at e; obtain ⟨_, rfl⟩ := e
      rw [(s.ext_spec b).2.1]; exact hv
    · simp at e
  | .eptr _ _ _ _, s, s', x', e, hv => by simp [imp] at e; obtain ⟨_, rfl⟩ := e; exact hv
  | .gptr _ _, s, s', x', e, hv => by simp [imp] at e; obtain ⟨_, rfl⟩ := e; exact hv
  | .nilsl, s, s', x', e, hv => by simp [imp] at e; obtain ⟨_, rfl⟩ := e; exact hv
  | .rsl b n off len, s, s', x', e, hv => by
    simp only [imp, Option.map_eq_some_iff, Prod.mk.injEq] at e
    obtain ⟨v, hv', _, rfl⟩ := e
    intro b' hb'
    rcases List.mem_cons.1 hb' with rfl | hb'
    · obtain ⟨es, k, _⟩ := viewRow_row hv'
      exact ⟨_, _, k⟩
    · exact hv b' hb'
  | .psl _ _, s, s', x', e, hv => by simp [imp] at e; obtain ⟨_, rfl⟩ := e; exact hv
  | .fn f a c, s, s', x', e, hv => by
    simp only [imp] at e
    split at e
    · rename_i a' s1 h1
      simp only [Option.map_eq_some_iff, Prod.mk.injEq] at e
      obtain ⟨⟨c', s2⟩, h2, _, rfl⟩ := e
      exact impL_views c h2 (impL_views a h1 hv)
    · simp at e
  | .nilfn, s, s', x', e, hv => by simp [imp] at e; obtain ⟨_, rfl⟩ := e; exact hv
  | .iface t v, s, s', x', e, hv => by
    simp only [imp, Option.map_eq_some_iff, Prod.mk.injEq] at e
    obtain ⟨⟨v', s1⟩, h1, _, rfl⟩ := e
    exact imp_views v h1 hv
  | .niliface, s, s', x', e, hv => by simp [imp] at e; obtain ⟨_, rfl⟩ := e; exact hv
  | .map b, s, s', x', e, hv => by
    simp only [imp, Option.some.injEq, Prod.mk.injEq] at e; obtain ⟨_, rfl⟩ := e
    rw [(s.ext_spec b).2.1]; exact hv
  | .nilmap, s, s', x', e, hv => by simp [imp] at e; obtain ⟨_, rfl⟩ := e; exact hv
  | .agg cs, s, s', x', e, hv => by
    simp only [imp, Option.map_eq_some_iff, Prod.mk.injEq] at e
    obtain ⟨⟨v', s1⟩, h1, _, rfl⟩ := e
    exact impL_views cs h1 hv
  | .tup cs, s, s', x', e, hv => by
    simp only [imp, Option.map_eq_some_iff, Prod.mk.injEq] at e
    obtain ⟨⟨v', s1⟩, h1, _, rfl⟩ := e
    exact impL_views cs h1 hv
theorem impL_views {h : Heap} {base : Nat} : ∀ (l : List DV) {s s' : Imp} {l' : List DV}, impL h base l s = some (l', s') → ViewsOK h s.views → ViewsOK h s'.views
  | [], s, s', l', e, hv => by simp [impL] at e; obtain ⟨_, rfl⟩ := e; exact hv
  | x :: l, s, s', l', e, hv => by
    simp only [impL] at e
    split at e
    · rename_i v' s1 h1
      simp only [Option.map_eq_some_iff, Prod.mk.injEq] at e
      obtain ⟨⟨c', s2⟩, h2, _, rfl⟩ := e
      exact impL_views l h2 (imp_views x h1 hv)
    · simp at e
end

/-- Handed over, a block has another number. -/
def ExtR (ρ ρc : Rho) (base : Nat) (exts : List Nat) : Prop := ∀ j b, exts[j]? = some b → ∃ p, ρ b = some p ∧ ρc (base + j) = some p
theorem ExtR.of_prefix {ρ ρc : Rho} {base : Nat} {l E : List Nat} (h : ExtR ρ ρc base E) (hp : l <+: E) : ExtR ρ ρc base l := by
  intro j b hb
  obtain ⟨t, rfl⟩ := hp
  exact h j b (by rw [List.getElem?_append_left (List.getElem?_eq_some_iff.1 hb).1]; exact hb)

/-- What a row shows. -/
def Shows (ρ : Rho) (m : Ro) (h : Heap) (m' : Ro) (V : List Nat) : Prop :=
  ∀ b ∈ V, ∀ n off len v v', viewRow h b n off len = some v' → VR ρ m (.rsl b n off len) v → ∀ ρc, VR ρc m' v' v

section
variable {ρ ρc : Rho} {m m' : Ro} {h : Heap} {base : Nat} {E V : List Nat} (hm : Sub m m') (hE : ExtR ρ ρc base E) (hV : Shows ρ m h m' V)
include hm hE hV
mutual
theorem imp_ok : ∀ (x : DV) {s s' : Imp} {x' : DV} {v : Value}, imp h base x s = some (x', s') → s'.exts <+: E → (∀ b ∈ s'.views, b ∈ V) → VR ρ m x v → VR ρc m' x' v
  | .any, s, s', x', v, e, _, _, _ => by simp [imp] at e
  | .unk, s, s', x', v, e, _, _, _ => by simp [imp] at e
  | .bool _, s, s', x', v, e, _, _, r => by simp [imp] at e; obtain ⟨rfl, rfl⟩ := e; simpa [VR] using r
  | .int _ _, s, s', x', v, e, _, _, r => by simp [imp] at e; obtain ⟨rfl, rfl⟩ := e; simpa [VR] using r
  | .str _, s, s', x', v, e, _, _, r => by simp [imp] at e; obtain ⟨rfl, rfl⟩ := e; simpa [VR] using r
  | .nilptr, s, s', x', v, e, _, _, r => by simp [imp] at e; obtain ⟨rfl, rfl⟩ := e; simpa [VR] using r
  | .ptr b n i off, s, s', x', v, e, hx, _, r => by
    simp only [imp] at e
    split at e
    · rename_i hc
      obtain ⟨rfl, rfl⟩ := hc
      simp only [Option.some.injEq, Prod.mk.injEq] at e; obtain ⟨rfl, rfl⟩ := e
      obtain ⟨p, hp, hc⟩ := hE.of_prefix hx _ _ (s.ext_spec b).2.2.1
      simp only [VR] at r ⊢
      obtain ⟨p', hp', r⟩ := r
      rw [hp] at hp'; cases hp'
      exact ⟨p, hc, r⟩
    · simp at e
  | .eptr n es i off, s, s', x', v, e, _, _, r => by
    simp [imp] at e; obtain ⟨rfl, rfl⟩ := e
    have hr := VR.mono hm _ r
    refine VR.rho _ ?_ hr
    simp [DV.ments]
  | .gptr _ _, s, s', x', v, e, _, _, r => by simp [imp] at e; obtain ⟨rfl, rfl⟩ := e; simpa [VR] using r
  | .nilsl, s, s', x', v, e, _, _, r => by simp [imp] at e; obtain ⟨rfl, rfl⟩ := e; simpa [VR] using r
  | .rsl b n off len, s, s', x', v, e, _, hv, r => by
    simp only [imp, Option.map_eq_some_iff, Prod.mk.injEq] at e
    obtain ⟨v', hv', rfl, rfl⟩ := e
    exact hV b (hv b List.mem_cons_self) n off len v v' hv' r ρc
  | .psl n es, s, s', x', v, e, _, _, r => by
    simp [imp] at e; obtain ⟨rfl, rfl⟩ := e
    have hr := VR.mono hm _ r
    refine VR.rho _ ?_ hr
    simp [DV.ments]
  | .fn f a c, s, s', x', v, e, hx, hv, r => by
    simp only [imp] at e
    split at e
    · rename_i a' s1 h1
      simp only [Option.map_eq_some_iff, Prod.mk.injEq] at e
      obtain ⟨⟨c', s2⟩, h2, rfl, rfl⟩ := e
      obtain ⟨l1, l2, l3⟩ := impL_mono c h2
      simp only [VR] at r ⊢
      obtain ⟨a1, c1, rfl, r1, r2⟩ := r
      exact ⟨a1, c1, rfl, impL_ok a h1 (l1.trans hx) (fun b hb => hv b (l2 b hb)) r1, impL_ok c h2 hx hv r2⟩
    · simp at e
  | .nilfn, s, s', x', v, e, _, _, r => by simp [imp] at e; obtain ⟨rfl, rfl⟩ := e; simpa [VR] using r
  | .iface t x, s, s', x', v, e, hx, hv, r => by
    simp only [imp, Option.map_eq_some_iff, Prod.mk.injEq] at e
    obtain ⟨⟨v', s1⟩, h1, rfl, rfl⟩ := e
    simp only [VR] at r ⊢
    obtain ⟨y, rfl, r⟩ := r
    exact ⟨y, rfl, imp_ok x h1 hx hv r⟩
  | .niliface, s, s', x', v, e, _, _, r => by simp [imp] at e; obtain ⟨rfl, rfl⟩ := e; simpa [VR] using r
  | .map b, s, s', x', v, e, hx, _, r => by
    simp only [imp, Option.some.injEq, Prod.mk.injEq] at e; obtain ⟨rfl, rfl⟩ := e
    obtain ⟨p, hp, hc⟩ := hE.of_prefix hx _ _ (s.ext_spec b).2.2.1
    simp only [VR] at r ⊢
    obtain ⟨p', hp', r⟩ := r
    rw [hp] at hp'; cases hp'
    exact ⟨p, hc, r⟩
  | .nilmap, s, s', x', v, e, _, _, r => by simp [imp] at e; obtain ⟨rfl, rfl⟩ := e; simpa [VR] using r
  | .agg cs, s, s', x', v, e, hx, hv, r => by
    simp only [imp, Option.map_eq_some_iff, Prod.mk.injEq] at e
    obtain ⟨⟨v', s1⟩, h1, rfl, rfl⟩ := e
    simp only [VR] at r ⊢
    obtain ⟨y, rfl, r, r2⟩ := r
    exact ⟨y, rfl, impL_ok cs h1 hx hv r, r2⟩
  | .tup cs, s, s', x', v, e, hx, hv, r => by
    simp only [imp, Option.map_eq_some_iff, Prod.mk.injEq] at e
    obtain ⟨⟨v', s1⟩, h1, rfl, rfl⟩ := e
    simp only [VR] at r ⊢
    obtain ⟨y, rfl, r⟩ := r
    exact ⟨y, rfl, impL_ok cs h1 hx hv r⟩
theorem impL_ok : ∀ (l : List DV) {s s' : Imp} {l' : List DV} {vs : List Value}, impL h base l s = some (l', s') → s'.exts <+: E → (∀ b ∈ s'.views, b ∈ V) → VRL ρ m l vs → VRL ρc m' l' vs
  | [], s, s', l', vs, e, _, _, r => by have _ := hm; have _ := hE; have _ := hV; simp [impL] at e; obtain ⟨rfl, rfl⟩ := e; simpa [VRL] using r
  | x :: l, s, s', l', vs, e, hx, hv, r => by
    simp only [impL] at e
    split at e
    · rename_i v' s1 h1
      simp only [Option.map_eq_some_iff, Prod.mk.injEq] at e
      obtain ⟨⟨c', s2⟩, h2, rfl, rfl⟩ := e
      obtain ⟨l1, l2, l3⟩ := impL_mono l h2
      simp only [VRL] at r
      obtain ⟨u, t, rfl, r1, r2⟩ := r
      exact VRL.cons (imp_ok x h1 (l1.trans hx) (fun b hb => hv b (l2 b hb)) r1) (impL_ok l h2 hx hv r2)
    · simp at e
end
end

/-! Sealing. -/
section
variable {ρ : Rho} {m m' : Ro} {h : Heap} {V : List Nat} (hm : Sub m m') (hV : Shows ρ m h m' V)
include hm hV
mutual
theorem sealV_ok : ∀ (x : DV) {x' : DV} {v : Value}, sealV h x = some x' → (∀ b ∈ x.ments, b ∈ V) → VR ρ m x v → ∀ ρc, VR ρc m' x' v
  | .any, x', v, e, _, _, ρc => by simp [sealV] at e
  | .unk, x', v, e, _, _, ρc => by simp [sealV] at e
  | .bool _, x', v, e, _, r, ρc => by simp [sealV] at e; subst e; simpa [VR] using r
  | .int _ _, x', v, e, _, r, ρc => by simp [sealV] at e; subst e; simpa [VR] using r
  | .str _, x', v, e, _, r, ρc => by simp [sealV] at e; subst e; simpa [VR] using r
  | .nilptr, x', v, e, _, r, ρc => by simp [sealV] at e; subst e; simpa [VR] using r
  | .ptr b n i off, x', v, e, _, _, ρc => by simp [sealV] at e
  | .eptr n es i off, x', v, e, _, r, ρc => by
    simp [sealV] at e; subst e
    exact VR.rho _ (by simp [DV.ments]) (VR.mono hm _ r)
  | .gptr _ _, x', v, e, _, r, ρc => by simp [sealV] at e; subst e; simpa [VR] using r
  | .nilsl, x', v, e, _, r, ρc => by simp [sealV] at e; subst e; simpa [VR] using r
  | .rsl b n off len, x', v, e, hv, r, ρc => by
    simp only [sealV] at e
    exact hV b (hv b (by simp [DV.ments])) n off len v x' e r ρc
  | .psl n es, x', v, e, _, r, ρc => by
    simp [sealV] at e; subst e
    exact VR.rho _ (by simp [DV.ments]) (VR.mono hm _ r)
  | .fn f a c, x', v, e, hv, r, ρc => by
    simp only [sealV] at e
    split at e
    · rename_i a' c' h1 h2
      simp only [Option.some.injEq] at e; subst e
      simp only [VR] at r ⊢
      obtain ⟨a1, c1, rfl, r1, r2⟩ := r
      exact ⟨a1, c1, rfl, sealL_ok a h1 (fun b hb => hv b (by simp [DV.ments, hb])) r1 ρc, sealL_ok c h2 (fun b hb => hv b (by simp [DV.ments, hb])) r2 ρc⟩
    · simp at e
  | .nilfn, x', v, e, _, r, ρc => by simp [sealV] at e; subst e; simpa [VR] using r
  | .iface t x, x', v, e, hv, r, ρc => by
    simp only [sealV, Option.map_eq_some_iff] at e
    obtain ⟨y, h1, rfl⟩ := e
    simp only [VR] at r ⊢
    obtain ⟨z, rfl, r⟩ := r
    exact ⟨z, rfl, sealV_ok x h1 (fun b hb => hv b (by simpa [DV.ments] using hb)) r ρc⟩
  | .niliface, x', v, e, _, r, ρc => by simp [sealV] at e; subst e; simpa [VR] using r
  | .map b, x', v, e, _, _, ρc => by simp [sealV] at e
  | .nilmap, x', v, e, _, r, ρc => by simp [sealV] at e; subst e; simpa [VR] using r
  | .agg cs, x', v, e, hv, r, ρc => by
    simp only [sealV, Option.map_eq_some_iff] at e
    obtain ⟨y, h1, rfl⟩ := e
    simp only [VR] at r ⊢
    obtain ⟨z, rfl, r, r2⟩ := r
    exact ⟨z, rfl, sealL_ok cs h1 (fun b hb => hv b (by simpa [DV.ments] using hb)) r ρc, r2⟩
  | .tup cs, x', v, e, hv, r, ρc => by
    simp only [sealV, Option.map_eq_some_iff] at e
    obtain ⟨y, h1, rfl⟩ := e
    simp only [VR] at r ⊢
    obtain ⟨z, rfl, r⟩ := r
    exact ⟨z, rfl, sealL_ok cs h1 (fun b hb => hv b (by simpa [DV.ments] using hb)) r ρc⟩
theorem sealL_ok : ∀ (l : List DV) {l' : List DV} {vs : List Value}, sealL h l = some l' → (∀ b ∈ mentsL l, b ∈ V) → VRL ρ m l vs → ∀ ρc, VRL ρc m' l' vs
  | [], l', vs, e, _, r, ρc => by have _ := hm; have _ := hV; simp [sealL] at e; subst e; simpa [VRL] using r
  | x :: l, l', vs, e, hv, r, ρc => by
    simp only [sealL] at e
    split at e
    · rename_i y k h1 h2
      simp only [Option.some.injEq] at e; subst e
      simp only [VRL] at r
      obtain ⟨u, t, rfl, r1, r2⟩ := r
      exact VRL.cons (sealV_ok x h1 (fun b hb => hv b (by simp [mentsL, hb])) r1 ρc) (sealL_ok l h2 (fun b hb => hv b (by simp [mentsL, hb])) r2 ρc)
    · simp at e
end
end

mutual
theorem sealV_ments {h : Heap} : ∀ (x : DV) {x' : DV}, sealV h x = some x' → x'.ments = [] ∧ ViewsOK h x.ments
  | .any, x', e => by simp [sealV] at e
  | .unk, x', e => by simp [sealV] at e
  | .bool _, x', e => by simp [sealV] at e; subst e; simp [DV.ments, ViewsOK]
  | .int _ _, x', e => by simp [sealV] at e; subst e; simp [DV.ments, ViewsOK]
  | .str _, x', e => by simp [sealV] at e; subst e; simp [DV.ments, ViewsOK]
  | .nilptr, x', e => by simp [sealV] at e; subst e; simp [DV.ments, ViewsOK]
  | .ptr b n i off, x', e => by simp [sealV] at e
  | .eptr n es i off, x', e => by simp [sealV] at e; subst e; simp [DV.ments, ViewsOK]
  | .gptr _ _, x', e => by simp [sealV] at e; subst e; simp [DV.ments, ViewsOK]
  | .nilsl, x', e => by simp [sealV] at e; subst e; simp [DV.ments, ViewsOK]
  | .rsl b n off len, x', e => by
    simp only [sealV] at e
    obtain ⟨es, k1, k2, rfl⟩ := viewRow_row e
    simp only [DV.ments, true_and]
    intro b' hb'
    simp at hb'; subst hb'
    exact ⟨_, _, k1⟩
  | .psl n es, x', e => by simp [sealV] at e; subst e; simp [DV.ments, ViewsOK]
  | .fn f a c, x', e => by
    simp only [sealV] at e
    split at e
    · rename_i a' c' h1 h2
      simp only [Option.some.injEq] at e; subst e
      obtain ⟨k1, k2⟩ := sealL_ments a h1
      obtain ⟨l1, l2⟩ := sealL_ments c h2
      simp only [DV.ments, k1, l1, List.append_nil, true_and]
      intro b hb
      rcases List.mem_append.1 hb with hb | hb
      · exact k2 b hb
      · exact l2 b hb
    · simp at e
  | .nilfn, x', e => by simp [sealV] at e; subst e; simp [DV.ments, ViewsOK]
  | .iface t x, x', e => by
    simp only [sealV, Option.map_eq_some_iff] at e
    obtain ⟨y, h1, rfl⟩ := e
    simpa [DV.ments] using sealV_ments x h1
  | .niliface, x', e => by simp [sealV] at e; subst e; simp [DV.ments, ViewsOK]
  | .map b, x', e => by simp [sealV] at e
  | .nilmap, x', e => by simp [sealV] at e; subst e; simp [DV.ments, ViewsOK]
  | .agg cs, x', e => by
    simp only [sealV, Option.map_eq_some_iff] at e
    obtain ⟨y, h1, rfl⟩ := e
    simpa [DV.ments] using sealL_ments cs h1
  | .tup cs, x', e => by
    simp only [sealV, Option.map_eq_some_iff] at e
    obtain ⟨y, h1, rfl⟩ := e
    simpa [DV.ments] using sealL_ments cs h1
theorem sealL_ments {h : Heap} : ∀ (l : List DV) {l' : List DV}, sealL h l = some l' → mentsL l' = [] ∧ ViewsOK h (mentsL l)
  | [], l', e => by simp [sealL] at e; subst e; simp [mentsL, ViewsOK]
  | x :: l, l', e => by
    simp only [sealL] at e
    split at e
    · rename_i y k h1 h2
      simp only [Option.some.injEq] at e; subst e
      obtain ⟨k1, k2⟩ := sealV_ments x h1
      obtain ⟨l1, l2⟩ := sealL_ments l h2
      simp only [mentsL, k1, l1, List.append_nil, true_and]
      intro b hb
      rcases List.mem_append.1 hb with hb | hb
      · exact k2 b hb
      · exact l2 b hb
    · simp at e
end

end Go.Det
end

section
set_option linter.unusedVariables false
set_option linter.unusedSimpArgs false
namespace Go.Det

/-! Rows, seen as sealed memory. -/
def viewC (ρ : Rho) (w : World) (m : Ro) : List Nat → Nat → Option (Array Value)
  | [] => m
  | b :: l => fun r =>
    match ρ b with
    | some p => if r = p.blk then (match w.heap[p.blk]? with | some (.cells c _ _) => some c | _ => viewC ρ w m l r) else viewC ρ w m l r
    | none => viewC ρ w m l r
def viewM (ρ : Rho) (w : World) (m : Ro) (V : List Nat) : Ro := ⟨viewC ρ w m V, m.o⟩

structure RoOK (m : Ro) (w : World) : Prop where
  cells : ∀ r c, m r = some c → ∃ el fr, w.heap[r]? = some (.cells c el fr)
  oth : ∀ r x, m.o r = some x → w.heap[r]? = some x ∧ isCellsO x = false

section
variable {ρ : Rho} {m : Ro} {L : List Nat} {N : Nat} {h : Heap} {w : World}

theorem viewM_old (i : Inv ρ m L N h w) : ∀ {V : List Nat}, ViewsOK h V → Grows N m (viewM ρ w m V) ∧ RoOK (viewM ρ w m V) w ∧
    (∀ b ∈ V, ∀ p, ρ b = some p → ∃ c el fr, w.heap[p.blk]? = some (.cells c el fr) ∧ viewM ρ w m V p.blk = some c) ∧
    (∀ r, (∀ b ∈ V, ∀ p, ρ b = some p → p.blk ≠ r) → viewM ρ w m V r = m r)
  | [], _ => ⟨Grows.refl _ _, ⟨i.ro, i.oth⟩, by simp, fun _ _ => rfl⟩
  | b :: V, hV => by
    obtain ⟨g, ro, k1, k2⟩ := viewM_old i (V := V) (fun b hb => hV b (List.mem_cons_of_mem _ hb))
    obtain ⟨n, es, hh⟩ := hV b List.mem_cons_self
    obtain ⟨p, hp, hB, hm, _, hN⟩ := i.blk b _ hh
    have hN := hN rfl
    have hB' := hB
    simp only [BR] at hB'
    obtain ⟨c, el, fr, hw, _⟩ := hB'
    have e1 : ∀ r, viewM ρ w m (b :: V) r = if r = p.blk then some c else viewM ρ w m V r := by
      intro r
      simp only [viewM, viewC, hp, hw]
    refine ⟨⟨fun r x hx => ?_, fun r hr => ?_, fun _ _ h => h⟩, ⟨fun r x hx => ?_, i.oth⟩, fun b' hb' p' hp' => ?_, fun r hr => ?_⟩
    · rw [e1]
      split
      · rename_i hr; subst hr; rw [hm] at hx; cases hx
      · exact g.1 _ _ hx
    · rw [e1, if_neg (by omega)]; exact g.2 r hr
    · rw [e1] at hx
      split at hx
      · rename_i hr; subst hr; cases hx; exact ⟨el, fr, hw⟩
      · exact ro.1 _ _ hx
    · rcases List.mem_cons.1 hb' with rfl | hb'
      · rw [hp] at hp'; cases hp'
        exact ⟨c, el, fr, hw, by rw [e1]; simp⟩
      · obtain ⟨c', el', fr', q1, q2⟩ := k1 b' hb' p' hp'
        refine ⟨c', el', fr', q1, ?_⟩
        rw [e1]
        split
        · rename_i hr; rw [hr] at q1; rw [hw] at q1; cases q1; rfl
        · exact q2
    · rw [e1, if_neg (fun e => hr b List.mem_cons_self p hp e.symm)]
      exact k2 r fun b' hb' => hr b' (List.mem_cons_of_mem _ hb')

theorem viewM_shows (i : Inv ρ m L N h w) {V : List Nat} (hV : ViewsOK h V) {m' : Ro} (hs : Sub (viewM ρ w m V) m') : Shows ρ m h m' V := by
  intro b hb n off len v v' hv r ρc
  obtain ⟨g, ro, k1, k2⟩ := viewM_old i hV
  obtain ⟨es, hh, hl, rfl⟩ := viewRow_row hv
  obtain ⟨p, hp, hB, hm, _, hN⟩ := i.blk b _ hh
  obtain ⟨c, el, fr, q1, q2⟩ := k1 b hb p hp
  simp only [BR] at hB
  obtain ⟨c', el', fr', b1, b2, b3, b4, b5, b6, b7⟩ := hB
  rw [q1] at b1; cases b1
  simp only [VR] at r ⊢
  obtain ⟨p', cap, r1, r2, r3, rfl⟩ := r
  rw [hp] at r1; cases r1
  have hlen : ((es.drop off).take len).length = len := by simp; omega
  refine ⟨_, cap, by rw [hlen]; exact r2, by rw [hlen], mentsL_take len (mentsL_drop off b6), .inr ⟨p.blk, p.base + off * n, c, hs _ _ q2, rfl, ?_⟩⟩
  have := VRE.take len (VRE.drop off (VRE.mono (g.1.trans hs) _ b7))
  exact VRE.rho _ (by rw [mentsL_take len (mentsL_drop off b6)]; simp) this
end

/-! The blocks handed over. -/
structure ExtOK (m : Ro) (w : World) (base : Nat) (ρ : Rho) (ex : List Blk) (blks : List Nat) : Prop where
  len : blks.length = ex.length
  nodup : blks.Nodup
  at_ : ∀ j x, ex[j]? = some x → ∃ p, ρ (base + j) = some p ∧ blks[j]? = some p.blk ∧ BR ρ m w p x ∧ m p.blk = none ∧ ∃ cs, x = .box cs ∧ mentsL cs = []

theorem BR.box {ρ ρ' : Rho} {m m' : Ro} {w w' : World} {p : Loc} {cs cs' : List DV} (h : BR ρ m w p (.box cs)) (hw : w'.heap[p.blk]? = w.heap[p.blk]?) (hl : ∀ vs, VRL ρ m cs vs → VRL ρ' m' cs' vs) : BR ρ' m' w' p (.box cs') := by
  simp only [BR] at h ⊢
  obtain ⟨c, el, fr, h1, h2, h3, h4, h5, h6⟩ := h
  exact ⟨c, el, fr, hw.trans h1, h2, h3, h4, hl _ h5, h6⟩

theorem outB_spec {h : Heap} : ∀ {l : List Nat} {ex : List Blk} {vs : List Nat}, outB h l = some (ex, vs) →
    ex.length = l.length ∧ (∀ (j : Nat) (b : Nat), l[j]? = some b → ∃ cs cs', hget h b = some (Blk.box cs) ∧ sealL h cs = some cs' ∧ ex[j]? = some (Blk.box cs') ∧ ∀ b' ∈ mentsL cs, b' ∈ vs) ∧ ViewsOK h vs
  | [], ex, vs, e => by simp [outB] at e; obtain ⟨rfl, rfl⟩ := e; exact ⟨rfl, by simp, by simp [ViewsOK]⟩
  | b :: l, ex, vs, e => by
    unfold outB at e
    split at e
    · rename_i cs hh
      split at e
      · rename_i cs' r vs' h1 h2
        simp only [Option.some.injEq, Prod.mk.injEq] at e
        obtain ⟨rfl, rfl⟩ := e
        obtain ⟨k1, k2, k3⟩ := outB_spec h2
        refine ⟨by simp [k1], fun j b' hb' => ?_, fun b' hb' => ?_⟩
        · cases j with
          | zero =>
            simp at hb'; subst hb'
            exact ⟨cs, cs', hh, h1, rfl, fun x hx => List.mem_append_left _ hx⟩
          | succ j =>
            simp at hb'
            obtain ⟨c1, c2, q1, q2, q3, q4⟩ := k2 j b' hb'
            exact ⟨c1, c2, q1, q2, by simpa using q3, fun x hx => List.mem_append_right _ (q4 x hx)⟩
        · rcases List.mem_append.1 hb' with hb' | hb'
          · exact (sealL_ments cs h1).2 b' hb'
          · exact k3 b' hb'
      · simp at e
    · simp at e

/-- A function's runs, told. -/
def CallOK (P : Program) (C : Cfg) (g : Nat) (xs : List DV) (ex : List Blk) (r : DV) (ex' : List Blk) : Prop :=
  r.ments = [] ∧ ex'.length = ex.length ∧
  ∀ (ρ : Rho) (m : Ro) (w : World) (vals : Array Value) (blks : List Nat), GlobOK C m → RoOK m w → VRL ρ m xs vals.toList → ExtOK m w (baseOf C g) ρ ex blks →
    Calls P g vals w fun e w' => ∃ v' m', e = .returned v' ∧ VR ρ m' r v' ∧ ExtOK m' w' (baseOf C g) ρ ex' blks ∧ RoOK m' w' ∧ Grows w.heap.size m m' ∧ Evo blks w w'

def callIn (C : Cfg) (h : Heap) (g : Nat) (xs : List DV) : Option (List DV × List Blk) :=
  match impL h (baseOf C g) xs {} with
  | none => none
  | some (xs', s) => match outB h s.exts with
    | none => none
    | some (ex, _) => some (xs', ex)

def callOut (C : Cfg) (h : Heap) (dst : Option Nat) (g : Nat) (xs : List DV) (r : DV) (ex' : List Blk) : Option Out :=
  callOp C (fun _ _ _ => some (r, ex')) h dst g xs

theorem setAll_get : ∀ (δ : List (Nat × Option Blk)) (h : Heap) (b : Nat), (∀ x ∈ δ, x.1 ≠ b) → hget (setAll h δ) b = hget h b
  | [], h, b, _ => rfl
  | (b', x) :: δ, h, b, hn => by
    simp only [setAll]
    rw [setAll_get δ _ b fun y hy => hn y (List.mem_cons_of_mem _ hy), hget_set, if_neg]
    intro e; exact hn _ List.mem_cons_self e.symm
theorem setAll_append (h : Heap) (a b : List (Nat × Option Blk)) : setAll h (a ++ b) = setAll (setAll h a) b := by
  induction a generalizing h with
  | nil => rfl
  | cons x a ih => simp only [List.cons_append, setAll]; exact ih _
theorem setNone_get : ∀ (V : List Nat) (h : Heap) (b : Nat), hget (setAll h (V.map fun b => (b, none))) b = if b ∈ V then none else hget h b
  | [], h, b => by simp [setAll]
  | v :: V, h, b => by
    simp only [List.map_cons, setAll]
    rw [setNone_get V, hget_set]
    by_cases h1 : b ∈ V
    · simp [h1]
    · by_cases h2 : b = v
      · subst h2; simp [h1]
      · simp [h1, h2]
theorem backs_get : ∀ {l : List Nat} {ex : List Blk} (h : Heap) (b : Nat) (x : Blk), ex.length = l.length → l.Nodup → (∀ b ∈ l, b < h.length) → hget (setAll h (backs l ex)) b = some x →
    (b ∉ l ∧ hget h b = some x) ∨ ∃ j : Nat, l[j]? = some b ∧ ex[j]? = some x
  | [], ex, h, b, x, _, _, _, e => by
    cases ex <;> exact .inl ⟨by simp, by simpa [backs, setAll] using e⟩
  | c :: l, [], h, b, x, hl, _, _, e => by simp at hl
  | c :: l, y :: ex, h, b, x, hl, hn, hb, e => by
    simp only [backs, setAll] at e
    simp only [List.nodup_cons] at hn
    rcases backs_get (h.set c (some y)) b x (by simpa using hl) hn.2 (by simpa using fun b' hb' => hb b' (List.mem_cons_of_mem _ hb')) e with ⟨h1, h2⟩ | ⟨j, h1, h2⟩
    · rw [hget_set] at h2
      split at h2
      · rename_i hbc; subst hbc
        rw [if_pos (hb b List.mem_cons_self)] at h2
        exact .inr ⟨0, rfl, h2⟩
      · rename_i hbc
        exact .inl ⟨by simp [hbc, h1], h2⟩
    · exact .inr ⟨j + 1, by simpa using h1, by simpa using h2⟩

end Go.Det
end

section
set_option linter.unusedVariables false
set_option linter.unusedSimpArgs false
namespace Go.Det

mutual
theorem VR.noPsl {ρ : Rho} {m m' : Ro} : ∀ (x : DV) {v : Value}, x.noPsl = true → VR ρ m x v → VR ρ m' x v
  | .any, _, _, h => h
  | .unk, _, _, h => h
  | .bool _, _, _, h => h
  | .int _ _, _, _, h => h
  | .str _, _, _, h => h
  | .nilptr, _, _, h => h
  | .ptr _ _ _ _, _, _, h => h
  | .eptr n es i off, _, hn, h => by simp [DV.noPsl] at hn
  | .gptr _ _, _, _, h => h
  | .nilsl, _, _, h => h
  | .rsl _ _ _ _, _, _, h => h
  | .psl n es, _, hn, h => by simp [DV.noPsl] at hn
  | .fn f a c, _, hn, h => by
    simp only [DV.noPsl, Bool.and_eq_true] at hn
    simp only [VR] at h ⊢
    obtain ⟨a', c', h1, h2, h3⟩ := h
    exact ⟨a', c', h1, VRL.noPsl a hn.1 h2, VRL.noPsl c hn.2 h3⟩
  | .nilfn, _, _, h => h
  | .iface t x, _, hn, h => by
    simp only [DV.noPsl] at hn
    simp only [VR] at h ⊢
    obtain ⟨x', h1, h2⟩ := h
    exact ⟨x', h1, VR.noPsl x hn h2⟩
  | .niliface, _, _, h => h
  | .map _, _, _, h => h
  | .nilmap, _, _, h => h
  | .agg cs, _, hn, h => by
    simp only [DV.noPsl] at hn
    simp only [VR] at h ⊢
    obtain ⟨vs, h1, h2, h3⟩ := h
    exact ⟨vs, h1, VRL.noPsl cs hn h2, h3⟩
  | .tup cs, _, hn, h => by
    simp only [DV.noPsl] at hn
    simp only [VR] at h ⊢
    obtain ⟨vs, h1, h2⟩ := h
    exact ⟨vs, h1, VRL.noPsl cs hn h2⟩
theorem VRL.noPsl {ρ : Rho} {m m' : Ro} : ∀ (l : List DV) {vs : List Value}, noPslL l = true → VRL ρ m l vs → VRL ρ m' l vs
  | [], _, _, h => h
  | x :: l, _, hn, h => by
    simp only [noPslL, Bool.and_eq_true] at hn
    simp only [VRL] at h ⊢
    obtain ⟨v, r, h1, h2, h3⟩ := h
    exact ⟨v, r, h1, VR.noPsl x hn.1 h2, VRL.noPsl l hn.2 h3⟩
end

theorem setAll_length (δ : List (Nat × Option Blk)) : ∀ h : Heap, (setAll h δ).length = h.length := by
  induction δ with
  | nil => intro h; rfl
  | cons x δ ih => intro h; simp [setAll, ih]

theorem hget_lt {h : Heap} {b : Nat} {x : Blk} (e : hget h b = some x) : b < h.length := by
  unfold hget at e
  rcases Nat.lt_or_ge b h.length with k | k
  · exact k
  · rw [List.getElem?_eq_none_iff.2 k] at e; simp at e

/-- A function that makes a slice of its own. -/
def OwnOK (P : Program) (C : Cfg) (g : Nat) (xs : List DV) (r : DV) : Prop :=
  r.ments = [] ∧
  ∀ (ρ : Rho) (m : Ro) (w : World) (vals : Array Value), GlobOK C m → RoOK m w → VRL ρ m xs vals.toList →
    Calls P g vals w fun e w' => ∃ v' m', e = .returned v' ∧ RoOK m' w' ∧ Grows w.heap.size m m' ∧ Evo [] w w' ∧
      match r with
      | .psl n (x :: es) => ∃ p cap, (x :: es).length ≤ cap ∧ p.base + cap * n ≤ p.size ∧ v' = .slice (some ⟨p.blk, p.base, none⟩) (x :: es).length cap ∧
          BR ρ m' w' p (.row n (x :: es)) ∧ m' p.blk = none ∧ w.heap.size ≤ p.blk
      | r => VR ρ m' r v'

section
variable {P : Program} {C : Cfg} {ρ : Rho} {m : Ro} {L : List Nat} {h : Heap} {w0 w : World}

/-- The state behind a call: what was handed over is new, what was seen is gone. -/
theorem after_call (i : Inv ρ m L w0.heap.size h w) (ev : Evo L w0 w) {V exts φ : List Nat} {ex' : List Blk} {ρ' ρc : Rho} {bs : Nat} {blks : List Nat} {m' : Ro} {w' : World} {H : Heap}
    (hV : ViewsOK h V) (hE : ExtR ρ ρc bs exts) (hb : ∀ b ∈ exts, ∃ cs, hget h b = some (.box cs))
    (hblk : ∀ (j b : Nat) (p : Loc), exts[j]? = some b → ρ b = some p → blks[j]? = some p.blk) (hbl : blks.length = exts.length)
    (hρ : ∀ b, b ∉ φ → ρ b = ρ' b)
    (hH : ∀ b x, hget H b = some x → ρ' b = ρ b ∧ ((b ∉ exts ∧ b ∉ V ∧ ∃ y, hget h b = some y ∧ x = y.forget φ) ∨ ∃ j : Nat, exts[j]? = some b ∧ ex'[j]? = some x))
    (k : ExtOK m' w' bs ρc ex' blks) (ro : RoOK m' w') (g : Grows w.heap.size (viewM ρ w m V) m') (e : Evo blks w w') :
    Inv ρ' m' L w0.heap.size H w' ∧ Evo L w0 w' ∧ Grows w0.heap.size m m' ∧ ∀ b x p, hget H b = some x → ρ' b = some p → p.blk < w.heap.size := by
  obtain ⟨g1, ro1, k1, k2⟩ := viewM_old i hV
  have old : ∀ b x, hget H b = some x → ∃ y, hget h b = some y ∧ y.isRow = x.isRow := by
    intro b x hx
    rcases hH b x hx with ⟨_, ⟨_, _, y, hy, rfl⟩ | ⟨j, hj, hj'⟩⟩
    · exact ⟨y, hy, (Blk.isRow_forget φ y).symm⟩
    · obtain ⟨cs, hc⟩ := hb b (List.mem_of_getElem? hj)
      obtain ⟨p, _, _, _, _, cs', rfl, _⟩ := k.at_ j x hj'
      exact ⟨_, hc, rfl⟩
  have hN : w0.heap.size ≤ w.heap.size := ev.size
  have hblks : ∀ r ∈ blks, ∃ (j b : Nat) (p : Loc) (cs : List DV), exts[j]? = some b ∧ ρ b = some p ∧ p.blk = r ∧ hget h b = some (.box cs) := by
    intro r hr
    obtain ⟨j, hj⟩ := List.getElem?_of_mem hr
    have hjl : j < exts.length := by rw [← hbl]; exact (List.getElem?_eq_some_iff.1 hj).1
    obtain ⟨p, hp, _⟩ := hE j _ (List.getElem?_eq_getElem hjl)
    obtain ⟨cs, hc⟩ := hb _ (List.getElem_mem hjl)
    have := hblk j _ p (List.getElem?_eq_getElem hjl) hp
    rw [hj] at this; cases this
    exact ⟨j, _, p, cs, List.getElem?_eq_getElem hjl, hp, rfl, hc⟩
  refine ⟨⟨fun b x hx => ?_, fun b b' x x' p p' hx hx' hp hp' hpp => ?_, ro.1, ro.2⟩, ⟨e.os.trans ev.os, e.tape.trans ev.tape, e.output.trans ev.output, Nat.le_trans hN e.size, fun r hr hrL => ?_⟩, g1.trans ⟨g.1, fun r hr => g.2 r (by omega), g.3⟩, fun b x p hx hp => ?_⟩
  · rcases hH b x hx with ⟨hρb, ⟨hbe, hbV, y, hy, rfl⟩ | ⟨j, hj, hj'⟩⟩
    · obtain ⟨p, hp, hB, hm, hL, hr⟩ := i.blk b y hy
      have hlt := hB.lt
      have hnb : p.blk ∉ blks := fun hin => by
        obtain ⟨j, b', p', cs, q1, q2, q3, q4⟩ := hblks _ hin
        have := i.inj b' b _ _ p' p q4 hy q2 hp q3
        subst this
        exact hbe (List.mem_of_getElem? q1)
      refine ⟨p, hρb.trans hp, hB.step (g1.1.trans g.1) φ hρ (e.keep _ hlt hnb), ?_, hL, fun h' => hr (by rw [← Blk.isRow_forget φ]; exact h')⟩
      rw [g.2 _ hlt, k2, hm]
      intro b' hb' p' hp' hpp
      obtain ⟨n, es, hrow⟩ := hV b' hb'
      have := i.inj b' b _ _ p' p hrow hy hp' hp hpp
      subst this
      exact hbV hb'
    · obtain ⟨cs0, hc⟩ := hb b (List.mem_of_getElem? hj)
      obtain ⟨p0, hp0, hB0, hm0, hL0, hr0⟩ := i.blk b _ hc
      obtain ⟨p, hp, hpb, hB, hm, cs, rfl, hcs⟩ := k.at_ j x hj'
      obtain ⟨p1, hp1, hp2⟩ := hE j b hj
      have e0 : p0 = p1 := by rw [hp0] at hp1; exact Option.some.inj hp1
      have e1 : p = p1 := by rw [hp] at hp2; exact Option.some.inj hp2
      subst e0 e1
      exact ⟨_, hρb.trans hp0, hB.box rfl fun vs hv => VRL.rho _ (by rw [hcs]; simp) hv, hm, hL0, by simp [Blk.isRow]⟩
  · obtain ⟨y, hy, _⟩ := old b x hx
    obtain ⟨y', hy', _⟩ := old b' x' hx'
    exact i.inj b b' y y' p p' hy hy' ((hH b x hx).1.symm.trans hp) ((hH b' x' hx').1.symm.trans hp') hpp
  · have : r ∉ blks := fun hin => by
      obtain ⟨j, b', p', cs, q1, q2, q3, q4⟩ := hblks _ hin
      obtain ⟨p0, hp0, hB0, hm0, hL0, hr0⟩ := i.blk b' _ q4
      have e0 : p' = p0 := by rw [q2] at hp0; exact Option.some.inj hp0
      subst e0
      rcases hL0 with hL0 | hL0
      · rw [q3] at hL0; exact hrL hL0
      · omega
    rw [e.keep r (by omega) this]
    exact ev.keep r hr hrL
  · obtain ⟨y, hy, _⟩ := old b x hx
    obtain ⟨p0, hp0, hB0, _⟩ := i.blk b y hy
    have e0 : p = p0 := by
      have := (hH b x hx).1
      rw [hp, hp0] at this; exact Option.some.inj this
    subst e0
    exact hB0.lt

/-- The heap behind a call. -/
theorem after_heap {V exts φ : List Nat} {ex' : List Blk} (hn : exts.Nodup) (hb : ∀ b ∈ exts, ∃ cs, hget h b = some (.box cs)) (hl : ex'.length = exts.length) (b : Nat) (x : Blk)
    (hx : hget (setAll (forgetH φ h) (V.map (fun b => (b, none)) ++ backs exts ex')) b = some x) :
    (b ∉ exts ∧ b ∉ V ∧ ∃ y, hget h b = some y ∧ x = y.forget φ) ∨ ∃ j : Nat, exts[j]? = some b ∧ ex'[j]? = some x := by
  have hlen : ∀ b ∈ exts, b < (setAll (forgetH φ h) (V.map (fun b => (b, none)))).length := fun b hb' => by
    obtain ⟨cs, hc⟩ := hb b hb'
    rw [setAll_length, forgetH_length]; exact hget_lt hc
  rw [setAll_append] at hx
  rcases backs_get _ b x hl hn hlen hx with ⟨q1, q2⟩ | q
  · rw [setNone_get] at q2
    split at q2
    · simp at q2
    · rename_i hbV
      rw [hget_forget] at q2
      cases hy : hget h b with
      | none => rw [hy] at q2; simp at q2
      | some y => rw [hy] at q2; simp at q2; exact .inl ⟨q1, hbV, y, rfl, q2.symm⟩
  · exact .inr q

theorem Inv.put {N : Nat} (i : Inv ρ m L N h w) {d : Nat} {p : Loc} {x : Blk} (hd : hget h d = none) (hp : ρ d = some p) (hB : BR ρ m w p x) (hm : m p.blk = none) (hN : N ≤ p.blk)
    (hf : ∀ b y q, hget h b = some y → ρ b = some q → q.blk ≠ p.blk) : Inv ρ m L N (h.set d (some x)) w := by
  refine ⟨fun b y hy => ?_, fun b b' y y' q q' hy hy' hq hq' hqq => ?_, i.ro, i.oth⟩
  · rw [hget_set] at hy
    split at hy
    · rename_i hbd; subst hbd
      split at hy
      · cases hy; exact ⟨p, hp, hB, hm, .inr hN, fun _ => hN⟩
      · simp at hy
    · exact i.blk b y hy
  · rw [hget_set] at hy hy'
    split at hy <;> split at hy'
    · rename_i h1 h2; rw [h1, h2]
    · rename_i h1 h2; subst h1
      rw [hp] at hq; cases hq
      exact absurd hqq.symm (hf b' y' q' hy' hq')
    · rename_i h1 h2; subst h2
      rw [hp] at hq'; cases hq'
      exact absurd hqq (hf b y q hy hq)
    · exact i.inj b b' y y' q q' hy hy' hq hq' hqq

set_option maxHeartbeats 1000000 in
theorem callOp_ok {g : Nat} {xs xs' : List DV} {vals : Array Value} {ex ex' : List Blk} {r : DV} {dst : Option Nat} {out : Out} (i : Inv ρ m L w0.heap.size h w) (ev : Evo L w0 w) (hG : GlobOK C m) (hx : VRL ρ m xs vals.toList)
    (e1 : callIn C h g xs = some (xs', ex)) (e2 : callOut C h dst g xs r ex' = some out) (hc : (C.own g = false ∧ CallOK P C g xs' ex r ex') ∨ (C.own g = true ∧ C.scal g = false ∧ OwnOK P C g xs' r)) :
    Calls P g vals w fun e w' => ∃ v' ρ' m', e = .returned v' ∧ Post L w0.heap.size h w0 w ρ m out v' w' ρ' m' := by
  unfold callIn at e1
  unfold callOut callOp at e2
  split at e1
  · simp at e1
  rename_i y s hi
  rw [hi] at e2
  simp only at e2
  split at e1
  · simp at e1
  rename_i ex0 vs ho
  rw [ho] at e2
  simp only [Option.some.injEq, Prod.mk.injEq] at e1
  obtain ⟨rfl, rfl⟩ := e1
  simp only [ne_eq, ite_not] at e2
  split at e2
  rotate_left
  · simp at e2
  rename_i hl
  obtain ⟨o1, o2, o3⟩ := outB_spec ho
  have hVs : ViewsOK h s.views := impL_views xs hi (by simp [ViewsOK])
  have hV : ViewsOK h (s.views ++ vs) := fun b hb => by
    rcases List.mem_append.1 hb with hb | hb
    · exact hVs b hb
    · exact o3 b hb
  have hnd : s.exts.Nodup := (impL_mono xs hi).2.2 (by simp)
  have hbox : ∀ b ∈ s.exts, ∃ cs, hget h b = some (.box cs) := fun b hb => by
    obtain ⟨j, hj⟩ := List.getElem?_of_mem hb
    obtain ⟨cs, cs', q1, _⟩ := o2 j b hj
    exact ⟨cs, q1⟩
  obtain ⟨g1, ro1, k1, k2⟩ := viewM_old i hV
  -- the callee's own numbers
  let bs := baseOf C g
  let ρc : Rho := fun b => if bs ≤ b then (s.exts[b - bs]?).bind ρ else none
  have hE : ExtR ρ ρc bs s.exts := fun j b hj => by
    obtain ⟨cs, hcs⟩ := hbox b (List.mem_of_getElem? hj)
    obtain ⟨p, hp, _⟩ := i.blk b _ hcs
    refine ⟨p, hp, ?_⟩
    have : bs ≤ bs + j := Nat.le_add_right _ _
    simp only [ρc, this, if_true, Nat.add_sub_cancel_left, hj, Option.bind_some, hp]
  let blks : List Nat := s.exts.filterMap fun b => (ρ b).map (·.blk)
  have hblk0 : ∀ l : List Nat, (∀ b ∈ l, ∃ p, ρ b = some p) → (l.filterMap fun b => (ρ b).map (·.blk)).length = l.length ∧ ∀ (j b : Nat) (p : Loc), l[j]? = some b → ρ b = some p → (l.filterMap fun b => (ρ b).map (·.blk))[j]? = some p.blk := by
    intro l
    induction l with
    | nil => intro _; exact ⟨rfl, by simp⟩
    | cons c l ih =>
      intro hl
      obtain ⟨p, hp⟩ := hl c List.mem_cons_self
      obtain ⟨a1, a2⟩ := ih fun b hb => hl b (List.mem_cons_of_mem _ hb)
      have hcons : (c :: l).filterMap (fun b => (ρ b).map (·.blk)) = p.blk :: l.filterMap fun b => (ρ b).map (·.blk) := by simp [hp]
      rw [hcons]
      refine ⟨by simp [a1], fun j b q hj hq => ?_⟩
      cases j with
      | zero => simp at hj; subst hj; rw [hp] at hq; cases hq; rfl
      | succ j => simp at hj; simpa using a2 j b q hj hq
  obtain ⟨hbl, hblk⟩ := hblk0 s.exts fun b hb => by
    obtain ⟨cs, hcs⟩ := hbox b hb
    obtain ⟨p, hp, _⟩ := i.blk b _ hcs
    exact ⟨p, hp⟩
  have hshow : Shows ρ m h (viewM ρ w m (s.views ++ vs)) (s.views ++ vs) := viewM_shows i hV (Sub.refl _)
  have hargs : VRL ρc (viewM ρ w m (s.views ++ vs)) y vals.toList :=
    impL_ok g1.1 hE hshow xs hi (List.prefix_refl _) (fun b hb => List.mem_append_left _ hb) hx
  have hnodup : blks.Nodup := by
    unfold List.Nodup
    rw [List.pairwise_iff_getElem]
    intro a b ha hb hab e
    have hbe : b < s.exts.length := by rw [← hbl]; exact hb
    have hae : a < s.exts.length := by omega
    obtain ⟨p, hp, _⟩ := hE a _ (List.getElem?_eq_getElem hae)
    obtain ⟨q, hq, _⟩ := hE b _ (List.getElem?_eq_getElem hbe)
    have z1 := hblk a _ p (List.getElem?_eq_getElem hae) hp
    have z2 := hblk b _ q (List.getElem?_eq_getElem hbe) hq
    have y1 : blks[a]? = some p.blk := z1
    have y2 : blks[b]? = some q.blk := z2
    rw [List.getElem?_eq_getElem ha, Option.some.injEq] at y1
    rw [List.getElem?_eq_getElem hb, Option.some.injEq] at y2
    obtain ⟨c1, hc1⟩ := hbox _ (List.getElem_mem hae)
    obtain ⟨c2, hc2⟩ := hbox _ (List.getElem_mem hbe)
    have := i.inj _ _ _ _ p q hc1 hc2 hp hq (by rw [← y1, ← y2]; exact e)
    exact List.pairwise_iff_getElem.1 hnd a b hae hbe hab this
  have hext : ExtOK (viewM ρ w m (s.views ++ vs)) w bs ρc ex0 blks := by
    refine ⟨by rw [hbl, o1], hnodup, fun j x hj => ?_⟩
    have hje : j < s.exts.length := by rw [← o1]; exact (List.getElem?_eq_some_iff.1 hj).1
    obtain ⟨cs, cs', q1, q2, q3, q4⟩ := o2 j _ (List.getElem?_eq_getElem hje)
    rw [hj] at q3; cases q3
    obtain ⟨p, hp, hpc⟩ := hE j _ (List.getElem?_eq_getElem hje)
    obtain ⟨p', hp', hB, hm', hL', hr'⟩ := i.blk _ _ q1
    rw [hp] at hp'; cases hp'
    refine ⟨p, hpc, hblk j _ p (List.getElem?_eq_getElem hje) hp, hB.box rfl fun u hu => sealL_ok g1.1 hshow cs q2 (fun b hb => List.mem_append_right _ (q4 b hb)) hu ρc, ?_, cs', rfl, (sealL_ments cs q2).1⟩
    rw [k2, hm']
    intro b' hb' p' hp' hpp
    obtain ⟨n, es, hrow⟩ := hV b' hb'
    have := i.inj b' _ _ _ p' p hrow q1 hp' hp hpp
    subst this
    rw [hrow] at q1; cases q1
  have hG' : GlobOK C (viewM ρ w m (s.views ++ vs)) := hG.mono g1.1
  split at e2
  · -- no memory comes back
    rename_i hsc
    split at e2
    rotate_left
    · simp at e2
    rename_i hnp
    simp only [Option.some.injEq] at e2; subst e2
    rcases hc with ⟨_, hc⟩ | ⟨_, hc, _⟩
    rotate_left
    · rw [hsc] at hc; cases hc
    obtain ⟨hc1, hc2, hc3⟩ := hc
    refine (hc3 ρc _ w vals blks hG' ro1 hargs hext).mono ?_
    rintro e w' ⟨v', m', rfl, a1, a2, a3, a4, a5⟩
    have hb0 : blks = [] := by simp [blks, hnp.2]
    rw [hb0] at a5
    refine ⟨v', ρ, m, rfl, ⟨?_, Grows.refl _ _, fun _ _ => rfl, ?_, ?_⟩⟩
    · exact VR.rho _ (by simp only; rw [hc1]; simp) (VR.noPsl r hnp.1 a1)
    · simp only [forgetH_nil, setAll]
      refine ⟨fun b x hb => ?_, i.inj, fun q c hq => ?_, fun q x hq => ⟨by rw [a5.keep q (i.oth_lt hq) (by simp)]; exact (i.oth q x hq).1, (i.oth q x hq).2⟩⟩
      · obtain ⟨p, p1, p2, p3, p4, p5⟩ := i.blk b x hb
        exact ⟨p, p1, by simpa [Blk.forget_nil] using p2.step (Sub.refl _) [] (fun _ _ => rfl) (a5.keep _ p2.lt (by simp)), p3, p4, p5⟩
      · obtain ⟨el, fr, hq'⟩ := i.ro q c hq
        exact ⟨el, fr, by rw [a5.keep q (i.ro_lt hq) (by simp)]; exact hq'⟩
    · exact ⟨a5.os.trans ev.os, a5.tape.trans ev.tape, a5.output.trans ev.output, Nat.le_trans ev.size a5.size, fun r hr hrL => by
        rw [a5.keep r (Nat.lt_of_lt_of_le hr ev.size) (by simp)]; exact ev.keep r hr hrL⟩
  · rename_i hsc
    split at e2
    · rename_i hown
      split at e2
      rotate_left
      · simp at e2
      rename_i hx0
      have hb0 : blks = [] := by simp [blks, hx0]
      have hex0 : ex0 = [] := by cases ex0 with | nil => rfl | cons a l => rw [hx0] at o1; simp at o1
      have hex0' : ex' = [] := by cases ex' with | nil => rfl | cons a l => rw [hx0] at hl; simp at hl
      subst hex0 hex0'
      have hc : OwnOK P C g y r := by
        rcases hc with ⟨hc, _⟩ | ⟨_, _, hc⟩
        · rw [hown] at hc; cases hc
        · exact hc
      obtain ⟨hc1, hc3⟩ := hc
      have hcall := hc3 ρc _ w vals hG' ro1 hargs
      have hX : ∀ (m' : Ro) (w' : World), ExtOK m' w' bs ρc [] blks := fun m' w' => ⟨by rw [hb0]; rfl, by rw [hb0]; simp, by simp⟩
      have hhp := fun (φ : List Nat) => after_heap (h := h) (V := s.views ++ vs) (φ := φ) (ex' := []) hnd hbox (by rw [hx0]; rfl)
      split at e2
      · -- empty
        rename_i n
        simp only [Option.some.injEq] at e2; subst e2
        refine hcall.mono ?_
        rintro e w' ⟨v', m', rfl, a3, a4, a5, a1⟩
        rw [← hb0] at a5
        obtain ⟨z1, z2, z3, z4⟩ := after_call i ev hV hE hbox hblk hbl (fun _ _ => rfl) (fun b x hx => ⟨rfl, hhp (s.views ++ vs) b x hx⟩) (hX m' w') a3 a4 a5
        exact ⟨v', ρ, m', rfl, ⟨VR.rho _ (by simp only; rw [hc1]; simp) a1, z3, fun _ _ => rfl, z1, z2⟩⟩
      · rename_i n es d hne
        simp only [Option.some.injEq] at e2; subst e2
        cases es with
        | nil => exact (hne rfl).elim
        | cons x es =>
        refine hcall.mono ?_
        rintro e w' ⟨v', m', rfl, a3, a4, a5, p, cap, b1, b2, rfl, b3, b4, b5⟩
        rw [← hb0] at a5
        have hset : ∀ b y, hget ((setAll (forgetH (d :: (s.views ++ vs)) h) ((s.views ++ vs).map (fun b => (b, none)) ++ backs s.exts [])).set d none) b = some y → b ≠ d ∧ hget (setAll (forgetH (d :: (s.views ++ vs)) h) ((s.views ++ vs).map (fun b => (b, none)) ++ backs s.exts [])) b = some y := by
          intro b y hy
          rw [hget_set] at hy
          split at hy
          · simp at hy
          · exact ⟨by assumption, hy⟩
        obtain ⟨z1, z2, z3, z4⟩ := after_call (ρ' := upd ρ d p) (φ := d :: (s.views ++ vs)) (H := (setAll (forgetH (d :: (s.views ++ vs)) h) ((s.views ++ vs).map (fun b => (b, none)) ++ backs s.exts [])).set d none) i ev hV hE hbox hblk hbl
          (fun b hb => (upd_other ρ d p (fun e => hb (e ▸ List.mem_cons_self))).symm) (fun b y hy => ⟨upd_other ρ d p (hset b y hy).1, hhp _ b y (hset b y hy).2⟩) (hX m' w') a3 a4 a5
        refine ⟨_, upd ρ d p, m', rfl, ⟨?_, z3, ?_, ?_, z2⟩⟩
        · simp only [VR]
          exact ⟨p, cap, upd_same ρ d p, b1, by simpa using b2, by simp⟩
        · intro b hb
          exact (upd_other ρ d p (fun e => hb (e ▸ List.mem_cons_self))).symm
        · have hb3 : BR (upd ρ d p) m' w' p (.row n (x :: es)) := by
            simp only [BR] at b3 ⊢
            obtain ⟨c, el, fr, c1, c2, c3, c4, c5, c6, c7⟩ := b3
            exact ⟨c, el, fr, c1, c2, c3, c4, c5, c6, VRE.rho _ (by rw [c6]; simp) c7⟩
          have := z1.put (d := d) (p := p) (by rw [hget_set]; simp) (upd_same ρ d p) hb3 b4 (Nat.le_trans ev.size b5) (fun b y q hy hq e => by
            have := z4 b y q hy hq
            omega)
          rw [List.set_set] at this
          rw [setAll_append]
          exact this
      · simp only [Option.some.injEq] at e2; subst e2
        refine hcall.mono ?_
        rintro e w' ⟨v', m', rfl, a3, a4, a5, a1⟩
        rw [← hb0] at a5
        obtain ⟨z1, z2, z3, z4⟩ := after_call i ev hV hE hbox hblk hbl (fun _ _ => rfl) (fun b x hx => ⟨rfl, hhp (s.views ++ vs) b x hx⟩) (hX m' w') a3 a4 a5
        exact ⟨v', ρ, m', rfl, ⟨VR.rho _ (by simp only; rw [hc1]; simp) a1, z3, fun _ _ => rfl, z1, z2⟩⟩
      · simp at e2
    · -- plain
      rename_i hown
      simp only [Option.some.injEq] at e2; subst e2
      have hc : CallOK P C g y ex0 r ex' := by
        rcases hc with ⟨_, hc⟩ | ⟨hc, _⟩
        · exact hc
        · rw [hc] at hown; simp at hown
      obtain ⟨hc1, hc2, hc3⟩ := hc
      refine (hc3 ρc _ w vals blks hG' ro1 hargs hext).mono ?_
      rintro e w' ⟨v', m', rfl, a1, a2, a3, a4, a5⟩
      obtain ⟨z1, z2, z3, z4⟩ := after_call i ev hV hE hbox hblk hbl (fun _ _ => rfl) (fun b x hx => ⟨rfl, after_heap hnd hbox hl b x hx⟩) a2 a3 a4 a5
      exact ⟨v', ρ, m', rfl, ⟨VR.rho _ (by simp only; rw [hc1]; simp) a1, z3, fun _ _ => rfl, z1, z2⟩⟩
end
end Go.Det
end

section
set_option linter.unusedVariables false
set_option linter.unusedSimpArgs false
namespace Go.Det

/-! What an operation looks at. -/
section
variable {C : Cfg} {h h' : Heap}
theorem elems_frame {n : Nat} {x : DV} (hx : ∀ b ∈ x.ments, hget h b = hget h' b) : elems h n x = elems h' n x := by
  cases x <;> simp only [elems]
  rename_i b n' off len
  rw [hx b (by simp [DV.ments])]
theorem loadOp_frame {t : Nat} {x : DV} (hx : ∀ b ∈ x.ments, hget h b = hget h' b) : loadOp C h t x = loadOp C h' t x := by
  unfold loadOp
  cases x <;> simp only
  rename_i b n' off len
  rw [hx b (by simp [DV.ments])]
theorem storeOp_frame {t : Nat} {x v : DV} (hx : ∀ b ∈ x.ments, hget h b = hget h' b) : storeOp C h t x v = storeOp C h' t x v := by
  unfold storeOp
  cases x <;> simp only
  rename_i b n' off len
  rw [hx b (by simp [DV.ments])]
theorem convertOp_frame {d a b : Nat} {x : DV} (hx : ∀ b ∈ x.ments, hget h b = hget h' b) : convertOp C h d a b x = convertOp C h' d a b x := by
  unfold convertOp
  cases C.T a with
  | none => rfl
  | some ta =>
    cases C.T b with
    | none => rfl
    | some tb =>
      obtain ⟨da, sa, ba, za⟩ := ta
      obtain ⟨db, sb, bb, zb⟩ := tb
      cases da <;> cases db <;> first | rfl | (cases x <;> first | rfl | (simp only [elems_frame hx]))
theorem appendOp_frame {d t : Nat} {s x : DV} (hs : ∀ b ∈ s.ments, hget h b = hget h' b) (hx : ∀ b ∈ x.ments, hget h b = hget h' b) : appendOp C h d t s x = appendOp C h' d t s x := by
  unfold appendOp
  simp only [elems_frame hx]
  cases s <;> first | rfl | skip
  rename_i b n' off len
  simp only [hs b (by simp [DV.ments])]
theorem copyOp_frame {t : Nat} {s x : DV} (hs : ∀ b ∈ s.ments, hget h b = hget h' b) (hx : ∀ b ∈ x.ments, hget h b = hget h' b) : copyOp C h t s x = copyOp C h' t s x := by
  unfold copyOp
  simp only [elems_frame hx]
  cases s <;> first | rfl | skip
  rename_i b n' off len
  simp only [hs b (by simp [DV.ments])]

theorem act_frame {f : Nat} {t t' : List DV} {dst : Option Nat} {op : Op} (ho : ∀ x ∈ op.operands.toList, opnd t' x = opnd t x)
    (hb : ∀ x ∈ op.operands.toList, ∀ b ∈ (opnd t x).ments, hget h' b = hget h b) : act C f t' h' dst op = act C f t h dst op := by
  have hparts : ∀ ps : Array (Nat × Operand), (∀ x ∈ (ps.toList.map (·.2)), opnd t' x = opnd t x) → parts t' ps = parts t ps := by
    intro ps hp
    unfold parts
    apply List.map_congr_left
    intro p hp'
    obtain ⟨i, x⟩ := p
    show (i, opnd t' x) = (i, opnd t x)
    rw [hp x (List.mem_map_of_mem (f := (·.2)) hp')]
  have hmap : ∀ l : List Operand, (∀ x ∈ l, opnd t' x = opnd t x) → l.map (opnd t') = l.map (opnd t) := fun l hl => List.map_congr_left hl
  have homap : ∀ l : Option Operand, (∀ x ∈ l.toList, opnd t' x = opnd t x) → l.map (opnd t') = l.map (opnd t) := by
    intro l hl
    cases l with
    | none => rfl
    | some x => simp [hl x (by simp)]
  cases op with
  | move x => simp only [act, ho x (by simp [Op.operands])]
  | assign x => simp only [act, ho x (by simp [Op.operands])]
  | pick c a b => simp only [act, ho c (by simp [Op.operands]), ho a (by simp [Op.operands]), ho b (by simp [Op.operands])]
  | alloc e => rfl
  | box e x => simp only [act, ho x (by simp [Op.operands])]
  | build ty ps => simp only [act]; rw [hparts ps (by simpa [Op.operands] using ho)]
  | buildSlice ty n ps => simp only [act]; rw [hparts ps (by simpa [Op.operands] using ho)]
  | load ty x => simp only [act, ho x (by simp [Op.operands])]; rw [loadOp_frame (hb x (by simp [Op.operands]))]
  | store ty x v => simp only [act, ho x (by simp [Op.operands]), ho v (by simp [Op.operands])]; rw [storeOp_frame (hb x (by simp [Op.operands]))]
  | nilCheck x => simp only [act, ho x (by simp [Op.operands])]
  | binOp op xt x y yt => simp only [act, ho x (by simp [Op.operands]), ho y (by simp [Op.operands])]
  | unOp op xt x => simp only [act, ho x (by simp [Op.operands])]
  | convert a b x =>
    simp only [act, ho x (by simp [Op.operands])]
    cases dst with
    | none => rfl
    | some d => simp only; rw [convertOp_frame (hb x (by simp [Op.operands]))]
  | makeInterface xt x => simp only [act, ho x (by simp [Op.operands])]
  | makeFunc fn first cap =>
    simp only [act]
    rw [hmap first.toList (fun x hx => ho x (by simp [Op.operands]; exact .inl (by simpa using hx))), hmap cap.toList (fun x hx => ho x (by simp [Op.operands]; exact .inr (by simpa using hx)))]
  | makeSlice ty l c => simp only [act, ho l (by simp [Op.operands]), ho c (by simp [Op.operands])]
  | slice ty x lo hi mx =>
    simp only [act, ho x (by simp [Op.operands])]
    rw [homap lo (fun x hx => ho x (by simp [Op.operands] at hx ⊢; simp [hx])), homap hi (fun x hx => ho x (by simp [Op.operands] at hx ⊢; simp [hx]))]
  | fieldAddr ty x fi => simp only [act, ho x (by simp [Op.operands])]
  | field ty x fi => simp only [act, ho x (by simp [Op.operands])]
  | indexAddr ty x i => simp only [act, ho x (by simp [Op.operands]), ho i (by simp [Op.operands])]
  | index ty x i => simp only [act, ho x (by simp [Op.operands]), ho i (by simp [Op.operands])]
  | range ty x => simp only [act, ho x (by simp [Op.operands])]
  | next it s =>
    cases s with
    | false => rfl
    | true =>
      simp only [act, ho it (by simp [Op.operands])]
      split
      · rename_i b hit
        rw [hb it (by simp [Op.operands]) b (by rw [hit]; simp [DV.ments])]
      · rfl
  | extract x i => simp only [act, ho x (by simp [Op.operands])]
  | call c =>
    obtain ⟨callee, as1, ts⟩ := c
    cases callee with
    | value x => rfl
    | invoke x y => rfl
    | builtin b =>
      have ho' : ∀ x ∈ as1.toList, opnd t' x = opnd t x := fun x hx => ho x (by simpa [Op.operands, Call.operands] using hx)
      have hb' : ∀ x ∈ as1.toList, ∀ b ∈ (opnd t x).ments, hget h' b = hget h b := fun x hx => hb x (by simpa [Op.operands, Call.operands] using hx)
      simp only [act]
      split
      · rename_i s x ty tx hs ht
        rw [hs] at ho' hb'
        rw [ho' s (by simp), ho' x (by simp)]
        have : ∀ d, appendOp C h' d ty (opnd t s) (opnd t x) = appendOp C h d ty (opnd t s) (opnd t x) := fun d => appendOp_frame (hb' s (by simp)) (hb' x (by simp))
        simp only [this]
      · rename_i s x ty l hs ht
        rw [hs] at ho' hb'
        rw [ho' s (by simp), ho' x (by simp)]
        exact copyOp_frame (hb' s (by simp)) (hb' x (by simp))
      · rename_i x ty l hs ht
        rw [hs] at ho'
        rw [ho' x (by simp)]
      · rename_i ts' x l hs
        rw [hs] at ho'
        rw [ho' x (by simp), hmap l (fun y hy => ho' y (by simp [hy]))]
      · rename_i ts' x l hs
        rw [hs] at ho'
        rw [ho' x (by simp), hmap l (fun y hy => ho' y (by simp [hy]))]
      · rfl
  | _ => rfl

/-! The same of calls. -/
theorem viewRow_frame {b n off len : Nat} (hx : hget h b = hget h' b) : viewRow h b n off len = viewRow h' b n off len := by
  unfold viewRow; rw [hx]
mutual
theorem imp_frame {base : Nat} : ∀ (x : DV) (s : Imp), (∀ b ∈ x.ments, hget h b = hget h' b) → imp h base x s = imp h' base x s
  | .any, s, _ => rfl
  | .unk, s, _ => rfl
  | .bool _, s, _ => rfl
  | .int _ _, s, _ => rfl
  | .str _, s, _ => rfl
  | .nilptr, s, _ => rfl
  | .ptr _ _ _ _, s, _ => rfl
  | .eptr _ _ _ _, s, _ => rfl
  | .gptr _ _, s, _ => rfl
  | .nilsl, s, _ => rfl
  | .rsl b n off len, s, hx => by simp only [imp]; rw [viewRow_frame (hx b (by simp [DV.ments]))]
  | .psl _ _, s, _ => rfl
  | .fn f a c, s, hx => by
    simp only [imp]
    rw [impL_frame a s fun b hb => hx b (by simp [DV.ments, hb])]
    cases impL h' base a s with
    | none => rfl
    | some p => simp only; rw [impL_frame c p.2 fun b hb => hx b (by simp [DV.ments, hb])]
  | .nilfn, s, _ => rfl
  | .iface t v, s, hx => by simp only [imp]; rw [imp_frame v s (by simpa [DV.ments] using hx)]
  | .niliface, s, _ => rfl
  | .map _, s, _ => rfl
  | .nilmap, s, _ => rfl
  | .agg cs, s, hx => by simp only [imp]; rw [impL_frame cs s (by simpa [DV.ments] using hx)]
  | .tup cs, s, hx => by simp only [imp]; rw [impL_frame cs s (by simpa [DV.ments] using hx)]
theorem impL_frame {base : Nat} : ∀ (l : List DV) (s : Imp), (∀ b ∈ mentsL l, hget h b = hget h' b) → impL h base l s = impL h' base l s
  | [], s, _ => rfl
  | x :: l, s, hx => by
    simp only [impL]
    rw [imp_frame x s fun b hb => hx b (by simp [mentsL, hb])]
    cases imp h' base x s with
    | none => rfl
    | some p => simp only; rw [impL_frame l p.2 fun b hb => hx b (by simp [mentsL, hb])]
end
mutual
theorem sealV_frame : ∀ (x : DV), (∀ b ∈ x.ments, hget h b = hget h' b) → sealV h x = sealV h' x
  | .any, _ => rfl
  | .unk, _ => rfl
  | .bool _, _ => rfl
  | .int _ _, _ => rfl
  | .str _, _ => rfl
  | .nilptr, _ => rfl
  | .ptr _ _ _ _, _ => rfl
  | .eptr _ _ _ _, _ => rfl
  | .gptr _ _, _ => rfl
  | .nilsl, _ => rfl
  | .rsl b n off len, hx => by simp only [sealV]; rw [viewRow_frame (hx b (by simp [DV.ments]))]
  | .psl _ _, _ => rfl
  | .fn f a c, hx => by
    simp only [sealV]
    rw [sealL_frame a fun b hb => hx b (by simp [DV.ments, hb]), sealL_frame c fun b hb => hx b (by simp [DV.ments, hb])]
  | .nilfn, _ => rfl
  | .iface t v, hx => by simp only [sealV]; rw [sealV_frame v (by simpa [DV.ments] using hx)]
  | .niliface, _ => rfl
  | .map _, _ => rfl
  | .nilmap, _ => rfl
  | .agg cs, hx => by simp only [sealV]; rw [sealL_frame cs (by simpa [DV.ments] using hx)]
  | .tup cs, hx => by simp only [sealV]; rw [sealL_frame cs (by simpa [DV.ments] using hx)]
theorem sealL_frame : ∀ (l : List DV), (∀ b ∈ mentsL l, hget h b = hget h' b) → sealL h l = sealL h' l
  | [], _ => rfl
  | x :: l, hx => by
    simp only [sealL]
    rw [sealV_frame x fun b hb => hx b (by simp [mentsL, hb]), sealL_frame l fun b hb => hx b (by simp [mentsL, hb])]
end
theorem outB_frame : ∀ (l : List Nat), (∀ b ∈ l, hget h b = hget h' b ∧ ∀ b' ∈ boxMents (hget h b), hget h b' = hget h' b') → outB h l = outB h' l
  | [], _ => rfl
  | b :: l, hx => by
    obtain ⟨h1, h2⟩ := hx b List.mem_cons_self
    unfold outB
    rw [outB_frame l fun b hb => hx b (List.mem_cons_of_mem _ hb), ← h1]
    cases hh : hget h b with
    | none => rfl
    | some x =>
      cases x <;> simp only
      rename_i cs
      rw [sealL_frame cs fun b' hb' => h2 b' (by rw [hh]; exact hb')]

mutual
theorem imp_exts {base : Nat} : ∀ (x : DV) {s s' : Imp} {x' : DV}, imp h base x s = some (x', s') → ∀ b ∈ s'.exts, b ∈ s.exts ∨ b ∈ x.ments
  | .any, s, s', x', e => by simp [imp] at e
  | .unk, s, s', x', e => by simp [imp] at e
  | .bool _, s, s', x', e => by simp [imp] at e; obtain ⟨_, rfl⟩ := e; exact fun _ h => .inl h
  | .int _ _, s, s', x', e => by simp [imp] at e; obtain ⟨_, rfl⟩ := e; exact fun _ h => .inl h
  | .str _, s, s', x', e => by simp [imp] at e; obtain ⟨_, rfl⟩ := e; exact fun _ h => .inl h
  | .nilptr, s, s', x', e => by simp [imp] at e; obtain ⟨_, rfl⟩ := e; exact fun _ h => .inl h
  | .ptr b n i off, s, s', x', e => by
    simp only [imp] at e
    split at e
    · simp only [Option.some.injEq, Prod.mk.injEq] at e; obtain ⟨_, rfl⟩ := e
      intro c hc
      unfold Imp.ext at hc
      split at hc
      · exact .inl hc
      · rcases List.mem_append.1 hc with hc | hc
        · exact .inl hc
        · simp at hc; subst hc; exact .inr (by simp [DV.ments])
    · simp at e
  | .eptr _ _ _ _, s, s', x', e => by simp [imp] at e; obtain ⟨_, rfl⟩ := e; exact fun _ h => .inl h
  | .gptr _ _, s, s', x', e => by simp [imp] at e; obtain ⟨_, rfl⟩ := e; exact fun _ h => .inl h
  | .nilsl, s, s', x', e => by simp [imp] at e; obtain ⟨_, rfl⟩ := e; exact fun _ h => .inl h
  | .rsl b n off len, s, s', x', e => by
    simp only [imp, Option.map_eq_some_iff, Prod.mk.injEq] at e
    obtain ⟨v, _, _, rfl⟩ := e
    exact fun _ h => .inl h
  | .psl _ _, s, s', x', e => by simp [imp] at e; obtain ⟨_, rfl⟩ := e; exact fun _ h => .inl h
  | .fn f a c, s, s', x', e => by
    simp only [imp] at e
    split at e
    · rename_i a' s1 h1
      simp only [Option.map_eq_some_iff, Prod.mk.injEq] at e
      obtain ⟨⟨c', s2⟩, h2, _, rfl⟩ := e
      intro b hb
      rcases impL_exts c h2 b hb with hb | hb
      · rcases impL_exts a h1 b hb with hb | hb
        · exact .inl hb
        · exact .inr (by simp [DV.ments, hb])
      · exact .inr (by simp [DV.ments, hb])
    · simp at e
  | .nilfn, s, s', x', e => by simp [imp] at e; obtain ⟨_, rfl⟩ := e; exact fun _ h => .inl h
  | .iface t v, s, s', x', e => by
    simp only [imp, Option.map_eq_some_iff, Prod.mk.injEq] at e
    obtain ⟨⟨v', s1⟩, h1, _, rfl⟩ := e
    simpa [DV.ments] using imp_exts v h1
  | .niliface, s, s', x', e => by simp [imp] at e; obtain ⟨_, rfl⟩ := e; exact fun _ h => .inl h
  | .map b, s, s', x', e => by
    simp only [imp, Option.some.injEq, Prod.mk.injEq] at e; obtain ⟨_, rfl⟩ := e
    intro c hc
    unfold Imp.ext at hc
    split at hc
    · exact .inl hc
    · rcases List.mem_append.1 hc with hc | hc
      · exact .inl hc
      · simp at hc; subst hc; exact .inr (by simp [DV.ments])
  | .nilmap, s, s', x', e => by simp [imp] at e; obtain ⟨_, rfl⟩ := e; exact fun _ h => .inl h
  | .agg cs, s, s', x', e => by
    simp only [imp, Option.map_eq_some_iff, Prod.mk.injEq] at e
    obtain ⟨⟨v', s1⟩, h1, _, rfl⟩ := e
    simpa [DV.ments] using impL_exts cs h1
  | .tup cs, s, s', x', e => by
    simp only [imp, Option.map_eq_some_iff, Prod.mk.injEq] at e
    obtain ⟨⟨v', s1⟩, h1, _, rfl⟩ := e
    simpa [DV.ments] using impL_exts cs h1
theorem impL_exts {base : Nat} : ∀ (l : List DV) {s s' : Imp} {l' : List DV}, impL h base l s = some (l', s') → ∀ b ∈ s'.exts, b ∈ s.exts ∨ b ∈ mentsL l
  | [], s, s', l', e => by simp [impL] at e; obtain ⟨_, rfl⟩ := e; exact fun _ h => .inl h
  | x :: l, s, s', l', e => by
    simp only [impL] at e
    split at e
    · rename_i v' s1 h1
      simp only [Option.map_eq_some_iff, Prod.mk.injEq] at e
      obtain ⟨⟨c', s2⟩, h2, _, rfl⟩ := e
      intro b hb
      rcases impL_exts l h2 b hb with hb | hb
      · rcases imp_exts x h1 b hb with hb | hb
        · exact .inl hb
        · exact .inr (by simp [mentsL, hb])
      · exact .inr (by simp [mentsL, hb])
    · simp at e
end

/-- The blocks that a call may look into. -/
def deepMents (h : Heap) (l : List Nat) : List Nat := l ++ l.flatMap fun b => boxMents (hget h b)

theorem callIn_frame {g : Nat} {xs : List DV} (hx : ∀ b ∈ deepMents h (mentsL xs), hget h b = hget h' b) : callIn C h g xs = callIn C h' g xs := by
  have h1 : ∀ b ∈ mentsL xs, hget h b = hget h' b := fun b hb => hx b (List.mem_append_left _ hb)
  unfold callIn
  rw [← impL_frame xs {} h1]
  cases hi : impL h (baseOf C g) xs {} with
  | none => rfl
  | some p =>
    have he := impL_exts xs hi
    simp only
    rw [outB_frame p.2.exts fun b hb => ?_]
    have hb' : b ∈ mentsL xs := by simpa using he b hb
    exact ⟨h1 b hb', fun b' hb'' => hx b' (List.mem_append_right _ (List.mem_flatMap.2 ⟨b, hb', hb''⟩))⟩
theorem callOut_frame {g : Nat} {dst : Option Nat} {xs : List DV} {r : DV} {ex' : List Blk} (hx : ∀ b ∈ deepMents h (mentsL xs), hget h b = hget h' b) : callOut C h dst g xs r ex' = callOut C h' dst g xs r ex' := by
  have h1 : ∀ b ∈ mentsL xs, hget h b = hget h' b := fun b hb => hx b (List.mem_append_left _ hb)
  unfold callOut callOp
  rw [← impL_frame xs {} h1]
  cases hi : impL h (baseOf C g) xs {} with
  | none => rfl
  | some p =>
    have he := impL_exts xs hi
    simp only
    rw [outB_frame p.2.exts fun b hb => ?_]
    have hb' : b ∈ mentsL xs := by simpa using he b hb
    exact ⟨h1 b hb', fun b' hb'' => hx b' (List.mem_append_right _ (List.mem_flatMap.2 ⟨b, hb', hb''⟩))⟩
end
end Go.Det
end

section
set_option linter.unusedVariables false
set_option linter.unusedSimpArgs false
namespace Go.Det

/-! Orders that are left open. -/
mutual
theorem forget_id (φ : List Nat) : ∀ (x : DV), (∀ b ∈ x.ments, b ∉ φ) → x.forget φ = x
  | .any, _ => rfl
  | .unk, _ => rfl
  | .bool _, _ => rfl
  | .int _ _, _ => rfl
  | .str _, _ => rfl
  | .nilptr, _ => rfl
  | .ptr b n i off, h => by have := h b (by simp [DV.ments]); simp [DV.forget, this]
  | .eptr .., _ => rfl
  | .gptr .., _ => rfl
  | .nilsl, _ => rfl
  | .rsl b n off len, h => by have := h b (by simp [DV.ments]); simp [DV.forget, this]
  | .psl .., _ => rfl
  | .fn f a c, h => by simp only [DV.forget]; rw [forgetL_id φ a fun b hb => h b (by simp [DV.ments, hb]), forgetL_id φ c fun b hb => h b (by simp [DV.ments, hb])]
  | .nilfn, _ => rfl
  | .iface t v, h => by simp only [DV.forget]; rw [forget_id φ v (by simpa [DV.ments] using h)]
  | .niliface, _ => rfl
  | .map b, h => by have := h b (by simp [DV.ments]); simp [DV.forget, this]
  | .nilmap, _ => rfl
  | .agg cs, h => by simp only [DV.forget]; rw [forgetL_id φ cs (by simpa [DV.ments] using h)]
  | .tup cs, h => by simp only [DV.forget]; rw [forgetL_id φ cs (by simpa [DV.ments] using h)]
theorem forgetL_id (φ : List Nat) : ∀ (l : List DV), (∀ b ∈ mentsL l, b ∉ φ) → forgetL φ l = l
  | [], _ => rfl
  | x :: l, h => by simp only [forgetL]; rw [forget_id φ x fun b hb => h b (by simp [mentsL, hb]), forgetL_id φ l fun b hb => h b (by simp [mentsL, hb])]
end

def stMents (st : St) : List Nat := mentsL st.t ++ st.h.flatMap boxMents
def outMents (o : Out) : List Nat := o.v.ments ++ o.δ.flatMap fun x => boxMents x.2

theorem Blk.forget_id (φ : List Nat) (b : Blk) (h : ∀ c ∈ boxMents (some b), c ∉ φ) : b.forget φ = b := by
  cases b with
  | box cs => simp only [Blk.forget]; rw [forgetL_id φ cs h]
  | row n es => rfl
  | iter s p => rfl
theorem forgetH_id (φ : List Nat) : ∀ (h : Heap), (∀ b ∈ h.flatMap boxMents, b ∉ φ) → forgetH φ h = h
  | [], _ => rfl
  | x :: l, hh => by
    have h1 := forgetH_id φ l fun b hb => hh b (by simp only [List.flatMap_cons, List.mem_append]; exact .inr hb)
    unfold forgetH at h1 ⊢
    simp only [List.map_cons, h1]
    cases x with
    | none => rfl
    | some b => simp only [Option.map_some]; rw [Blk.forget_id φ b fun c hc => hh c (by simp only [List.flatMap_cons, List.mem_append]; exact .inl hc)]

/-- Without any forgetting. -/
def applyP (st : St) (dst : Option Nat) (o : Out) : St :=
  { t := (match dst with | some d => st.t.set d o.v | none => st.t), h := setAll st.h o.δ }
theorem apply_eq_applyP {st : St} {dst : Option Nat} {o : Out} (h : ∀ b ∈ o.φ, b ∉ stMents st) : apply st dst o = applyP st dst o := by
  rw [apply_eq]
  unfold applyP
  rw [forgetL_id _ _ fun b hb hb' => h b hb' (List.mem_append_left _ hb), forgetH_id _ _ fun b hb hb' => h b hb' (List.mem_append_right _ hb)]
  cases dst <;> rfl

theorem mem_set_of {α : Type} {l : List α} {d : Nat} {v x : α} (h : x ∈ l.set d v) : x ∈ l ∨ x = v := List.mem_or_eq_of_mem_set h
theorem stMents_applyP {st : St} {dst : Option Nat} {o : Out} {b : Nat} (h : b ∈ stMents (applyP st dst o)) : b ∈ stMents st ∨ b ∈ outMents o := by
  unfold stMents applyP at h
  rcases List.mem_append.1 h with h | h
  · cases dst with
    | none => exact .inl (List.mem_append_left _ h)
    | some d =>
      obtain ⟨x, hx, hb⟩ := of_mentsL h
      rcases mem_set_of hx with hx | rfl
      · exact .inl (List.mem_append_left _ (mentsL_mem hx hb))
      · exact .inr (List.mem_append_left _ hb)
  · have key : ∀ (δ : List (Nat × Option Blk)) (h : Heap), b ∈ (setAll h δ).flatMap boxMents → b ∈ h.flatMap boxMents ∨ b ∈ δ.flatMap fun x => boxMents x.2 := by
      intro δ
      induction δ with
      | nil => exact fun h hb => .inl hb
      | cons x δ ih =>
        intro h hb
        obtain ⟨c, x⟩ := x
        simp only [setAll] at hb
        rcases ih _ hb with hb | hb
        · obtain ⟨y, hy, hb'⟩ := List.mem_flatMap.1 hb
          clear hb
          rcases mem_set_of hy with hy | rfl
          · exact .inl (List.mem_flatMap.2 ⟨y, hy, hb'⟩)
          · exact .inr (by rw [List.flatMap_cons, List.mem_append]; exact .inl (by assumption))
        · exact .inr (by simp only [List.flatMap_cons, List.mem_append]; exact .inr hb)
    rcases key _ _ h with h | h
    · exact .inl (List.mem_append_right _ h)
    · exact .inr (List.mem_append_right _ h)

/-! Values that nothing has been forgotten of. -/
mutual
def DV.clean : DV → Bool
  | .any => false
  | .fn _ a c => cleanL a && cleanL c
  | .iface _ v => v.clean
  | .agg cs => cleanL cs
  | .tup vs => cleanL vs
  | _ => true
def cleanL : List DV → Bool
  | [] => true
  | v :: l => v.clean && cleanL l
end
def blkClean : Option Blk → Bool
  | some (.box cs) => cleanL cs
  | _ => true

mutual
theorem clean_forget (φ : List Nat) : ∀ (x : DV), (x.forget φ).clean = true → x.forget φ = x
  | .any, h => by simp [DV.forget, DV.clean] at h
  | .unk, _ => rfl
  | .bool _, _ => rfl
  | .int _ _, _ => rfl
  | .str _, _ => rfl
  | .nilptr, _ => rfl
  | .ptr b n i off, h => by
    simp only [DV.forget] at h ⊢
    split at h
    · simp [DV.clean] at h
    · rename_i hb; rw [if_neg hb]
  | .eptr .., _ => rfl
  | .gptr .., _ => rfl
  | .nilsl, _ => rfl
  | .rsl b n off len, h => by
    simp only [DV.forget] at h ⊢
    split at h
    · simp [DV.clean] at h
    · rename_i hb; rw [if_neg hb]
  | .psl .., _ => rfl
  | .fn f a c, h => by
    simp only [DV.forget, DV.clean, Bool.and_eq_true] at h ⊢
    rw [clean_forgetL φ a h.1, clean_forgetL φ c h.2]
  | .nilfn, _ => rfl
  | .iface t v, h => by simp only [DV.forget, DV.clean] at h ⊢; rw [clean_forget φ v h]
  | .niliface, _ => rfl
  | .map b, h => by
    simp only [DV.forget] at h ⊢
    split at h
    · simp [DV.clean] at h
    · rename_i hb; rw [if_neg hb]
  | .nilmap, _ => rfl
  | .agg cs, h => by simp only [DV.forget, DV.clean] at h ⊢; rw [clean_forgetL φ cs h]
  | .tup cs, h => by simp only [DV.forget, DV.clean] at h ⊢; rw [clean_forgetL φ cs h]
theorem clean_forgetL (φ : List Nat) : ∀ (l : List DV), cleanL (forgetL φ l) = true → forgetL φ l = l
  | [], _ => rfl
  | x :: l, h => by
    simp only [forgetL, cleanL, Bool.and_eq_true] at h ⊢
    rw [clean_forget φ x h.1, clean_forgetL φ l h.2]
end
theorem blkClean_forget (φ : List Nat) (x : Option Blk) (h : blkClean (x.map (Blk.forget φ)) = true) : x.map (Blk.forget φ) = x := by
  cases x with
  | none => rfl
  | some b => cases b with
    | box cs => simp only [Option.map_some, Blk.forget, blkClean] at h ⊢; rw [clean_forgetL φ cs h]
    | row n es => rfl
    | iter s p => rfl

mutual
theorem forget_comm (φ ψ : List Nat) : ∀ (x : DV), (x.forget φ).forget ψ = (x.forget ψ).forget φ
  | .any => rfl
  | .unk => rfl
  | .bool _ => rfl
  | .int _ _ => rfl
  | .str _ => rfl
  | .nilptr => rfl
  | .ptr b n i off => by simp only [DV.forget]; by_cases h1 : φ.contains b <;> by_cases h2 : ψ.contains b <;> simp only [h1, h2, if_true, if_false, DV.forget, Bool.false_eq_true]
  | .eptr .. => rfl
  | .gptr .. => rfl
  | .nilsl => rfl
  | .rsl b n off len => by simp only [DV.forget]; by_cases h1 : φ.contains b <;> by_cases h2 : ψ.contains b <;> simp only [h1, h2, if_true, if_false, DV.forget, Bool.false_eq_true]
  | .psl .. => rfl
  | .fn f a c => by simp only [DV.forget]; rw [forgetL_comm φ ψ a, forgetL_comm φ ψ c]
  | .nilfn => rfl
  | .iface t v => by simp only [DV.forget]; rw [forget_comm φ ψ v]
  | .niliface => rfl
  | .map b => by simp only [DV.forget]; by_cases h1 : φ.contains b <;> by_cases h2 : ψ.contains b <;> simp only [h1, h2, if_true, if_false, DV.forget, Bool.false_eq_true]
  | .nilmap => rfl
  | .agg cs => by simp only [DV.forget]; rw [forgetL_comm φ ψ cs]
  | .tup cs => by simp only [DV.forget]; rw [forgetL_comm φ ψ cs]
theorem forgetL_comm (φ ψ : List Nat) : ∀ (l : List DV), forgetL ψ (forgetL φ l) = forgetL φ (forgetL ψ l)
  | [] => rfl
  | x :: l => by simp only [forgetL]; rw [forget_comm φ ψ x, forgetL_comm φ ψ l]
end
theorem forgetH_comm (φ ψ : List Nat) (h : Heap) : forgetH ψ (forgetH φ h) = forgetH φ (forgetH ψ h) := by
  unfold forgetH
  rw [List.map_map, List.map_map]
  apply List.map_congr_left
  intro x _
  cases x with
  | none => rfl
  | some b => cases b with
    | box cs => simp [Blk.forget, forgetL_comm φ ψ cs]
    | row n es => rfl
    | iter s p => rfl
theorem forgetL_eq_map (φ : List Nat) : ∀ l : List DV, forgetL φ l = l.map (DV.forget φ)
  | [] => rfl
  | x :: l => by simp [forgetL, forgetL_eq_map φ l]
theorem forgetL_set (φ : List Nat) (l : List DV) (d : Nat) (v : DV) : forgetL φ (l.set d v) = (forgetL φ l).set d (v.forget φ) := by
  rw [forgetL_eq_map, forgetL_eq_map, List.map_set]
theorem forgetL_len (φ : List Nat) (l : List DV) : (forgetL φ l).length = l.length := by simp [forgetL_eq_map]
theorem sget_forget (φ : List Nat) (l : List DV) (s : Nat) : sget (forgetL φ l) s = (sget l s).forget φ := by
  unfold sget
  rw [forgetL_eq_map, List.getD_eq_getElem?_getD, List.getD_eq_getElem?_getD, List.getElem?_map]
  cases l[s]? <;> rfl
theorem forgetH_setAll (φ : List Nat) : ∀ (δ : List (Nat × Option Blk)) (h : Heap), (∀ b ∈ δ.flatMap (fun x => boxMents x.2), b ∉ φ) → forgetH φ (setAll h δ) = setAll (forgetH φ h) δ
  | [], h, _ => rfl
  | (c, y) :: δ, h, hb => by
    simp only [setAll]
    rw [forgetH_setAll φ δ _ fun b hb' => hb b (by simp only [List.flatMap_cons, List.mem_append]; exact .inr hb')]
    have hy : y.map (Blk.forget φ) = y := by
      cases y with
      | none => rfl
      | some z => simp only [Option.map_some]; rw [Blk.forget_id φ z fun c' hc => hb c' (by simp only [List.flatMap_cons, List.mem_append]; exact .inl hc)]
    have : forgetH φ (h.set c y) = (forgetH φ h).set c y := by
      unfold forgetH
      rw [List.map_set, hy]
    rw [this]

/-! Some of the operations, in the text's order. -/
def foldSel (sel : Nat → Bool) : Nat → List (Oper × Out) → St → St
  | _, [], st => st
  | k, (o, out) :: l, st => foldSel sel (k + 1) l (if sel k then apply st o.dst out else st)

def ids (o : Out) : List Nat := o.δ.map (·.1)

theorem sget_set (t : List DV) (d : Nat) (v : DV) (s : Nat) (h : s ≠ d) : sget (t.set d v) s = sget t s := by
  unfold sget
  rw [List.getD_eq_getElem?_getD, List.getD_eq_getElem?_getD, List.getElem?_set_ne (Ne.symm h)]
theorem sget_set' (t t' : List DV) (d : Nat) (v : DV) (h : t.length = t'.length) : sget (t.set d v) d = sget (t'.set d v) d := by
  unfold sget
  simp [List.getD_eq_getElem?_getD, List.getElem?_set, h]
theorem apply_len (st : St) (dst : Option Nat) (o : Out) : (apply st dst o).t.length = st.t.length ∧ (apply st dst o).h.length = st.h.length := by
  rw [apply_eq]
  cases dst <;> simp [setAll_length, forgetL_len, forgetH_length]

/-! What is seen of a state: a slot, or a block. -/
structure Seen (α : Type) where
  see : St → α
  len : St → Nat
  writes : Oper → Out → Bool
  forget : List Nat → α → α
  clean : α → Bool
  ments : α → List Nat
  len_apply : ∀ st (dst : Option Nat) o, len (apply st dst o) = len st
  skip : ∀ st (o : Oper) out, writes o out = false → see (apply st o.dst out) = forget out.φ (see st)
  put : ∀ st st' (o : Oper) out, len st = len st' → writes o out = true → see (apply st o.dst out) = see (apply st' o.dst out)
  nil : ∀ u, forget [] u = u
  keep : ∀ φ u, clean (forget φ u) = true → forget φ u = u
  apart : ∀ φ u, (∀ b ∈ ments u, b ∉ φ) → forget φ u = u

theorem Seen.noWriter {α : Type} (S : Seen α) {sel : Nat → Bool} : ∀ (l : List (Oper × Out)) (k : Nat) (st : St), (∀ j o out, l[j]? = some (o, out) → sel (k + j) = true → S.writes o out = false) →
    S.clean (S.see (foldSel sel k l st)) = true → S.see (foldSel sel k l st) = S.see st
  | [], _, _, _, _ => rfl
  | (o, out) :: l, k, st, hw, hc => by
    simp only [foldSel] at hc ⊢
    have ih := S.noWriter l (k + 1) (if sel k then apply st o.dst out else st) (fun j o' out' hj hs => hw (j + 1) o' out' (by simpa using hj) (by rw [show k + (j + 1) = k + 1 + j by omega]; exact hs)) hc
    rw [ih]
    by_cases hs : sel k = true
    · rw [if_pos hs]
      rw [ih, if_pos hs] at hc
      have hwf := hw 0 o out rfl (by simpa using hs)
      rw [S.skip st o out hwf] at hc ⊢
      exact S.keep _ _ hc
    · rw [if_neg hs]

theorem Seen.same {α : Type} (S : Seen α) {sel sel' : Nat → Bool} : ∀ (l : List (Oper × Out)) (k : Nat) (st st' : St), S.len st = S.len st' →
    (S.see st = S.see st' ∨ ∃ (j : Nat) (o : Oper) (out : Out), l[j]? = some (o, out) ∧ sel' (k + j) = true ∧ S.writes o out = true) →
    (∀ j o out, l[j]? = some (o, out) → S.writes o out = true → sel (k + j) = sel' (k + j)) →
    (∀ j o out, l[j]? = some (o, out) → sel (k + j) ≠ sel' (k + j) → out.φ = [] ∨ (S.clean (S.see (foldSel sel' k l st')) = true ∧ ∀ b ∈ S.ments (S.see (foldSel sel' k l st')), b ∉ out.φ)) →
    S.see (foldSel sel k l st) = S.see (foldSel sel' k l st')
  | [], _, _, _, _, h, _, _ => by
    rcases h with h | ⟨j, o, out, h, _⟩
    · exact h
    · simp at h
  | (o, out) :: l, k, st, st', hl, h, hside, hdiff => by
    have e1 : ∀ j, k + (j + 1) = k + 1 + j := fun j => by omega
    simp only [foldSel] at hdiff ⊢
    have hside' : ∀ j o' out', l[j]? = some (o', out') → S.writes o' out' = true → sel (k + 1 + j) = sel' (k + 1 + j) := fun j o' out' hj hw => by
      have := hside (j + 1) o' out' (by simpa using hj) hw; rwa [e1] at this
    have hdiff' : ∀ j o' out', l[j]? = some (o', out') → sel (k + 1 + j) ≠ sel' (k + 1 + j) → out'.φ = [] ∨ _ := fun j o' out' hj hd =>
      hdiff (j + 1) o' out' (by simpa using hj) (by rw [e1]; exact hd)
    have hl' : S.len (if sel k then apply st o.dst out else st) = S.len (if sel' k then apply st' o.dst out else st') := by
      split <;> split <;> simp only [S.len_apply, hl]
    refine S.same l (k + 1) _ _ hl' ?_ hside' hdiff'
    -- a writer behind?
    by_cases hwr : ∃ (j : Nat) (o' : Oper) (out' : Out), l[j]? = some (o', out') ∧ sel' (k + 1 + j) = true ∧ S.writes o' out' = true
    · exact .inr hwr
    · refine .inl ?_
      have hnw : ∀ j o' out', l[j]? = some (o', out') → sel' (k + 1 + j) = true → S.writes o' out' = false := fun j o' out' hj hs => by
        cases hw : S.writes o' out' with
        | false => rfl
        | true => exact absurd ⟨j, o', out', hj, hs, hw⟩ hwr
      cases hw : S.writes o out with
      | true =>
        have hs := hside 0 o out rfl hw
        simp only [Nat.add_zero] at hs
        rw [hs]
        cases hk : sel' k with
        | true => simp only [if_true]; exact S.put _ _ _ _ hl hw
        | false =>
          simp only [Bool.false_eq_true, if_false]
          rcases h with h | ⟨j, o', out', h1, h2, h3⟩
          · exact h
          · cases j with
            | zero => simp only [Nat.add_zero] at h2; rw [hk] at h2; cases h2
            | succ j => exact absurd ⟨j, o', out', by simpa using h1, by rw [← e1]; exact h2, h3⟩ hwr
      | false =>
        have heq : S.see st = S.see st' := by
          rcases h with h | ⟨j, o', out', h1, h2, h3⟩
          · exact h
          · cases j with
            | zero =>
              simp only [List.getElem?_cons_zero, Option.some.injEq, Prod.mk.injEq] at h1
              obtain ⟨rfl, rfl⟩ := h1
              rw [hw] at h3; cases h3
            | succ j => exact absurd ⟨j, o', out', by simpa using h1, by rw [← e1]; exact h2, h3⟩ hwr
        by_cases hs : sel k = sel' k
        · rw [hs]
          cases sel' k with
          | true => simp only [if_true]; rw [S.skip _ _ _ hw, S.skip _ _ _ hw, heq]
          | false => simpa using heq
        · have hd := hdiff 0 o out rfl (by simpa using hs)
          rcases hd with hd | ⟨hc, hm⟩
          · have e2 : ∀ st, S.see (apply st o.dst out) = S.see st := fun st => by rw [S.skip _ _ _ hw, hd, S.nil]
            split <;> split <;> simp only [e2, heq]
          · have hfin := S.noWriter l (k + 1) _ hnw hc
            rw [hfin] at hc hm
            cases hk' : sel' k with
            | true =>
              have hk : sel k = false := by cases hk : sel k with | false => rfl | true => exact absurd (hk.trans hk'.symm) hs
              rw [hk'] at hc
              simp only [if_true] at hc
              simp only [hk, if_true, Bool.false_eq_true, if_false]
              rw [S.skip _ _ _ hw] at hc ⊢
              rw [S.keep _ _ hc, heq]
            | false =>
              have hk : sel k = true := by cases hk : sel k with | true => rfl | false => exact absurd (hk.trans hk'.symm) hs
              rw [hk'] at hm
              simp only [Bool.false_eq_true, if_false] at hm
              simp only [hk, if_true, Bool.false_eq_true, if_false]
              rw [S.skip _ _ _ hw, heq]
              exact S.apart _ _ hm

def seenSlot (s : Nat) : Seen DV where
  see st := sget st.t s
  len st := st.t.length
  writes o _ := o.dst == some s
  forget φ u := u.forget φ
  clean := DV.clean
  ments := DV.ments
  len_apply st dst o := (apply_len st dst o).1
  skip st o out h := by
    have hd : o.dst ≠ some s := by simpa using h
    rw [apply_eq]
    cases hd' : o.dst with
    | none => exact sget_forget _ _ _
    | some d =>
      simp only
      rw [sget_set _ _ _ _ (fun e => hd (by rw [hd', e])), sget_forget]
  put st st' o out hl h := by
    have hd : o.dst = some s := by simpa using h
    rw [apply_eq, apply_eq, hd]
    exact sget_set' _ _ _ _ (by simpa [forgetL_len] using hl)
  nil u := by
    have := forgetL_nil [u]
    simpa [forgetL] using this
  keep φ u h := clean_forget φ u h
  apart φ u h := forget_id φ u h

theorem setAll_get_mem : ∀ (δ : List (Nat × Option Blk)) (h h' : Heap) (b : Nat), h.length = h'.length → (hget h b = hget h' b ∨ b ∈ δ.map (·.1)) → hget (setAll h δ) b = hget (setAll h' δ) b
  | [], h, h', b, _, hb => by simpa [setAll] using hb
  | (c, x) :: δ, h, h', b, hl, hb => by
    simp only [setAll]
    apply setAll_get_mem δ _ _ _ (by simpa using hl)
    rw [hget_set, hget_set]
    by_cases hbc : b = c
    · subst hbc; simp [hl]
    · rcases hb with hb | hb
      · simp [hbc, hb]
      · simp [hbc] at hb ⊢; exact .inr hb

def seenBlk (b : Nat) : Seen (Option Blk) where
  see st := hget st.h b
  len st := st.h.length
  writes _ out := (ids out).contains b
  forget φ u := u.map (Blk.forget φ)
  clean := blkClean
  ments := boxMents
  len_apply st dst o := (apply_len st dst o).2
  skip st o out h := by
    have hd : b ∉ ids out := by simpa using h
    rw [apply_eq]
    simp only
    rw [setAll_get _ _ _ fun x hx e => hd (List.mem_map.2 ⟨x, hx, e⟩), hget_forget]
  put st st' o out hl h := by
    have hd : b ∈ ids out := by simpa using h
    rw [apply_eq, apply_eq]
    simp only
    exact setAll_get_mem _ _ _ _ (by simpa [forgetH_length] using hl) (.inr hd)
  nil u := by
    cases u with
    | none => rfl
    | some x => cases x <;> simp [Blk.forget, forgetL_nil]
  keep φ u h := blkClean_forget φ u h
  apart φ u h := by
    cases u with
    | none => rfl
    | some x => simp only [Option.map_some]; rw [Blk.forget_id φ x h]

theorem setAll_set_comm : ∀ (δ : List (Nat × Option Blk)) (h : Heap) (b : Nat) (x : Option Blk), b ∉ δ.map (·.1) → setAll (h.set b x) δ = (setAll h δ).set b x
  | [], h, b, x, _ => rfl
  | (c, y) :: δ, h, b, x, hb => by
    simp only [setAll]
    simp at hb
    rw [List.set_comm _ _ (hb.1), setAll_set_comm δ _ b x (by simpa using hb.2)]
theorem setAll_comm : ∀ (δ δ' : List (Nat × Option Blk)) (h : Heap), (∀ b ∈ δ.map (·.1), b ∉ δ'.map (·.1)) → setAll (setAll h δ) δ' = setAll (setAll h δ') δ
  | [], δ', h, _ => rfl
  | (c, y) :: δ, δ', h, hb => by
    simp only [setAll]
    rw [setAll_comm δ δ' _ fun b hb' => hb b (by simp at hb' ⊢; exact .inr hb'), setAll_set_comm δ' h c y (hb c (by simp))]

structure CommB (o : Oper) (out : Out) (o' : Oper) (out' : Out) : Prop where
  dst : ∀ d, o.dst = some d → o'.dst ≠ some d
  blk : ∀ b ∈ ids out, b ∉ ids out'
  f1 : ∀ b ∈ outMents out, b ∉ out'.φ
  f2 : ∀ b ∈ outMents out', b ∉ out.φ
theorem apply_comm {st : St} {o o' : Oper} {out out' : Out} (h : CommB o out o' out') : apply (apply st o.dst out) o'.dst out' = apply (apply st o'.dst out') o.dst out := by
  have v1 : out.v.forget out'.φ = out.v := forget_id _ _ fun b hb => h.f1 b (List.mem_append_left _ hb)
  have v2 : out'.v.forget out.φ = out'.v := forget_id _ _ fun b hb => h.f2 b (List.mem_append_left _ hb)
  rw [apply_eq, apply_eq, apply_eq, apply_eq]
  simp only
  rw [forgetH_setAll _ _ _ fun b hb => h.f1 b (List.mem_append_right _ hb), forgetH_setAll _ _ _ fun b hb => h.f2 b (List.mem_append_right _ hb), setAll_comm _ _ _ h.blk, forgetH_comm]
  simp only [St.mk.injEq, and_true]
  cases hd : o.dst with
  | none =>
    cases o'.dst with
    | none => exact forgetL_comm _ _ _
    | some d' => simp only; rw [forgetL_set, v2, forgetL_comm]
  | some d =>
    cases hd' : o'.dst with
    | none => simp only; rw [forgetL_set, v1, forgetL_comm]
    | some d' =>
      simp only
      rw [forgetL_set, forgetL_set, v1, v2, forgetL_comm]
      exact List.set_comm _ _ (fun e => h.dst d hd (by rw [hd', e]))

theorem foldSel_push {sel : Nat → Bool} {oi : Oper} {outi : Out} : ∀ (l : List (Oper × Out)) (k : Nat) (st : St), (∀ j o out, l[j]? = some (o, out) → sel (k + j) = true → CommB oi outi o out) →
    foldSel sel k l (apply st oi.dst outi) = apply (foldSel sel k l st) oi.dst outi
  | [], _, _, _ => rfl
  | (o, out) :: l, k, st, h => by
    simp only [foldSel]
    have hr : ∀ j o' out', l[j]? = some (o', out') → sel (k + 1 + j) = true → CommB oi outi o' out' := fun j o' out' hj hs =>
      h (j + 1) o' out' (by simpa using hj) (by rw [show k + (j + 1) = k + 1 + j by omega]; exact hs)
    by_cases hs : sel k = true
    · simp only [hs, if_true]
      rw [apply_comm (h 0 o out rfl (by simpa using hs))]
      exact foldSel_push l (k + 1) _ hr
    · simp only [hs]
      exact foldSel_push l (k + 1) _ hr

theorem foldSel_insert {sel sel' : Nat → Bool} {i : Nat} {oi : Oper} {outi : Out} : ∀ (l : List (Oper × Out)) (k : Nat) (st : St), k ≤ i → l[i - k]? = some (oi, outi) → sel i = false →
    (∀ j, sel' j = (sel j || j == i)) → (∀ j o out, l[j]? = some (o, out) → i < k + j → sel (k + j) = true → CommB oi outi o out) →
    foldSel sel' k l st = apply (foldSel sel k l st) oi.dst outi
  | [], k, st, _, hi, _, _, _ => by simp at hi
  | (o, out) :: l, k, st, hk, hi, hs, hs', h => by
    have hr : ∀ j o' out', l[j]? = some (o', out') → i < k + 1 + j → sel (k + 1 + j) = true → CommB oi outi o' out' := fun j o' out' hj hij hs =>
      h (j + 1) o' out' (by simpa using hj) (by omega) (by rw [show k + (j + 1) = k + 1 + j by omega]; exact hs)
    simp only [foldSel]
    by_cases hki : k = i
    · subst hki
      simp at hi
      obtain ⟨rfl, rfl⟩ := hi
      rw [hs' k, hs]
      simp only [beq_self_eq_true, Bool.or_true, if_true, Bool.false_eq_true, if_false]
      rw [show foldSel sel' (k + 1) l (apply st o.dst out) = foldSel sel (k + 1) l (apply st o.dst out) from ?_]
      · exact foldSel_push l (k + 1) st fun j o' out' hj hs => hr j o' out' hj (by omega) hs
      · have key : ∀ (l : List (Oper × Out)) (q : Nat) (st : St), k < q → foldSel sel' q l st = foldSel sel q l st := by
          intro l
          induction l with
          | nil => intro q st _; rfl
          | cons x l ih =>
            intro q st hq
            obtain ⟨o', out'⟩ := x
            simp only [foldSel]
            have : sel' q = sel q := by rw [hs' q]; have : (q == k) = false := by simp; omega
                                        rw [this, Bool.or_false]
            rw [this]
            exact ih _ _ (by omega)
        exact key l (k + 1) _ (by omega)
    · have : sel' k = sel k := by rw [hs' k]; have : (k == i) = false := by simpa using hki
                                  rw [this, Bool.or_false]
      rw [this]
      have hi' : l[i - (k + 1)]? = some (oi, outi) := by
        rw [show i - k = (i - (k + 1)) + 1 by omega] at hi
        simpa using hi
      exact foldSel_insert l (k + 1) _ (by omega) hi' hs hs' hr


end Go.Det
end

section
set_option linter.unusedVariables false
set_option linter.unusedSimpArgs false
namespace Go.Det

def slotOf : Operand → Option Nat
  | .tmp i => some i
  | _ => none
/-- The slots that an operation looks at. -/
def slotsOf (os : List Oper) (o : Oper) : List Nat :=
  (match o.guard with | some (j, _) => ((os[j]?).bind (·.dst)).toList | none => []) ++ o.op.operands.toList.filterMap slotOf
/-- The blocks that it may look at. -/
def callsOut : Op → Bool
  | .call ⟨.value _, _, _⟩ => true
  | _ => false
def touched (st : St) (o : Oper) : List Nat :=
  let l := o.op.operands.toList.flatMap fun x => (opnd st.t x).ments
  bif callsOut o.op then deepMents st.h l else l
theorem touched_direct {st : St} {o : Oper} {b : Nat} (h : b ∈ o.op.operands.toList.flatMap fun x => (opnd st.t x).ments) : b ∈ touched st o := by
  unfold touched
  cases callsOut o.op with
  | true => exact List.mem_append_left _ h
  | false => exact h

def Agrees (os : List Oper) (o : Oper) (st st2 : St) : Prop :=
  (∀ s ∈ slotsOf os o, sget st2.t s = sget st.t s) ∧ ∀ b ∈ touched st o, hget st2.h b = hget st.h b

/-- The blocks handed over keep their places. -/
structure RelX (nt : Nat) (ρ0 : Rho) (w0 : World) (L : List Nat) (m0 : Ro) (st : St) (a : Act) (w : World) (ρ : Rho) (m : Ro) : Prop extends Rel w0 L m0 st a w ρ m where
  ext : ∀ b, nt ≤ b → ρ b = ρ0 b

def StepOK (P : Program) (C : Cfg) (nt : Nat) (os : List Oper) (o : Oper) (st : St) (out : Out) : Prop :=
  ∀ st2, Agrees os o st st2 → ∀ (ρ0 : Rho) (w0 : World) (L : List Nat) (m0 : Ro) (a : Act) (w : World) (ρ : Rho) (m : Ro) (K : Act → World → Prop) (Q : Exit → Act → World → Prop), GlobOK C m0 → RelX nt ρ0 w0 L m0 st2 a w ρ m →
    (∀ a' w' ρ' m', RelX nt ρ0 w0 L m0 (apply st2 o.dst out) a' w' ρ' m' → K a' w') →
    (if Region.wanted o (yielded os.toArray a.tmps) then o.wp P a w K Q else K (a.put o.dst undef) w)

def Trace (P : Program) (C : Cfg) (nt : Nat) (os : List Oper) : List Oper → St → List Out → St → Prop
  | [], st, [], st' => st = st'
  | o :: l, st, out :: outs, st' => StepOK P C nt os o st out ∧ Trace P C nt os l (apply st o.dst out) outs st'
  | _, _, _, _ => False

/-! The check of a region whose order is left open. -/
def boundOn (o : Oper) : List Nat := (o.after.toList.filter (Region.binds .any)).map (·.on)
/-- What each operation comes after, through others too. -/
def ancs : List (List Nat) → List Oper → List (List Nat)
  | acc, [] => acc
  | acc, o :: l => ancs (acc ++ [(boundOn o).flatMap fun j => j :: acc.getD j []]) l
def disj (a b : List Nat) : Bool := a.all fun x => !b.contains x

structure Ent where
  o : Oper
  out : Out
  slots : List Nat
  touch : List Nat
  anc : List Nat
  deep : List Nat
  clean : Bool

/-- What is looked at. -/
def lookMents (os : List Oper) (st : St) (o : Oper) : List Nat := (slotsOf os o).flatMap (fun s => (sget st.t s).ments) ++ (touched st o).flatMap fun b => boxMents (hget st.h b)
def lookClean (os : List Oper) (st : St) (o : Oper) : Bool := (slotsOf os o).all (fun s => (sget st.t s).clean) && (touched st o).all fun b => blkClean (hget st.h b)
def phiB (x y : Ent) : Bool := x.out.φ.isEmpty || (disj x.out.φ y.deep && y.clean && disj x.out.φ (outMents y.out))
def apartB (x y : Ent) : Bool :=
  (match x.o.dst with | some d => !y.slots.contains d && y.o.dst != some d | none => true) &&
  (match y.o.dst with | some d => !x.slots.contains d | none => true) &&
  disj (ids x.out) y.touch && disj (ids y.out) x.touch && disj (ids x.out) (ids y.out) && phiB x y && phiB y x

def ents (os : List Oper) (an : List (List Nat)) : Nat → List Oper → St → List Out → List Ent
  | k, o :: l, st, out :: outs => { o := o, out := out, slots := slotsOf os o, touch := touched st o, anc := an.getD k [], deep := lookMents os st o, clean := lookClean os st o } :: ents os an (k + 1) l (apply st o.dst out) outs
  | _, _, _, _ => []

def pairsOK : Nat → List Ent → List Ent → Bool
  | _, _, [] => true
  | k, before, y :: l =>
    ((List.range before.length).all fun i => match before[i]? with | some x => y.anc.contains i || apartB x y | none => true) && pairsOK (k + 1) (before ++ [y]) l

def backwards (os : List Oper) : Bool := (List.range os.length).all fun i => match os[i]? with | some o => (boundOn o).all fun j => decide (j < i) | none => true

def drawOK (os : List Oper) (st0 : St) (outs : List Out) : Bool :=
  let es := ents os (ancs [] os) 0 os st0 outs
  backwards os && pairsOK 0 [] es

theorem ancs_spec : ∀ (l : List Oper) (acc : List (List Nat)) (pre : List Oper), pre.length = acc.length →
    (∀ k o, pre[k]? = some o → ∀ i ∈ acc.getD k [], (i ∈ boundOn o ∨ ∃ j ∈ boundOn o, i ∈ acc.getD j [] ∧ j < k)) →
    ∀ k o, (pre ++ l)[k]? = some o → ∀ i ∈ (ancs acc l).getD k [], (i ∈ boundOn o ∨ ∃ j ∈ boundOn o, i ∈ (ancs acc l).getD j [] ∧ j < k)
  | [], acc, pre, hl, h => by simpa [ancs] using h
  | x :: l, acc, pre, hl, h => by
    have := ancs_spec l (acc ++ [(boundOn x).flatMap fun j => j :: acc.getD j []]) (pre ++ [x]) (by simp [hl]) ?_
    · simpa [ancs] using this
    · have hget : ∀ j, j < acc.length → (acc ++ [(boundOn x).flatMap fun j => j :: acc.getD j []]).getD j [] = acc.getD j [] := by
        intro j hj
        simp [List.getD_eq_getElem?_getD, List.getElem?_append_left hj]
      intro k o ho i hi
      by_cases hk : k < pre.length
      · rw [List.getElem?_append_left hk] at ho
        rw [hget k (by omega)] at hi
        rcases h k o ho i hi with h1 | ⟨j, h1, h2, h3⟩
        · exact .inl h1
        · exact .inr ⟨j, h1, by rw [hget j (by omega)]; exact h2, h3⟩
      · rw [List.getElem?_append_right (by omega)] at ho
        have hk0 : k - pre.length = 0 := by
          have := (List.getElem?_eq_some_iff.1 ho).1
          simp at this; omega
        have hk' : k = pre.length := by omega
        subst hk'
        simp at ho; subst ho
        rw [List.getD_eq_getElem?_getD, List.getElem?_append_right (by omega), hl] at hi
        simp at hi
        obtain ⟨j, hj, hi⟩ := hi
        rcases hi with rfl | hi
        · exact .inl hj
        · refine .inr ⟨j, hj, ?_, ?_⟩
          · have : j < acc.length := by
              rcases Nat.lt_or_ge j acc.length with q | q
              · exact q
              · rw [List.getElem?_eq_none_iff.2 q] at hi; simp at hi
            rw [hget j this, List.getD_eq_getElem?_getD]; exact hi
          · rcases Nat.lt_or_ge j acc.length with q | q
            · omega
            · rw [List.getElem?_eq_none_iff.2 q] at hi; simp at hi

/-- Closed downwards: who comes after is there only with whom it comes after. -/
def Down (os : List Oper) (sel : Nat → Bool) : Prop := ∀ k o, os[k]? = some o → sel k = true → ∀ j ∈ boundOn o, sel j = true

theorem Down.anc {os : List Oper} {sel : Nat → Bool} (h : Down os sel) : ∀ k o, os[k]? = some o → sel k = true → ∀ i ∈ (ancs [] os).getD k [], sel i = true := by
  intro k
  induction k using Nat.strongRecOn with
  | _ k ih =>
    intro o ho hk i hi
    rcases ancs_spec os [] [] rfl (by simp) k o (by simpa using ho) i hi with h1 | ⟨j, h1, h2, h3⟩
    · exact h k o ho hk i h1
    · have hj := h k o ho hk j h1
      have : j < os.length := Nat.lt_trans h3 (List.getElem?_eq_some_iff.1 ho).1
      exact ih j h3 _ (List.getElem?_eq_getElem this) hj i h2

end Go.Det
end

section
set_option linter.unusedVariables false
set_option linter.unusedSimpArgs false
namespace Go.Det

def tst : List (Oper × Out) → St → Nat → St
  | _, st, 0 => st
  | [], st, _ + 1 => st
  | (o, out) :: l, st, j + 1 => tst l (apply st o.dst out) j

theorem tst_succ : ∀ (l : List (Oper × Out)) (st : St) (j : Nat) (o : Oper) (out : Out), l[j]? = some (o, out) → tst l st (j + 1) = apply (tst l st j) o.dst out
  | [], _, _, _, _, h => by simp at h
  | (o', out') :: l, st, 0, o, out, h => by
    simp at h; obtain ⟨rfl, rfl⟩ := h
    cases l <;> rfl
  | (o', out') :: l, st, j + 1, o, out, h => by
    simp only [tst]
    exact tst_succ l _ j o out (by simpa using h)

theorem Trace.spec {P : Program} {C : Cfg} {nt : Nat} {os : List Oper} : ∀ {l : List Oper} {st : St} {outs : List Out} {st' : St}, Trace P C nt os l st outs st' →
    l.length = outs.length ∧ st' = tst (l.zip outs) st l.length ∧ ∀ i o out, (l.zip outs)[i]? = some (o, out) → StepOK P C nt os o (tst (l.zip outs) st i) out
  | [], st, [], st', h => by
    simp only [Trace] at h; subst h
    exact ⟨rfl, rfl, by simp⟩
  | o :: l, st, out :: outs, st', h => by
    simp only [Trace] at h
    obtain ⟨h1, h2⟩ := h
    obtain ⟨k1, k2, k3⟩ := Trace.spec h2
    refine ⟨by simp [k1], by simpa [tst] using k2, fun i o' out' hi => ?_⟩
    cases i with
    | zero => simp at hi; obtain ⟨rfl, rfl⟩ := hi; exact h1
    | succ i => simp at hi; simpa [tst] using k3 i o' out' (by simpa using hi)
  | [], _, _ :: _, _, h => h.elim
  | _ :: _, _, [], _, h => h.elim

theorem ents_get {os : List Oper} {an : List (List Nat)} : ∀ (l : List Oper) (outs : List Out) (st : St) (k i : Nat) (o : Oper) (out : Out), (l.zip outs)[i]? = some (o, out) →
    (ents os an k l st outs)[i]? = some { o := o, out := out, slots := slotsOf os o, touch := touched (tst (l.zip outs) st i) o, anc := an.getD (k + i) [], deep := lookMents os (tst (l.zip outs) st i) o, clean := lookClean os (tst (l.zip outs) st i) o }
  | [], _, _, _, _, _, _, h => by simp at h
  | _ :: _, [], _, _, _, _, _, h => by simp at h
  | o' :: l, out' :: outs, st, k, 0, o, out, h => by
    simp at h; obtain ⟨rfl, rfl⟩ := h
    simp [ents, tst]
  | o' :: l, out' :: outs, st, k, i + 1, o, out, h => by
    simp at h
    simp only [ents, List.getElem?_cons_succ]
    rw [ents_get l outs _ (k + 1) i o out (by simpa using h)]
    simp only [List.zip_cons_cons, tst]
    rw [show k + 1 + i = k + (i + 1) by omega]
theorem ents_len {os : List Oper} {an : List (List Nat)} : ∀ (l : List Oper) (outs : List Out) (st : St) (k : Nat), l.length = outs.length → (ents os an k l st outs).length = l.length
  | [], [], _, _, _ => rfl
  | o :: l, out :: outs, st, k, h => by simp only [ents, List.length_cons]; rw [ents_len l outs _ _ (by simpa using h)]
  | [], _ :: _, _, _, h => by simp at h
  | _ :: _, [], _, _, h => by simp at h

theorem pairsOK_spec : ∀ (l bf : List Ent) (k : Nat), pairsOK k bf l = true → ∀ j y, bf.length ≤ j → (bf ++ l)[j]? = some y → ∀ i x, i < j → (bf ++ l)[i]? = some x → y.anc.contains i = true ∨ apartB x y = true
  | [], bf, k, h, j, y, hj, hy, i, x, hi, hx => by
    rw [List.append_nil] at hy
    have := (List.getElem?_eq_some_iff.1 hy).1
    omega
  | z :: l, bf, k, h, j, y, hj, hy, i, x, hi, hx => by
    simp only [pairsOK, Bool.and_eq_true, List.all_eq_true, List.mem_range] at h
    obtain ⟨h1, h2⟩ := h
    by_cases hjl : j = bf.length
    · subst hjl
      rw [List.getElem?_append_right (Nat.le_refl _)] at hy
      simp at hy; subst hy
      have h1 := h1 i hi
      rw [List.getElem?_append_left hi] at hx
      rw [hx] at h1
      simpa using h1
    · have := pairsOK_spec l (bf ++ [z]) (k + 1) h2 j y (by simp; omega) (by simpa using hy) i x hi (by simpa using hx)
      exact this

theorem disj_spec {a b : List Nat} (h : disj a b = true) : ∀ x ∈ a, x ∉ b := by
  intro x hx hb
  unfold disj at h
  have := List.all_eq_true.1 h x hx
  simp at this
  exact this hb

section
variable {P : Program} {C : Cfg} {nt : Nat} {os : List Oper} {st0 st1 : St} {outs : List Out}

structure Draw (P : Program) (C : Cfg) (nt : Nat) (os : List Oper) (st0 : St) (outs : List Out) (st1 : St) : Prop where
  len : os.length = outs.length
  fin : st1 = foldSel (fun k => decide (k < os.length)) 0 (os.zip outs) st0
  back : ∀ k o, os[k]? = some o → ∀ j ∈ boundOn o, j < k
  step : ∀ i o out, (os.zip outs)[i]? = some (o, out) → StepOK P C nt os o (foldSel (fun k => decide (k < i)) 0 (os.zip outs) st0) out
  ins : ∀ sel i o out, Down os sel → sel i = false → (os.zip outs)[i]? = some (o, out) →
    apply (foldSel sel 0 (os.zip outs) st0) o.dst out = foldSel (fun k => sel k || k == i) 0 (os.zip outs) st0
  agree : ∀ sel i o out, Down os sel → sel i = false → (os.zip outs)[i]? = some (o, out) → (∀ j ∈ boundOn o, sel j = true) →
    Agrees os o (foldSel (fun k => decide (k < i)) 0 (os.zip outs) st0) (foldSel sel 0 (os.zip outs) st0)

theorem zip_get {l : List Oper} {l' : List Out} {i : Nat} {o : Oper} {out : Out} (h : (l.zip l')[i]? = some (o, out)) : l[i]? = some o ∧ l'[i]? = some out := by
  rw [List.getElem?_zip_eq_some] at h; exact h

theorem draw_of (ht : Trace P C nt os os st0 outs st1) (hd : drawOK os st0 outs = true) : Draw P C nt os st0 outs st1 := by
  obtain ⟨hlen, hfin, hstep⟩ := ht.spec
  unfold drawOK at hd
  simp only [Bool.and_eq_true] at hd
  obtain ⟨hb, hp⟩ := hd
  have back : ∀ k o, os[k]? = some o → ∀ j ∈ boundOn o, j < k := by
    intro k o ho j hj
    unfold backwards at hb
    have := List.all_eq_true.1 hb k (by rw [List.mem_range]; exact (List.getElem?_eq_some_iff.1 ho).1)
    rw [ho] at this
    have := List.all_eq_true.1 this j hj
    simpa using this
  have hent := ents_get (os := os) (an := ancs [] os) os outs st0 0
  have hel := ents_len (os := os) (an := ancs [] os) os outs st0 0 hlen
  have down_lt : ∀ i, Down os (fun k => decide (k < i)) := by
    intro i k o ho hk j hj
    have := back k o ho j hj
    simp at hk ⊢; omega
  have pair : ∀ i j x y, i < j → (ents os (ancs [] os) 0 os st0 outs)[i]? = some x → (ents os (ancs [] os) 0 os st0 outs)[j]? = some y → y.anc.contains i = true ∨ apartB x y = true :=
    fun i j x y hij hx hy => pairsOK_spec _ [] 0 hp j y (Nat.zero_le _) (by simpa using hy) i x hij (by simpa using hx)
  have ins : ∀ sel i o out, Down os sel → sel i = false → (os.zip outs)[i]? = some (o, out) →
      apply (foldSel sel 0 (os.zip outs) st0) o.dst out = foldSel (fun k => sel k || k == i) 0 (os.zip outs) st0 := by
    intro sel i o out hD hi ho
    symm
    refine foldSel_insert (os.zip outs) 0 st0 (Nat.zero_le _) (by simpa using ho) hi (fun j => rfl) ?_
    intro j o' out' hj hij hs
    rw [Nat.zero_add] at hij hs
    rcases pair i j _ _ hij (hent i o out ho) (hent j o' out' hj) with h | h
    · have := hD.anc j o' (zip_get hj).1 hs i (by simpa using h)
      rw [hi] at this; cases this
    · simp only [apartB, Bool.and_eq_true] at h
      obtain ⟨⟨⟨⟨⟨⟨h1, h2⟩, h3⟩, h4⟩, h5⟩, h6⟩, h7⟩ := h
      refine ⟨fun d hd => ?_, disj_spec h5, fun b hb hb' => ?_, fun b hb hb' => ?_⟩
      · rw [hd] at h1
        simp at h1
        exact h1.2
      · simp only [phiB, Bool.or_eq_true, Bool.and_eq_true] at h7
        rcases h7 with h7 | h7
        · rw [List.isEmpty_iff] at h7; rw [h7] at hb'; simp at hb'
        · exact disj_spec h7.2 b hb' hb
      · simp only [phiB, Bool.or_eq_true, Bool.and_eq_true] at h6
        rcases h6 with h6 | h6
        · rw [List.isEmpty_iff] at h6; rw [h6] at hb'; simp at hb'
        · exact disj_spec h6.2 b hb' hb
  have text : ∀ j, j ≤ os.length → tst (os.zip outs) st0 j = foldSel (fun k => decide (k < j)) 0 (os.zip outs) st0 := by
    intro j
    induction j with
    | zero =>
      intro _
      have key : ∀ (l : List (Oper × Out)) (k : Nat) (st : St), foldSel (fun k => decide (k < 0)) k l st = st := by
        intro l
        induction l with
        | nil => intro _ _; rfl
        | cons x l ih => intro k st; obtain ⟨o, out⟩ := x; simpa [foldSel] using ih (k + 1) st
      rw [key]
      cases os.zip outs <;> rfl
    | succ j ih =>
      intro hj
      have hj' : j < (os.zip outs).length := by simp [← hlen]; omega
      obtain ⟨o, out⟩ : Oper × Out := (os.zip outs)[j]
      have ho := List.getElem?_eq_getElem hj'
      rw [tst_succ _ _ j _ _ (show (os.zip outs)[j]? = some ((os.zip outs)[j].1, (os.zip outs)[j].2) from ho), ih (by omega), ins _ j _ _ (down_lt j) (by simp) (show (os.zip outs)[j]? = some ((os.zip outs)[j].1, (os.zip outs)[j].2) from ho)]
      congr 1
      funext k
      rw [Bool.eq_iff_iff]
      simp only [Bool.or_eq_true, decide_eq_true_eq, beq_iff_eq]
      omega
  refine ⟨hlen, by rw [hfin]; exact text _ (Nat.le_refl _), back, fun i o out ho => ?_, ins, ?_⟩
  · have hin : i < os.length := (List.getElem?_eq_some_iff.1 (zip_get ho).1).1
    rw [← text i (by omega)]
    exact hstep i o out ho
  · intro sel i o out hD hi ho hpre
    have hin : i < os.length := (List.getElem?_eq_some_iff.1 (zip_get ho).1).1
    have hD' : Down os (fun k => sel k || k == i) := by
      intro k ok hk hs j hj
      simp only [Bool.or_eq_true, beq_iff_eq] at hs ⊢
      rcases hs with hs | rfl
      · exact .inl (hD k ok hk hs j hj)
      · rw [(zip_get ho).1] at hk; cases hk
        exact .inl (hpre j hj)
    have hanc : ∀ k, k ≠ i → ((ancs [] os).getD i []).contains k = true → sel k = true := by
      intro k hk hc
      have := hD'.anc i o (zip_get ho).1 (by simp) k (by simpa using hc)
      simp only [Bool.or_eq_true, beq_iff_eq] at this
      exact this.resolve_right hk
    -- whoever is not on one side leaves alone what is looked at
    have side : ∀ k o' out', (os.zip outs)[k]? = some (o', out') → sel k ≠ decide (k < i) →
        (∀ d, o'.dst = some d → d ∉ slotsOf os o) ∧ (∀ b ∈ ids out', b ∉ touched (tst (os.zip outs) st0 i) o) ∧
        (out'.φ = [] ∨ (lookClean os (tst (os.zip outs) st0 i) o = true ∧ ∀ b ∈ out'.φ, b ∉ lookMents os (tst (os.zip outs) st0 i) o)) := by
      intro k o' out' hk hw
      have hphi : ∀ x y : Ent, phiB x y = true → x.out.φ = [] ∨ (y.clean = true ∧ ∀ b ∈ x.out.φ, b ∉ y.deep) := by
        intro x y h
        simp only [phiB, Bool.or_eq_true, Bool.and_eq_true] at h
        rcases h with h | h
        · exact .inl (by simpa using h)
        · exact .inr ⟨h.1.2, disj_spec h.1.1⟩
      rcases Nat.lt_trichotomy k i with hki | rfl | hki
      · rcases pair k i _ _ hki (hent k o' out' hk) (hent i o out ho) with h | h
        · have := hanc k (by omega) (by simpa using h)
          rw [this] at hw; simp [hki] at hw
        · simp only [apartB, Bool.and_eq_true] at h
          obtain ⟨⟨⟨⟨⟨⟨h1, h2⟩, h3⟩, h4⟩, h5⟩, h6⟩, h7⟩ := h
          refine ⟨fun d hd => ?_, disj_spec h3, hphi _ _ h6⟩
          rw [hd] at h1; simp at h1; exact h1.1
      · simp [hi] at hw
      · rcases pair i k _ _ hki (hent i o out ho) (hent k o' out' hk) with h | h
        · have hs : sel k = true := by
            cases hs : sel k with
            | true => rfl
            | false => rw [hs] at hw; exfalso; apply hw; symm; simpa using Nat.le_of_lt hki
          have := hD.anc k o' (zip_get hk).1 hs i (by simpa using h)
          rw [hi] at this; cases this
        · simp only [apartB, Bool.and_eq_true] at h
          obtain ⟨⟨⟨⟨⟨⟨h1, h2⟩, h3⟩, h4⟩, h5⟩, h6⟩, h7⟩ := h
          refine ⟨fun d hd => ?_, disj_spec h4, hphi _ _ h7⟩
          rw [hd] at h2; simp at h2; exact h2
    rw [text i (by omega)] at side
    have looks : ∀ b, b ∉ lookMents os (foldSel (fun k => decide (k < i)) 0 (os.zip outs) st0) o → (∀ s ∈ slotsOf os o, b ∉ (sget (foldSel (fun k => decide (k < i)) 0 (os.zip outs) st0).t s).ments) ∧
        ∀ c ∈ touched (foldSel (fun k => decide (k < i)) 0 (os.zip outs) st0) o, b ∉ boxMents (hget (foldSel (fun k => decide (k < i)) 0 (os.zip outs) st0).h c) := by
      intro b hb
      unfold lookMents at hb
      exact ⟨fun s hs hm => hb (List.mem_append_left _ (List.mem_flatMap.2 ⟨s, hs, hm⟩)), fun c hc hm => hb (List.mem_append_right _ (List.mem_flatMap.2 ⟨c, hc, hm⟩))⟩
    refine ⟨fun s hs => ?_, fun b hb => ?_⟩
    · refine (seenSlot s).same _ 0 _ _ rfl (.inl rfl) ?_ ?_
      · intro j o' out' hj hw
        rw [Nat.zero_add]
        have hd : o'.dst = some s := by simpa [seenSlot] using hw
        by_cases hne : sel j = decide (j < i)
        · exact hne
        · exact absurd hs ((side j o' out' hj hne).1 s hd)
      · intro j o' out' hj hne
        rw [Nat.zero_add] at hne
        rcases (side j o' out' hj hne).2.2 with h | ⟨h1, h2⟩
        · exact .inl h
        · refine .inr ⟨?_, fun b hb hb' => (looks b (h2 b hb')).1 s hs hb⟩
          unfold lookClean at h1
          rw [Bool.and_eq_true] at h1
          exact List.all_eq_true.1 h1.1 s hs
    · refine (seenBlk b).same _ 0 _ _ rfl (.inl rfl) ?_ ?_
      · intro j o' out' hj hw
        rw [Nat.zero_add]
        have hd : b ∈ ids out' := by simpa [seenBlk] using hw
        by_cases hne : sel j = decide (j < i)
        · exact hne
        · exact absurd hb ((side j o' out' hj hne).2.1 b hd)
      · intro j o' out' hj hne
        rw [Nat.zero_add] at hne
        rcases (side j o' out' hj hne).2.2 with h | ⟨h1, h2⟩
        · exact .inl h
        · refine .inr ⟨?_, fun c hc hc' => (looks c (h2 c hc')).2 b hb hc⟩
          unfold lookClean at h1
          rw [Bool.and_eq_true] at h1
          exact List.all_eq_true.1 h1.2 b hb

end
end Go.Det
end

section
set_option linter.unusedVariables false
set_option linter.unusedSimpArgs false
namespace Go.Det

section
variable {P : Program} {C : Cfg} {nt : Nat} {os : List Oper} {st0 st1 : St} {outs : List Out} {ρ0 : Rho} {w0 : World} {L : List Nat} {m0 : Ro}

theorem trace_list {Q : Exit → Act → World → Prop} (hG : GlobOK C m0) : ∀ {l : List Oper} {st : St} {outs : List Out} {st' : St} {a : Act} {w : World} {ρ : Rho} {m : Ro}, Trace P C nt os l st outs st' → RelX nt ρ0 w0 L m0 st a w ρ m →
    (∀ a' w' ρ' m', RelX nt ρ0 w0 L m0 st' a' w' ρ' m' → Q .normal a' w') → wpList P os.toArray Q l a w
  | [], st, [], st', a, w, ρ, m, h, r, hQ => by
    simp only [Trace] at h; subst h
    exact hQ _ _ _ _ r
  | o :: l, st, out :: outs, st', a, w, ρ, m, h, r, hQ => by
    simp only [Trace] at h
    obtain ⟨h1, h2⟩ := h
    have := h1 st ⟨fun _ _ => rfl, fun _ _ => rfl⟩ ρ0 w0 L m0 a w ρ m (wpList P os.toArray Q l) Q hG r fun a' w' ρ' m' r' => trace_list hG h2 r' hQ
    simp only [wpList]
    split
    · rename_i hw; rw [if_pos hw] at this; exact .inl this
    · rename_i hw; rw [if_neg hw] at this; exact this
  | [], _, _ :: _, _, _, _, _, _, h, _, _ => h.elim
  | _ :: _, _, [], _, _, _, _, _, h, _, _ => h.elim

theorem mem_boundOn {o : Oper} {e : Edge} (he : e ∈ o.after) (hb : Region.binds .any e = true) : e.on ∈ boundOn o := by
  unfold boundOn
  exact List.mem_map.2 ⟨e, List.mem_filter.2 ⟨by simpa using he, hb⟩, rfl⟩

theorem getD_set_iff (listed : Array Bool) (i k : Nat) (hi : i < listed.size) : (listed.setIfInBounds i true).getD k false = (listed.getD k false || k == i) := by
  simp only [Array.getD_eq_getD_getElem?, Array.getElem?_setIfInBounds]
  by_cases h : i = k
  · subst h; simp [hi]
  · simp [h, Ne.symm h]

theorem Draw.any (D : Draw P C nt os st0 outs st1) (hG : GlobOK C m0) {Q : Exit → Act → World → Prop} (hQ : ∀ a' w' ρ' m', RelX nt ρ0 w0 L m0 st1 a' w' ρ' m' → Q .normal a' w') :
    ∀ (fuel : Nat) (listed : Array Bool) (a : Act) (w : World) (ρ : Rho) (m : Ro), listed.size = os.length → Down os (fun k => listed.getD k false) → listed.toList.countP (· == false) ≤ fuel →
      RelX nt ρ0 w0 L m0 (foldSel (fun k => listed.getD k false) 0 (os.zip outs) st0) a w ρ m → wpAny P .any os.toArray Q fuel listed a w := by
  intro fuel
  -- all are there
  have full : ∀ (listed : Array Bool), listed.size = os.length → (∀ k, k < os.length → listed.getD k false = true) → (fun k => listed.getD k false) = fun k => decide (k < os.length) := by
    intro listed hs hall
    funext k
    by_cases hk : k < os.length
    · rw [hall k hk]; simp [hk]
    · have : listed[k]? = none := by rw [Array.getElem?_eq_none_iff]; omega
      simp [Array.getD_eq_getD_getElem?, this, hk]
  have done : ∀ (listed : Array Bool) (a : Act) (w : World) (ρ : Rho) (m : Ro), listed.size = os.length → (∀ k, k < os.length → listed.getD k false = true) →
      RelX nt ρ0 w0 L m0 (foldSel (fun k => listed.getD k false) 0 (os.zip outs) st0) a w ρ m → Q .normal a w := by
    intro listed a w ρ m hs hall r
    rw [full listed hs hall, ← D.fin] at r
    exact hQ _ _ _ _ r
  have unready : ∀ (listed : Array Bool), listed.size = os.length → Region.ready .any os.toArray listed = [] → ∀ k, k < os.length → listed.getD k false = true := by
    intro listed hs hr k
    induction k using Nat.strongRecOn with
    | _ k ih =>
      intro hk
      cases hl : listed.getD k false with
      | true => rfl
      | false =>
        have : k ∈ Region.ready .any os.toArray listed := by
          rw [mem_ready]
          refine ⟨?_, os[k], by simp [hk], fun e he hb => ?_⟩
          · have hks : k < listed.size := by omega
            simp [Array.getD_eq_getD_getElem?, hks] at hl ⊢
            exact hl
          · have hj := D.back k os[k] (List.getElem?_eq_getElem hk) e.on (mem_boundOn he hb)
            exact ih e.on hj (by omega)
        rw [hr] at this; cases this
  induction fuel with
  | zero =>
    intro listed a w ρ m hs hD hc r
    have hall : ∀ k, k < os.length → listed.getD k false = true := by
      intro k hk
      have h0 : listed.toList.countP (· == false) = 0 := by omega
      rw [List.countP_eq_zero] at h0
      have hks : k < listed.size := by omega
      have := h0 listed[k] (by simp)
      simp [Array.getD_eq_getD_getElem?, hks]
      simpa using this
    refine ⟨?_, done listed a w ρ m hs hall r⟩
    cases hr : Region.ready .any os.toArray listed with
    | nil => rfl
    | cons i l =>
      have : i ∈ Region.ready .any os.toArray listed := by rw [hr]; exact List.mem_cons_self
      rw [mem_ready] at this
      obtain ⟨h1, o, ho, _⟩ := this
      have hi : i < os.length := by
        simp at ho; exact (List.getElem?_eq_some_iff.1 ho).1
      have h2 := hall i hi
      have his : i < listed.size := by omega
      simp [Array.getD_eq_getD_getElem?, his] at h1 h2
      rw [h1] at h2; cases h2
  | succ fuel ih =>
    intro listed a w ρ m hs hD hc r
    refine ⟨fun h0 => done listed a w ρ m hs (unready listed hs h0) r, fun i hi => ?_⟩
    rw [mem_ready] at hi
    obtain ⟨h1, o, ho, h2⟩ := hi
    have ho' : os[i]? = some o := by simpa using ho
    have hin : i < os.length := (List.getElem?_eq_some_iff.1 ho').1
    have hin' : i < outs.length := by rw [← D.len]; exact hin
    have hz : (os.zip outs)[i]? = some (o, outs[i]) := by
      rw [List.getElem?_zip_eq_some]
      exact ⟨ho', List.getElem?_eq_getElem hin'⟩
    have his : i < listed.size := by omega
    have hsel : listed.getD i false = false := by
      simp [Array.getD_eq_getD_getElem?, his] at h1 ⊢
      exact h1
    have hpre : ∀ j ∈ boundOn o, listed.getD j false = true := by
      intro j hj
      unfold boundOn at hj
      obtain ⟨e, he, rfl⟩ := List.mem_map.1 hj
      obtain ⟨he, hb⟩ := List.mem_filter.1 he
      exact h2 e (by simpa using he) hb
    have hag := D.agree _ i o _ hD hsel hz hpre
    have hins := D.ins _ i o _ hD hsel hz
    have hstep := D.step i o _ hz _ hag ρ0 w0 L m0 a w ρ m (wpAny P .any os.toArray Q fuel (listed.setIfInBounds i true)) Q hG r ?_
    · unfold wpOp
      simp only [ho]
      split
      · rename_i hw; rw [if_pos hw] at hstep; exact .inl hstep
      · rename_i hw; rw [if_neg hw] at hstep; exact hstep
    · intro a' w' ρ' m' r'
      rw [hins] at r'
      have hf : (fun k => (listed.setIfInBounds i true).getD k false) = fun k => listed.getD k false || k == i := funext fun k => getD_set_iff listed i k his
      refine ih _ a' w' ρ' m' (by simpa using hs) ?_ ?_ (by rw [hf]; exact r')
      · rw [hf]
        intro k ok hk hsk j hj
        simp only [Bool.or_eq_true, beq_iff_eq] at hsk ⊢
        rcases hsk with hsk | rfl
        · exact .inl (hD k ok hk hsk j hj)
        · rw [ho'] at hk; cases hk
          exact .inl (hpre j hj)
      · have hlf : listed[i] = false := by simpa [Array.getD_eq_getD_getElem?, his] using hsel
        have : (listed.setIfInBounds i true).toList.countP (· == false) = listed.toList.countP (· == false) - 1 := by
          rw [Array.toList_setIfInBounds, List.countP_set (by simpa using his)]
          simp [hlf]
        omega
end

/-! The relation of runs. -/
/-- What the first stands for the second stands for too. -/
def WkV (x y : DV) : Prop := y.ments = [] ∧ ∀ (ρ : Rho) (m : Ro) (v : Value), VR ρ m x v → VR ρ m y v
def WkL : List DV → List DV → Prop
  | [], [] => True
  | x :: l, y :: l' => (x = y ∨ WkV x y) ∧ WkL l l'
  | _, _ => False
theorem WkL.refl : ∀ l : List DV, WkL l l
  | [] => trivial
  | _ :: l => ⟨.inl rfl, WkL.refl l⟩
theorem WkL.vrl {ρ : Rho} {m : Ro} : ∀ {l l' : List DV} {vs : List Value}, WkL l l' → VRL ρ m l vs → VRL ρ m l' vs
  | [], [], _, _, h => h
  | x :: l, y :: l', vs, hw, h => by
    simp only [VRL] at h
    obtain ⟨v, r, rfl, h1, h2⟩ := h
    refine VRL.cons ?_ (WkL.vrl hw.2 h2)
    rcases hw.1 with rfl | hw
    · exact h1
    · exact hw.2 _ _ _ h1
  | [], _ :: _, _, hw, _ => hw.elim
  | _ :: _, [], _, hw, _ => hw.elim
structure Weaker (st st1 : St) : Prop where
  len : st1.t.length = st.t.length
  slots : ∀ (i : Nat) (x : DV), st1.t[i]? = some x → x = .unk ∨ ∃ y, st.t[i]? = some y ∧ (y = x ∨ WkV y x)
  heap : ∀ b x, hget st1.h b = some x → hget st.h b = some x
theorem Weaker.refl (st : St) : Weaker st st := ⟨rfl, fun _ x h => .inr ⟨x, h, .inl rfl⟩, fun _ _ h => h⟩

inductive J where
  | code (f nt : Nat) (c : Code) (st : St) (e : Ex) (st' : St)
  | loop (f nt : Nat) (c : Code) (st : St) (e : Ex) (st' : St)
  | scope (f nt : Nat) (c rest : Code) (st : St) (e : Ex) (st' : St)
  | ops (f nt : Nat) (os l : List Oper) (st : St) (outs : List Out) (st' : St)
  | call (g : Nat) (xs : List DV) (ex : List Blk) (r : DV) (ex' : List Blk)

def Ex.inBlock (id : Nat) : Ex → Ex
  | .exit id' => if id' = id then .normal else .exit id'
  | e => e
def Ex.jumps (c : Code) : Ex → Bool
  | .goto l => (findLabel c l).isSome
  | _ => false
def Ex.isNormal : Ex → Bool
  | .normal => true
  | _ => false
def Ex.ends : Ex → Bool
  | .normal | .ret => true
  | _ => false
def Blk.isBox : Blk → Bool
  | .box _ => true
  | _ => false
def phiOK (nt : Nat) (o : Out) : Bool := o.φ.all fun b => decide (b < nt)
def enterD (fi : Fi) (xs : List DV) (ex : List Blk) : St :=
  { t := xs ++ List.replicate (fi.nt - xs.length) (.tup []), h := List.replicate fi.nt none ++ ex.map some }

inductive Run (C : Cfg) (Pr Ow : Nat → List DV → DV → Prop) : J → Prop
  | sem {f nt c st e st'} : C.sem f nt c st e st' → Run C Pr Ow (.code f nt c st e st')
  | skip {f nt st} : Run C Pr Ow (.code f nt .skip st .normal st)
  | label {f nt l st} : Run C Pr Ow (.code f nt (.label l) st .normal st)
  | region {f nt id ops st outs st'} : Run C Pr Ow (.ops f nt ops.toList ops.toList st outs st') → Run C Pr Ow (.code f nt (.region id ops false) st .normal st')
  | draw {f nt id ops st outs st'} : Run C Pr Ow (.ops f nt ops.toList ops.toList st outs st') → drawOK ops.toList st outs = true → Run C Pr Ow (.code f nt (.region id ops true) st .normal st')
  | seq {f nt x y st st1 st2 e} : Run C Pr Ow (.code f nt x st .normal st1) → Run C Pr Ow (.code f nt y st1 e st2) → Run C Pr Ow (.code f nt (.seq x y) st e st2)
  | seqOut {f nt x y st st1 e} : Run C Pr Ow (.code f nt x st e st1) → e.isNormal = false → Run C Pr Ow (.code f nt (.seq x y) st e st1)
  | condT {f nt c x y st st1 e} : opnd st.t c = .bool true → Run C Pr Ow (.code f nt x st e st1) → Run C Pr Ow (.code f nt (.cond c x y) st e st1)
  | condF {f nt c x y st st1 e} : opnd st.t c = .bool false → Run C Pr Ow (.code f nt y st e st1) → Run C Pr Ow (.code f nt (.cond c x y) st e st1)
  | block {f nt id c st st1 e} : Run C Pr Ow (.code f nt c st e st1) → Run C Pr Ow (.code f nt (.block id c) st (e.inBlock id) st1)
  | loop {f nt c st st1 e} : Run C Pr Ow (.loop f nt c st e st1) → Run C Pr Ow (.code f nt (.loop c) st e st1)
  | loopMore {f nt c st st1 st2 e} : Run C Pr Ow (.code f nt c st .normal st1) → Run C Pr Ow (.loop f nt c st1 e st2) → Run C Pr Ow (.loop f nt c st e st2)
  | loopOut {f nt c st st1 e} : Run C Pr Ow (.code f nt c st e st1) → e.isNormal = false → Run C Pr Ow (.loop f nt c st e st1)
  | exit {f nt id st} : Run C Pr Ow (.code f nt (.exit id) st (.exit id) st)
  | goto {f nt l st} : Run C Pr Ow (.code f nt (.goto l) st (.goto l) st)
  | ret {f nt st} : Run C Pr Ow (.code f nt .ret st .ret st)
  | scope {f nt c st st1 e} : Run C Pr Ow (.code f nt c st e st1) → e.jumps c = false → Run C Pr Ow (.code f nt (.scope c) st e st1)
  | scopeJump {f nt c rest l st st1 st2 e} : Run C Pr Ow (.code f nt c st (.goto l) st1) → findLabel c l = some rest → Run C Pr Ow (.scope f nt c rest st1 e st2) → Run C Pr Ow (.code f nt (.scope c) st e st2)
  | scopeEnd {f nt c rest st st1 e} : Run C Pr Ow (.code f nt rest st e st1) → e.jumps c = false → Run C Pr Ow (.scope f nt c rest st e st1)
  | scopeOn {f nt c rest rest' l st st1 st2 e} : Run C Pr Ow (.code f nt rest st (.goto l) st1) → findLabel c l = some rest' → Run C Pr Ow (.scope f nt c rest' st1 e st2) → Run C Pr Ow (.scope f nt c rest st e st2)
  | weak {f nt c st st1 st2 e} : Weaker st st1 → Run C Pr Ow (.code f nt c st1 e st2) → Run C Pr Ow (.code f nt c st e st2)
  | weakLoop {f nt c st st1 st2 e} : Weaker st st1 → Run C Pr Ow (.loop f nt c st1 e st2) → Run C Pr Ow (.loop f nt c st e st2)
  | weakScope {f nt c rest st st1 st2 e} : Weaker st st1 → Run C Pr Ow (.scope f nt c rest st1 e st2) → Run C Pr Ow (.scope f nt c rest st e st2)
  | weakEnd {f nt c st st1 st2 e} : Run C Pr Ow (.code f nt c st e st1) → Weaker st1 st2 → Run C Pr Ow (.code f nt c st e st2)
  | weakEndL {f nt c st st1 st2 e} : Run C Pr Ow (.loop f nt c st e st1) → Weaker st1 st2 → Run C Pr Ow (.loop f nt c st e st2)
  | nil {f nt os st} : Run C Pr Ow (.ops f nt os [] st [] st)
  | act {f nt os o l st out outs st'} : wants os st.t o = some true → Det.act C f st.t st.h o.dst o.op = some out → phiOK nt out = true →
      Run C Pr Ow (.ops f nt os l (apply st o.dst out) outs st') → Run C Pr Ow (.ops f nt os (o :: l) st (out :: outs) st')
  | pass {f nt os o l st outs st'} : wants os st.t o = some false → Run C Pr Ow (.ops f nt os l (apply st o.dst { v := .tup [] }) outs st') → Run C Pr Ow (.ops f nt os (o :: l) st ({ v := .tup [] } :: outs) st')
  | callF {f nt os o l st out outs st' x as1 ts g first cap xs' ex r ex'} : wants os st.t o = some true → o.op = .call ⟨.value x, as1, ts⟩ → calleeOf (opnd st.t x) = some (g, first, cap) →
      callIn C st.h g (first ++ as1.toList.map (opnd st.t) ++ cap) = some (xs', ex) → C.own g = false → Run C Pr Ow (.call g xs' ex r ex') →
      callOut C st.h o.dst g (first ++ as1.toList.map (opnd st.t) ++ cap) r ex' = some out → phiOK nt out = true →
      Run C Pr Ow (.ops f nt os l (apply st o.dst out) outs st') → Run C Pr Ow (.ops f nt os (o :: l) st (out :: outs) st')
  | callOwn {f nt os o l st out outs st' x as1 ts g first cap xs' ex r ex'} : wants os st.t o = some true → o.op = .call ⟨.value x, as1, ts⟩ → calleeOf (opnd st.t x) = some (g, first, cap) →
      callIn C st.h g (first ++ as1.toList.map (opnd st.t) ++ cap) = some (xs', ex) → C.own g = true → C.scal g = false → Ow g xs' r →
      callOut C st.h o.dst g (first ++ as1.toList.map (opnd st.t) ++ cap) r ex' = some out → phiOK nt out = true →
      Run C Pr Ow (.ops f nt os l (apply st o.dst out) outs st') → Run C Pr Ow (.ops f nt os (o :: l) st (out :: outs) st')
  | prim {g xs r} : Pr g xs r → Run C Pr Ow (.call g xs [] r [])
  | callWk {g xs xs' ex r r' ex'} : WkL xs' xs → (r = r' ∨ WkV r r') → Run C Pr Ow (.call g xs ex r ex') → Run C Pr Ow (.call g xs' ex r' ex')
  | body {g fi xs ex e st vs vs' ex'} : C.F g = some fi → Run C Pr Ow (.code g fi.nt fi.code (enterD fi xs ex) e st) → e.ends = true →
      resL C st fi.res = some vs → sealL st.h vs = some vs' → sealBs st.h (st.h.drop fi.nt) = some ex' → ex'.length = ex.length → ex'.all Blk.isBox = true →
      Run C Pr Ow (.call g xs ex (one vs') ex')

end Go.Det
end

section
set_option linter.unusedVariables false
set_option linter.unusedSimpArgs false
namespace Go.Det

def Callable (P : Program) (g : Nat) : Prop := ∃ fn, P.funcs[g]? = some fn ∧ fn.body.isSome = true ∧ fn.name ≠ "runtime.NumGoroutine"

/-! Control. -/
def Ex.toExit : Ex → Exit
  | .normal => .normal
  | .exit id => .exit id
  | .goto l => .goto l
  | .ret => .ret

/-- How a run ends, in the machine. -/
def Post1 (nt : Nat) (ρ0 : Rho) (w0 : World) (L : List Nat) (m0 : Ro) (e : Ex) (st' : St) : Exit → Act → World → Prop := fun e' a' w' => e' = e.toExit ∧ ∃ ρ' m', RelX nt ρ0 w0 L m0 st' a' w' ρ' m'

def Says (P : Program) (C : Cfg) : J → Prop
  | .code f nt c st e st' => ∀ ρ0 w0 L m0 a w ρ m, GlobOK C m0 → RelX nt ρ0 w0 L m0 st a w ρ m → c.wp P (Post1 nt ρ0 w0 L m0 e st') a w
  | .loop f nt c st e st' => ∀ ρ0 w0 L m0 a w ρ m, GlobOK C m0 → RelX nt ρ0 w0 L m0 st a w ρ m → ∀ (b : Frame) (k : List Item) (cs : List Frame),
      ∃ e' a' w', Post1 nt ρ0 w0 L m0 e st' e' a' w' ∧ Arrives P (lone (b.at a (.code c :: .inLoop c :: k)) cs w) b k cs e' a' w'
  | .scope f nt c rest st e st' => ∀ ρ0 w0 L m0 a w ρ m, GlobOK C m0 → RelX nt ρ0 w0 L m0 st a w ρ m → ∀ (b : Frame) (k : List Item) (cs : List Frame),
      ∃ e' a' w', Post1 nt ρ0 w0 L m0 e st' e' a' w' ∧ Arrives P (lone (b.at a (.code rest :: .inScope c :: k)) cs w) b k cs e' a' w'
  | .ops f nt os l st outs st' => Trace P C nt os l st outs st'
  | .call g xs ex r ex' => Callable P g ∧ CallOK P C g xs ex r ex'

structure CfgOK (P : Program) (C : Cfg) (Pr Ow : Nat → List DV → DV → Prop) : Prop where
  ty : ∀ t ti, C.T t = some ti → TiOK P t ti
  fn : ∀ g fi, C.F g = some fi → ∃ fn, P.funcs[g]? = some fn ∧ fn.body = some fi.code ∧ fn.ntmps = fi.nt ∧ fn.results.toList = fi.res ∧ fn.name ≠ "runtime.NumGoroutine"
  prim : ∀ g xs r, Pr g xs r → Callable P g ∧ CallOK P C g xs [] r []
  own : ∀ g xs r, Ow g xs r → Callable P g ∧ OwnOK P C g xs r
  mixed : P.follows .mixedOrders = true
  sem : ∀ f nt c st e st', C.sem f nt c st e st' → Says P C (.code f nt c st e st')

theorem wanted_eq {w0 : World} {L : List Nat} {m0 : Ro} {st : St} {a : Act} {w : World} {ρ : Rho} {m : Ro} (r : Rel w0 L m0 st a w ρ m) {os : List Oper} {o : Oper} {b : Bool} (h : wants os st.t o = some b) :
    Region.wanted o (yielded os.toArray a.tmps) = b := by
  unfold wants at h
  unfold Region.wanted
  split at h
  · rename_i hg; rw [hg]; simpa using h
  · rename_i j want hg
    rw [hg]
    simp only
    split at h
    · rename_i d hd
      have hd' : (os.toArray[j]?).bind (·.dst) = some d := by simpa using hd
      have hs := r.sget d
      rw [Array.getD_eq_getD_getElem?] at hs
      unfold yielded
      rw [hd']
      simp only [Option.bind_some]
      split at h
      · rename_i b' hb
        rw [hb] at hs
        simp only [VR] at hs
        simp only [Option.some.injEq] at h
        cases hx : a.tmps[d]? with
        | none => rw [hx] at hs; simp [undef] at hs
        | some v => rw [hx] at hs; simp at hs; subst hs; simpa using h
      · rename_i hb
        rw [hb] at hs
        simp only [VR, VRL] at hs
        obtain ⟨vs, hs, hvs⟩ := hs
        simp only [Option.some.injEq] at h
        cases hx : a.tmps[d]? with
        | none => simp [← h]
        | some v => rw [hx] at hs; simp at hs; subst hs; simp [← h]
      · simp at h
    · simp at h

theorem agrees_opnd {os : List Oper} {o : Oper} {st st2 : St} (h : Agrees os o st st2) : ∀ x ∈ o.op.operands.toList, opnd st2.t x = opnd st.t x := by
  intro x hx
  cases x with
  | tmp i => exact h.1 i (List.mem_append_right _ (List.mem_filterMap.2 ⟨.tmp i, hx, rfl⟩))
  | const v => rfl
  | global g => rfl
  | func f => rfl
theorem agrees_wants {os : List Oper} {o : Oper} {st st2 : St} (h : Agrees os o st st2) : wants os st2.t o = wants os st.t o := by
  unfold wants
  cases hg : o.guard with
  | none => rfl
  | some p =>
    obtain ⟨j, want⟩ := p
    simp only
    cases hd : (os[j]?).bind (·.dst) with
    | none => rfl
    | some d =>
      simp only
      rw [h.1 d (List.mem_append_left _ (by rw [hg]; simp [hd]))]

section
variable {P : Program} {C : Cfg} {Pr Ow : Nat → List DV → DV → Prop} {nt : Nat} {os : List Oper} {o : Oper} {st : St} {out : Out}

theorem RelX.apply {ρ0 : Rho} {w0 : World} {L : List Nat} {m0 : Ro} {a : Act} {w : World} {ρ : Rho} {m : Ro} (r : RelX nt ρ0 w0 L m0 st a w ρ m) {v' : Value} {w' : World} {ρ' : Rho} {m' : Ro}
    (p : Post L w0.heap.size st.h w0 w ρ m out v' w' ρ' m') (hφ : phiOK nt out = true) (dst : Option Nat) : RelX nt ρ0 w0 L m0 (Det.apply st dst out) (a.put dst v') w' ρ' m' :=
  ⟨r.toRel.apply p dst, fun b hb => by
    rw [← p.rho b ?_]
    · exact r.ext b hb
    · intro hin
      have := List.all_eq_true.1 hφ b hin
      simp at this; omega⟩

theorem step_act (K0 : CfgOK P C Pr Ow) {f : Nat} (hw : wants os st.t o = some true) (ha : act C f st.t st.h o.dst o.op = some out) (hφ : phiOK nt out = true) : StepOK P C nt os o st out := by
  intro st2 hag ρ0 w0 L m0 a w ρ m K Q hG r hK
  have hw2 : wants os st2.t o = some true := (agrees_wants hag).trans hw
  rw [wanted_eq r.toRel hw2, if_pos rfl]
  have ha2 : act C f st2.t st2.h o.dst o.op = some out := by
    rw [act_frame (agrees_opnd hag) fun x hx b hb => hag.2 b (touched_direct (List.mem_flatMap.2 ⟨x, hx, hb⟩))]
    exact ha
  obtain ⟨nx, v', w', ρ', m', h1, h2, h3⟩ := act_ok K0.ty r.toRel hG ha2
  unfold Oper.wp
  rw [h1]
  rcases h2 with rfl | ⟨rfl, rfl⟩
  · rw [Oper.upon_value]; exact hK _ _ _ _ (r.apply h3 hφ _)
  · rw [Oper.upon_skip]; exact hK _ _ _ _ (r.apply h3 hφ _)

theorem step_pass (hw : wants os st.t o = some false) : StepOK P C nt os o st { v := .tup [] } := by
  intro st2 hag ρ0 w0 L m0 a w ρ m K Q hG r hK
  have hw2 : wants os st2.t o = some false := (agrees_wants hag).trans hw
  rw [wanted_eq r.toRel hw2, if_neg (by simp)]
  have hu : VR ρ m (.tup []) undef := by simp only [VR, VRL, undef]; exact ⟨#[], rfl, rfl⟩
  exact hK _ _ _ _ (r.apply (post_same r.inv r.evo hu) (by simp [phiOK]) _)

theorem VRL.append3 {ρ : Rho} {m : Ro} {a b c : List DV} {x y z : List Value} (h1 : VRL ρ m a x) (h2 : VRL ρ m b y) (h3 : VRL ρ m c z) : VRL ρ m (a ++ b ++ c) (x ++ y ++ z) := (h1.append h2).append h3

theorem step_call {x : Operand} {as1 : Array Operand} {ts : Array TypeId} {g : Nat} {first cap xs' : List DV} {ex ex' : List Blk} {r : DV} (hc : Callable P g)
    (hw : wants os st.t o = some true) (ho : o.op = .call ⟨.value x, as1, ts⟩) (hx : calleeOf (opnd st.t x) = some (g, first, cap))
    (e1 : callIn C st.h g (first ++ as1.toList.map (opnd st.t) ++ cap) = some (xs', ex)) (e2 : callOut C st.h o.dst g (first ++ as1.toList.map (opnd st.t) ++ cap) r ex' = some out)
    (hg : (C.own g = false ∧ CallOK P C g xs' ex r ex') ∨ (C.own g = true ∧ C.scal g = false ∧ OwnOK P C g xs' r)) (hφ : phiOK nt out = true) : StepOK P C nt os o st out := by
  intro st2 hag ρ0 w0 L m0 a w ρ m K Q hG rr hK
  have hw2 : wants os st2.t o = some true := (agrees_wants hag).trans hw
  rw [wanted_eq rr.toRel hw2, if_pos rfl]
  have hop := agrees_opnd hag
  have hin : ∀ y ∈ as1.toList, y ∈ o.op.operands.toList := fun y hy => by rw [ho]; simp [Op.operands, Call.operands]; exact .inr (by simpa using hy)
  have hinx : x ∈ o.op.operands.toList := by rw [ho]; simp [Op.operands, Call.operands]
  have hargs : as1.toList.map (opnd st2.t) = as1.toList.map (opnd st.t) := List.map_congr_left fun y hy => hop y (hin y hy)
  have hx2 : calleeOf (opnd st2.t x) = some (g, first, cap) := by rw [hop x hinx]; exact hx
  have hfn : opnd st.t x = .fn (.func g) first cap := by
    unfold calleeOf at hx
    split at hx
    · rename_i g' f' c' hx'; simp at hx; obtain ⟨rfl, rfl, rfl⟩ := hx; exact hx'
    · simp at hx
  have hm : ∀ b ∈ mentsL (first ++ as1.toList.map (opnd st.t) ++ cap), b ∈ o.op.operands.toList.flatMap fun x => (opnd st.t x).ments := by
    intro b hb
    rw [mentsL_append, mentsL_append, List.mem_append, List.mem_append] at hb
    rcases hb with (hb | hb) | hb
    · exact List.mem_flatMap.2 ⟨x, hinx, by rw [hfn]; simp [DV.ments, hb]⟩
    · obtain ⟨y, hy, hb⟩ := of_mentsL hb
      obtain ⟨z, hz, rfl⟩ := List.mem_map.1 hy
      exact List.mem_flatMap.2 ⟨z, hin z hz, hb⟩
    · exact List.mem_flatMap.2 ⟨x, hinx, by rw [hfn]; simp [DV.ments, hb]⟩
  have hdeep : ∀ b ∈ deepMents st.h (mentsL (first ++ as1.toList.map (opnd st.t) ++ cap)), hget st.h b = hget st2.h b := by
    intro b hb
    refine (hag.2 b ?_).symm
    unfold touched
    rw [show callsOut o.op = true by rw [ho]; rfl]
    simp only [cond_true]
    unfold deepMents
    unfold deepMents at hb
    rcases List.mem_append.1 hb with hb | hb
    · exact List.mem_append_left _ (hm b hb)
    · obtain ⟨c, hc, hb⟩ := List.mem_flatMap.1 hb
      exact List.mem_append_right _ (List.mem_flatMap.2 ⟨c, hm c hc, hb⟩)
  rw [callIn_frame hdeep] at e1
  rw [callOut_frame hdeep] at e2
  have hfv := rr.toRel.opnd x
  rw [hop x hinx, hfn] at hfv
  simp only [VR] at hfv
  obtain ⟨fv, cv, hev, hf1, hf2⟩ := hfv
  have hvals : VRL ρ m (first ++ as1.toList.map (opnd st.t) ++ cap) ((fv ++ as1.map a.eval) ++ cv).toList := by
    simp only [Array.toList_append, Array.toList_map]
    refine VRL.append3 hf1 ?_ hf2
    rw [← hargs]
    exact VRL.opnds rr.toRel as1.toList
  obtain ⟨fn, c1, c2, c3⟩ := hc
  have hrun : (execOp a.eval o).run P w = .ok (.enter g ((fv ++ as1.map a.eval) ++ cv)) w := by
    unfold execOp
    rw [ho]
    simp only [resolve, hev]
    have : fn.body ≠ none := by intro hb; rw [hb] at c2; simp at c2
    simp [Deferred.ofValue, invoke, callFunc, c1, c3, this]
  unfold Oper.wp
  rw [hrun, Oper.upon_enter]
  refine (callOp_ok rr.inv rr.evo (hG.mono rr.sub.1) hvals e1 e2 hg).mono ?_
  rintro e w' ⟨v', ρ', m', rfl, hp⟩
  exact hK _ _ _ _ (rr.apply hp hφ _)

theorem VRL.weaker {ρ : Rho} {m : Ro} : ∀ {l l' : List DV} {vs : List Value}, VRL ρ m l vs → l'.length = l.length → (∀ (i : Nat) (x : DV), l'[i]? = some x → x = .unk ∨ ∃ y, l[i]? = some y ∧ (y = x ∨ WkV y x)) → VRL ρ m l' vs
  | [], [], vs, h, _, _ => h
  | x :: l, [], vs, h, hl, _ => by simp at hl
  | [], y :: l', vs, h, hl, _ => by simp at hl
  | x :: l, y :: l', vs, h, hl, hx => by
    simp only [VRL] at h
    obtain ⟨v, r, rfl, h1, h2⟩ := h
    refine VRL.cons ?_ (VRL.weaker h2 (by simpa using hl) fun i z hz => by simpa using hx (i + 1) z (by simpa using hz))
    rcases hx 0 y rfl with rfl | ⟨z, h0, h3⟩
    · simp [VR]
    · simp at h0; subst h0
      rcases h3 with rfl | h3
      · exact h1
      · exact h3.2 _ _ _ h1

theorem RelX.weaker {ρ0 : Rho} {w0 : World} {L : List Nat} {m0 : Ro} {st1 : St} {a : Act} {w : World} {ρ : Rho} {m : Ro} (r : RelX nt ρ0 w0 L m0 st a w ρ m) (h : Weaker st st1) : RelX nt ρ0 w0 L m0 st1 a w ρ m :=
  ⟨⟨r.slots.weaker h.len h.slots, r.defers, r.inv.less h.heap, r.evo, r.sub⟩, r.ext⟩

theorem loop_arrives {c : Code} {b : Frame} {k : List Item} {cs : List Frame} {e : Ex} {m : Machine} {a' : Act} {w' : World} (he : e.isNormal = false) (harr : Arrives P m b (.inLoop c :: k) cs e.toExit a' w') :
    Arrives P m b k cs e.toExit a' w' := by
  refine .pass (x := .inLoop c) rfl (fun _ _ => .inl ?_) harr
  cases e <;> simp [Ex.isNormal, Ex.toExit] at he ⊢

theorem scope_arrives {c : Code} {b : Frame} {k : List Item} {cs : List Frame} {e : Ex} {m : Machine} {a' : Act} {w' : World} (he : e.jumps c = false) (harr : Arrives P m b (.inScope c :: k) cs e.toExit a' w') :
    Arrives P m b k cs e.toExit a' w' := by
  cases e with
  | normal => exact Steps.trans harr (.one step_inScope)
  | exit id => exact fun k' hk => harr k' (by simp [exitTo, hk])
  | goto l =>
    intro k' hk
    refine harr k' ?_
    simp only [Ex.jumps] at he
    have : findLabel c l = none := by cases h : findLabel c l <;> simp [h] at he ⊢
    simp [gotoIn, this, hk]
  | ret => exact harr
end
end Go.Det
end

section
set_option linter.unusedVariables false
set_option linter.unusedSimpArgs false
namespace Go.Det

section
variable {P : Program} {C : Cfg} {Pr Ow : Nat → List DV → DV → Prop}

theorem resOf_ok {w0 : World} {L : List Nat} {m0 : Ro} {st : St} {a : Act} {w : World} {ρ : Rho} {m : Ro} (hT : ∀ t ti, C.T t = some ti → TiOK P t ti) (r : Rel w0 L m0 st a w ρ m) (hG : GlobOK C m0) : ∀ {l : List ResultVar} {vs : List DV}, resL C st l = some vs →
    ∃ us, (l.mapM (fun | ResultVar.tmp t => pure (a.tmps.getD t undef) | .cell b t => do loadVar t (← asAddr (a.tmps.getD b undef)) : ResultVar → Sem Value)).run P w = .ok us w ∧ VRL ρ m vs us
  | [], vs, h => by
    simp [resL] at h; subst h
    exact ⟨[], rfl, by simp [VRL]⟩
  | v :: l, vs, h => by
    simp only [resL] at h
    split at h
    · rename_i x xs h1 h2
      simp only [Option.some.injEq] at h; subst h
      obtain ⟨us, k1, k2⟩ := resOf_ok hT r hG h2
      have : ∃ u, ((fun | ResultVar.tmp t => pure (a.tmps.getD t undef) | .cell b t => do loadVar t (← asAddr (a.tmps.getD b undef)) : ResultVar → Sem Value) v).run P w = .ok u w ∧ VR ρ m x u := by
        cases v with
        | tmp t =>
          simp only [resOf, Option.some.injEq] at h1; subst h1
          exact ⟨_, rfl, r.sget t⟩
        | cell b t =>
          simp only [resOf] at h1
          obtain ⟨u, q1, q2⟩ := loadOp_ok hT h1 r.inv (hG.mono r.sub.1) (r.sget b)
          refine ⟨u, ?_, q2⟩
          simp only [Instr.loadAt] at q1
          simp only
          rw [Sem.run_bind] at q1 ⊢
          cases hv : a.tmps.getD b undef with
          | pointer p =>
            rw [hv] at q1
            cases p with
            | none => simp [Instr.sureAddr] at q1
            | some ad => simpa [Instr.sureAddr, asAddr] using q1
          | _ => rw [hv] at q1; simp [Instr.sureAddr] at q1
      obtain ⟨u, q1, q2⟩ := this
      refine ⟨u :: us, ?_, VRL.cons q2 k2⟩
      rw [List.mapM_cons, Sem.run_bind, q1, Result.andThen_ok, Sem.run_bind, k1, Result.andThen_ok]
      rfl
    · simp at h

theorem sealBs_get {h : Heap} : ∀ {l : List (Option Blk)} {ex : List Blk}, sealBs h l = some ex → l.length = ex.length ∧ ∀ (j : Nat) (x : Blk), ex[j]? = some x → ∃ y, l[j]? = some (some y) ∧ sealB h y = some x
  | [], ex, e => by simp [sealBs] at e; subst e; simp
  | none :: l, ex, e => by simp [sealBs] at e
  | some b :: l, ex, e => by
    simp only [sealBs] at e
    split at e
    · rename_i b' l' h1 h2
      simp only [Option.some.injEq] at e; subst e
      obtain ⟨k1, k2⟩ := sealBs_get h2
      refine ⟨by simp [k1], fun j x hj => ?_⟩
      cases j with
      | zero => simp at hj; subst hj; exact ⟨b, rfl, h1⟩
      | succ j => simpa using k2 j x (by simpa using hj)
    · simp at e

theorem one_ok {ρ : Rho} {m : Ro} {vs : List DV} {us : Array Value} (h : VRL ρ m vs us.toList) : VR ρ m (one vs) (if h : us.size = 1 then us[0] else .tuple us) := by
  have hl := h.length
  simp only [Array.length_toList] at hl
  match vs, h, hl with
  | [], h, hl =>
    simp only [List.length_nil] at hl
    have : ¬ us.size = 1 := by omega
    rw [dif_neg this]
    simp only [one, VR]
    exact ⟨us, rfl, h⟩
  | [x], h, hl =>
    have : us.size = 1 := by simpa using hl
    rw [dif_pos this]
    simp only [one]
    obtain ⟨v, hv, hx⟩ := h.get 0 x rfl
    have : us[0] = v := by
      have : us[0]? = some v := by simpa using hv
      exact (Array.getElem?_eq_some_iff.1 this).2
    rw [this]; exact hx
  | x :: y :: l, h, hl =>
    have : ¬ us.size = 1 := by simp at hl; omega
    rw [dif_neg this]
    simp only [one, VR]
    exact ⟨us, rfl, h⟩
theorem one_ments {vs : List DV} (h : mentsL vs = []) : (one vs).ments = [] := by
  match vs, h with
  | [], h => rfl
  | [x], h => simpa [one, mentsL] using h
  | x :: y :: l, h => simpa [one, DV.ments] using h

theorem hget_enter {fi : Fi} {xs : List DV} {ex : List Blk} {b : Nat} {x : Blk} (h : hget (enterD fi xs ex).h b = some x) : ∃ j, b = fi.nt + j ∧ ex[j]? = some x := by
  unfold hget enterD at h
  simp only at h
  by_cases hb : b < fi.nt
  · rw [List.getElem?_append_left (by simpa using hb)] at h
    simp [hb] at h
  · rw [List.getElem?_append_right (by simpa using hb)] at h
    refine ⟨b - fi.nt, by omega, ?_⟩
    simp only [List.length_replicate, List.getElem?_map] at h
    cases hx : ex[b - fi.nt]? with
    | none => rw [hx] at h; simp at h
    | some y => rw [hx] at h; simpa using h

theorem VRL.undef (ρ : Rho) (m : Ro) (n : Nat) : VRL ρ m (List.replicate n (.tup [])) (List.replicate n Go.undef) := by
  induction n with
  | zero => simp [VRL]
  | succ n ih =>
    rw [List.replicate_succ, List.replicate_succ]
    exact VRL.cons (by simp only [VR, VRL, Go.undef]; exact ⟨#[], rfl, rfl⟩) ih

theorem results_ok (hT : ∀ t ti, C.T t = some ti → TiOK P t ti) {fn : Func} {fi : Fi} (c4 : fn.results.toList = fi.res) {w0 : World} {L : List Nat} {m0 : Ro} {st : St} {a' : Act} {w' : World} {ρ : Rho} {m : Ro} (r : Rel w0 L m0 st a' w' ρ m) (hG : GlobOK C m0) {vs : List DV} (hr : resL C st fi.res = some vs) :
    ∃ us : List Value, (results fn a'.tmps).run P w' = .ok (if h : us.toArray.size = 1 then us.toArray[0] else .tuple us.toArray) w' ∧ VRL ρ m vs us := by
  obtain ⟨us, u1, u2⟩ := resOf_ok hT r hG hr
  refine ⟨us, ?_, u2⟩
  unfold results
  rw [show fn.results = fi.res.toArray from by rw [← c4], List.mapM_toArray, Sem.run_bind]
  have : (List.toArray <$> fi.res.mapM (fun | ResultVar.tmp t => pure (a'.tmps.getD t undef) | .cell b t => do loadVar t (← asAddr (a'.tmps.getD b undef)) : ResultVar → Sem Value)).run P w' = .ok us.toArray w' := by
    rw [map_eq_pure_bind, Sem.run_bind, u1, Result.andThen_ok]
    rfl
  refine (congrArg (fun r => Result.andThen r _) this).trans ?_
  rw [Result.andThen_ok]
  rfl

/-! Leaving through the marks. -/
def Ro.drop (m : Ro) (D : Nat) : Ro := ⟨m.c, fun r => if r = D then .none else m.o r⟩
theorem VRL.dropO {ρ : Rho} {m : Ro} {D : Nat} {xs : List DV} {vs : List Value} (h : VRL ρ m xs vs) : VRL ρ (m.drop D) xs vs := VRL.mono (m := m) (m' := m.drop D) (fun _ _ h => h) xs h
theorem Inv.take {ρ : Rho} {m : Ro} {L : List Nat} {N : Nat} {h : Heap} {w : World} {D : Nat} {x : Obj} (i : Inv ρ m L N h w) (hD : m.o D = some x) (y : Obj) : Inv ρ (m.drop D) L N h (w.putObj D y) := by
  have far : ∀ {p : Loc} {b : Blk}, BR ρ m w p b → (w.putObj D y).heap[p.blk]? = w.heap[p.blk]? := fun hB => World.putObj_heap_other (fun e => i.oth_ne hB hD e.symm)
  refine ⟨fun b z hz => ?_, i.inj, fun r c hc => ?_, fun r z hz => ?_⟩
  · obtain ⟨p, h1, h2, h3⟩ := i.blk b z hz
    have := BR.step (m := m) (m' := m.drop D) (fun _ _ h => h) [] (fun _ _ => rfl) (far h2) h2
    rw [Blk.forget_nil] at this
    exact ⟨p, h1, this, h3⟩
  · obtain ⟨el, fr, hh⟩ := i.ro r c hc
    refine ⟨el, fr, (World.putObj_heap_other ?_).trans hh⟩
    rintro rfl
    obtain ⟨k1, k2⟩ := i.oth _ _ hD
    rw [hh] at k1; cases k1; simp [isCellsO] at k2
  · have hz : (if r = D then none else m.o r) = some z := hz
    split at hz
    · cases hz
    · rename_i e
      obtain ⟨k1, k2⟩ := i.oth _ _ hz
      exact ⟨(World.putObj_heap_other e).trans k1, k2⟩
theorem Rel.take {w0 : World} {L : List Nat} {m0 : Ro} {st : St} {a : Act} {w : World} {ρ : Rho} {m : Ro} (r : Rel w0 L m0 st a w ρ m) (hm0 : ∀ k x, m0.o k = some x → k < w0.heap.size) {d : Deferred} {ds : List Deferred} (hd : a.defers = d :: ds) :
    ∃ D, d.target = .collected D ∧ w.heap[D]? = some (.deferred (some [])) ∧ Rel w0 L m0 st { a with defers := ds } (w.putObj D (.deferred none)) ρ (m.drop D) := by
  obtain ⟨D, rfl, h1, h2⟩ := r.defers.mark d (by rw [hd]; simp)
  have hnd := r.defers.nodup
  rw [hd, List.nodup_cons] at hnd
  have hD : ∀ k x, m0.o k = some x → (m.drop D).o k = some x := fun k x hk => by
    show (if k = D then none else m.o k) = some x
    rw [if_neg (by have := hm0 k x hk; omega)]; exact r.sub.3 k x hk
  refine ⟨D, rfl, (r.inv.oth _ _ h1).1, ⟨r.slots.dropO, ⟨fun d' hd' => ?_, hnd.2⟩, r.inv.take h1 _, ⟨r.evo.os, r.evo.tape, r.evo.output, by simpa using r.evo.size, fun k hk hL => ?_⟩, ⟨r.sub.1, r.sub.2, hD⟩⟩⟩
  · obtain ⟨D', rfl, q1, q2⟩ := r.defers.mark d' (by rw [hd]; exact List.mem_cons_of_mem _ hd')
    refine ⟨D', rfl, ?_, q2⟩
    show (if D' = D then none else m.o D') = _
    rw [if_neg ?_]
    · exact q1
    · rintro rfl; exact hnd.1 hd'
  · exact (World.putObj_heap_other (by omega)).trans (r.evo.keep k hk hL)
theorem leaves_ok {nt : Nat} {ρ0 : Rho} {fn : Func} {R : Ending → World → Prop} {w0 : World} {L : List Nat} {m0 : Ro} {st : St} {ρ : Rho} (hm0 : ∀ k x, m0.o k = some x → k < w0.heap.size) : ∀ (ds : List Deferred) (a : Act) (w : World) (m : Ro), a.defers = ds → RelX nt ρ0 w0 L m0 st a w ρ m →
    (∀ (a' : Act) (w' : World) (m' : Ro), a'.tmps = a.tmps → RelX nt ρ0 w0 L m0 st a' w' ρ m' → ∃ v, (results fn a'.tmps).run P w' = .ok v w' ∧ R (.returned v) w') →
    LeavesInM Fence.wide 0 P fn a.tmps R ds .returning w
  | [], a, w, m, hd, r, k => k a w m rfl r
  | d :: ds, a, w, m, hd, r, k => by
    obtain ⟨D, h1, h2, h3⟩ := r.toRel.take hm0 hd
    refine ⟨by simp, .inl ⟨D, _, h1, run_takeDeferred h2, ?_⟩⟩
    exact leaves_ok hm0 ds { a with defers := ds } _ _ rfl ⟨h3, r.ext⟩ k
theorem calls_of_rel {nt : Nat} {ρ0 : Rho} {f : FuncId} {fn : Func} {c : Code} {args : Array Value} {w : World} {R : Ending → World → Prop} {L : List Nat} {m0 : Ro} {st : St} {e : Ex} (he : e.ends = true)
    (hm0 : ∀ k x, m0.o k = some x → k < w.heap.size) (hf : P.funcs[f]? = some fn) (hb : fn.body = some c)
    (h : c.wp P (Post1 nt ρ0 w L m0 e st) { tmps := args ++ Array.replicate (fn.ntmps - args.size) undef, defers := [] } w)
    (k : ∀ (a' : Act) (w' : World) (ρ : Rho) (m' : Ro), RelX nt ρ0 w L m0 st a' w' ρ m' → ∃ v, (results fn a'.tmps).run P w' = .ok v w' ∧ R (.returned v) w') : Calls P f args w R := by
  refine (callsIn_wide (n := 0)).1 (callsIn_of_wp_marks hf hb trivial (wpIn_wide.2 (Go.wp_mono h ?_)))
  rintro e' a' w' ⟨rfl, ρ', m', r'⟩
  have := leaves_ok (P := P) (fn := fn) (R := R) hm0 a'.defers a' w' m' rfl r' (fun a2 w2 m2 _ r2 => k a2 w2 ρ' m2 r2)
  cases e <;> simp [Ex.ends] at he <;> exact this

set_option maxHeartbeats 1000000 in
theorem body_ok (K0 : CfgOK P C Pr Ow) {g : Nat} {fi : Fi} {xs : List DV} {ex : List Blk} {e : Ex} {st : St} {vs vs' : List DV} {ex' : List Blk} (hf : C.F g = some fi)
    (hrun : Says P C (.code g fi.nt fi.code (enterD fi xs ex) e st)) (he : e.ends = true) (hr : resL C st fi.res = some vs) (hs : sealL st.h vs = some vs')
    (hb : sealBs st.h (st.h.drop fi.nt) = some ex') (hl : ex'.length = ex.length) (hbox : ex'.all Blk.isBox = true) : Callable P g ∧ CallOK P C g xs ex (one vs') ex' := by
  obtain ⟨fn, c1, c2, c3, c4, c5⟩ := K0.fn g fi hf
  refine ⟨⟨fn, c1, by simp [c2], c5⟩, one_ments (sealL_ments vs hs).1, hl, ?_⟩
  intro ρ m w vals blks hG hro hx hext
  have hbase : baseOf C g = fi.nt := by unfold baseOf; rw [hf]
  rw [hbase] at hext ⊢
  have hlen := hx.length
  simp only [Array.length_toList] at hlen
  have r : RelX fi.nt ρ w blks m (enterD fi xs ex) { tmps := vals ++ Array.replicate (fn.ntmps - vals.size) undef, defers := [] } w ρ m := by
    refine ⟨⟨?_, Marks.nil _ _, ⟨fun b x hb => ?_, fun b b' x x' p p' hb hb' hp hp' hpp => ?_, hro.1, hro.2⟩, Evo.refl _ _, Grows.refl _ _⟩, fun _ _ => rfl⟩
    · simp only [enterD, Array.toList_append, Array.toList_replicate, c3, hlen]
      exact hx.append (VRL.undef ρ m _)
    · obtain ⟨j, rfl, hj⟩ := hget_enter hb
      obtain ⟨p, p1, p2, p3, p4, cs, rfl, p5⟩ := hext.at_ j x hj
      exact ⟨p, p1, p3, p4, .inl (List.mem_of_getElem? p2), by simp [Blk.isRow]⟩
    · obtain ⟨j, rfl, hj⟩ := hget_enter hb
      obtain ⟨j', rfl, hj'⟩ := hget_enter hb'
      obtain ⟨q, p1, p2, _⟩ := hext.at_ j x hj
      obtain ⟨q', p1', p2', _⟩ := hext.at_ j' x' hj'
      rw [hp] at p1; cases p1
      rw [hp'] at p1'; cases p1'
      rw [hpp] at p2
      have hj1 := (List.getElem?_eq_some_iff.1 p2)
      have hj2 := (List.getElem?_eq_some_iff.1 p2')
      obtain ⟨a1, a2⟩ := hj1
      obtain ⟨b1, b2⟩ := hj2
      have hnd := hext.nodup
      unfold List.Nodup at hnd
      rw [List.pairwise_iff_getElem] at hnd
      rcases Nat.lt_trichotomy j j' with h | h | h
      · exact absurd (by rw [a2, b2]) (hnd j j' a1 b1 h)
      · rw [h]
      · exact absurd (by rw [a2, b2]) (hnd j' j b1 a1 h)
  refine calls_of_rel he (fun k x hk => (Array.getElem?_eq_some_iff.1 (hro.2 k x hk).1).1) c1 c2 (hrun ρ w blks m _ w ρ m hG r) ?_
  intro a' w' ρ' m' r'
  have final : ∃ v, (results fn a'.tmps).run P w' = .ok v w' ∧ (∃ v' m', Ending.returned v = .returned v' ∧ VR ρ m' (one vs') v' ∧ ExtOK m' w' fi.nt ρ ex' blks ∧ RoOK m' w' ∧ Grows w.heap.size m m' ∧ Evo blks w w') := by
    obtain ⟨us, u1, u2⟩ := resOf_ok K0.ty r'.toRel hG hr
    have hres : (results fn a'.tmps).run P w' = .ok (if h : us.toArray.size = 1 then us.toArray[0] else .tuple us.toArray) w' := by
      unfold results
      rw [show fn.results = fi.res.toArray from by rw [← c4], List.mapM_toArray, Sem.run_bind]
      have : (List.toArray <$> fi.res.mapM (fun | ResultVar.tmp t => pure (a'.tmps.getD t undef) | .cell b t => do loadVar t (← asAddr (a'.tmps.getD b undef)) : ResultVar → Sem Value)).run P w' = .ok us.toArray w' := by
        rw [map_eq_pure_bind, Sem.run_bind, u1, Result.andThen_ok]
        rfl
      refine (congrArg (fun r => Result.andThen r _) this).trans ?_
      rw [Result.andThen_ok]
      rfl
    refine ⟨_, hres, ?_⟩
    let V := mentsL vs ++ (st.h.drop fi.nt).flatMap boxMents
    obtain ⟨bl, hbs⟩ := sealBs_get hb
    have hboxes : ∀ (j : Nat) (x : Blk), ex'[j]? = some x → ∃ cs cs', hget st.h (fi.nt + j) = some (.box cs) ∧ (st.h.drop fi.nt)[j]? = some (some (.box cs)) ∧ sealL st.h cs = some cs' ∧ x = .box cs' := by
      intro j x hj
      obtain ⟨y, hy, hyx⟩ := hbs j x hj
      have hbx : x.isBox = true := by
        have := List.all_eq_true.1 hbox x (List.mem_of_getElem? hj)
        exact this
      have hy' := hy
      rw [List.getElem?_drop] at hy
      cases y with
      | box cs =>
        simp only [sealB, Option.map_eq_some_iff] at hyx
        obtain ⟨cs', q1, rfl⟩ := hyx
        exact ⟨cs, cs', by unfold hget; rw [hy]; rfl, hy', q1, rfl⟩
      | row n es => simp only [sealB, Option.some.injEq] at hyx; subst hyx; simp [Blk.isBox] at hbx
      | iter s p => simp only [sealB, Option.some.injEq] at hyx; subst hyx; simp [Blk.isBox] at hbx
    have hV : ViewsOK st.h V := by
      intro b hb'
      rcases List.mem_append.1 hb' with hb' | hb'
      · exact (sealL_ments vs hs).2 b hb'
      · obtain ⟨y, hy, hb'⟩ := List.mem_flatMap.1 hb'
        obtain ⟨j, hj⟩ := List.getElem?_of_mem hy
        have hjl : j < ex'.length := by rw [← bl]; exact (List.getElem?_eq_some_iff.1 hj).1
        obtain ⟨cs, cs', q1, q2, q3, q4⟩ := hboxes j _ (List.getElem?_eq_getElem hjl)
        rw [hj] at q2; cases q2
        exact (sealL_ments cs q3).2 b hb'
    obtain ⟨g1, ro1, k1, k2⟩ := viewM_old r'.inv hV
    have hshow : Shows ρ' m' st.h (viewM ρ' w' m' V) V := viewM_shows r'.inv hV (Sub.refl _)
    refine ⟨_, viewM ρ' w' m' V, rfl, one_ok (by simpa using sealL_ok g1.1 hshow vs hs (fun b hb => List.mem_append_left _ hb) u2 ρ), ⟨?_, hext.nodup, fun j x hj => ?_⟩, ro1, r'.sub.trans g1, r'.evo⟩
    · rw [hl]; exact hext.len
    · obtain ⟨cs, cs', q1, q2, q3, rfl⟩ := hboxes j x hj
      obtain ⟨p, hp, hB, hm, hL, _⟩ := r'.inv.blk _ _ q1
      have hjl : j < ex.length := by rw [← hl]; exact (List.getElem?_eq_some_iff.1 hj).1
      obtain ⟨p0, z1, z2, _⟩ := hext.at_ j _ (List.getElem?_eq_getElem hjl)
      have : p = p0 := by
        have := r'.ext (fi.nt + j) (Nat.le_add_right _ _)
        rw [hp, z1] at this; exact Option.some.inj this
      subst this
      refine ⟨p, z1, z2, hB.box rfl fun u hu => sealL_ok g1.1 hshow cs q3 (fun b hb' => List.mem_append_right _ (List.mem_flatMap.2 ⟨_, List.mem_of_getElem? q2, hb'⟩)) hu ρ, ?_, cs', rfl, (sealL_ments cs q3).1⟩
      rw [k2, hm]
      intro b' hb' p' hp' hpp
      obtain ⟨n, es, hrow⟩ := hV b' hb'
      have := r'.inv.inj b' _ _ _ p' p hrow q1 hp' hp hpp
      subst this
      rw [hrow] at q1; cases q1
  exact final

theorem Run.sound (K0 : CfgOK P C Pr Ow) : ∀ {j : J}, Run C Pr Ow j → Says P C j := by
  intro j h
  induction h with
  | skip => intro ρ0 w0 L m0 a w ρ m hG r; exact wp_skip ⟨rfl, ρ, m, r⟩
  | label => intro ρ0 w0 L m0 a w ρ m hG r; exact wp_label ⟨rfl, ρ, m, r⟩
  | region h ih =>
    intro ρ0 w0 L m0 a w ρ m hG r
    exact wp_region_list (by simpa using trace_list (Q := Post1 _ ρ0 w0 L m0 .normal _) hG ih r fun a' w' ρ' m' r' => ⟨rfl, ρ', m', r'⟩)
  | @draw f nt id ops st outs st' h hd ih =>
    intro ρ0 w0 L m0 a w ρ m hG r
    have D := draw_of ih hd
    refine wp_region_any K0.mixed ?_
    have r' : RelX nt ρ0 w0 L m0 st a w.drew ρ m := ⟨⟨r.slots, r.defers, r.inv.drew, r.evo.drew, r.sub⟩, r.ext⟩
    have key : ∀ (l : List (Oper × Out)) (k : Nat) (st : St), foldSel (fun k => (Array.replicate ops.size false).getD k false) k l st = st := by
      intro l
      induction l with
      | nil => intro _ _; rfl
      | cons x l ih =>
        intro k st; obtain ⟨o, out⟩ := x
        have : (Array.replicate ops.size false).getD k false = false := by
          simp [Array.getD_eq_getD_getElem?, Array.getElem?_replicate]
          split <;> rfl
        simp only [foldSel, this, Bool.false_eq_true, if_false]
        exact ih (k + 1) st
    have := D.any hG (Q := Post1 nt ρ0 w0 L m0 .normal st') (fun a' w' ρ' m' r' => ⟨rfl, ρ', m', r'⟩) ops.size (Array.replicate ops.size false) a w.drew ρ m (by simp) ?_ (Nat.le_trans List.countP_le_length (by simp)) (by rw [key]; exact r')
    · rw [Array.toArray_toList] at this; exact this
    · intro k o ho hk j hj
      simp [Array.getD_eq_getD_getElem?, Array.getElem?_replicate] at hk
      split at hk <;> simp at hk
  | seq h1 h2 i1 i2 =>
    intro ρ0 w0 L m0 a w ρ m hG r
    refine wp_seq (Go.wp_mono (i1 ρ0 w0 L m0 a w ρ m hG r) ?_)
    rintro e a' w' ⟨rfl, ρ', m', r'⟩
    exact i2 ρ0 w0 L m0 a' w' ρ' m' hG r'
  | @seqOut f nt x y st st1 e h1 he i1 =>
    intro ρ0 w0 L m0 a w ρ m hG r
    refine wp_seq (Go.wp_mono (i1 ρ0 w0 L m0 a w ρ m hG r) ?_)
    rintro e' a' w' ⟨rfl, ρ', m', r'⟩
    cases e <;> simp [Ex.isNormal] at he <;> exact ⟨rfl, ρ', m', r'⟩
  | @condT f nt c x y st st1 e hc h1 i1 =>
    intro ρ0 w0 L m0 a w ρ m hG r
    have := r.toRel.opnd c
    rw [hc] at this; simp only [VR] at this
    exact wp_cond_true this (i1 ρ0 w0 L m0 a w ρ m hG r)
  | @condF f nt c x y st st1 e hc h1 i1 =>
    intro ρ0 w0 L m0 a w ρ m hG r
    have := r.toRel.opnd c
    rw [hc] at this; simp only [VR] at this
    exact wp_cond_false this (i1 ρ0 w0 L m0 a w ρ m hG r)
  | @block f nt id c st st1 e h1 i1 =>
    intro ρ0 w0 L m0 a w ρ m hG r
    refine wp_block (Go.wp_mono (i1 ρ0 w0 L m0 a w ρ m hG r) ?_)
    rintro e' a' w' ⟨rfl, ρ', m', r'⟩
    cases e with
    | exit id' =>
      simp only [Ex.toExit, Exit.inBlock, Ex.inBlock]
      split <;> exact ⟨by rename_i h; simp [h, Ex.toExit], ρ', m', r'⟩
    | _ => exact ⟨rfl, ρ', m', r'⟩
  | loop h1 i1 =>
    intro ρ0 w0 L m0 a w ρ m hG r b k cs
    obtain ⟨e', a', w', q, harr⟩ := i1 ρ0 w0 L m0 a w ρ m hG r b k cs
    exact ⟨e', a', w', q, .of_steps (.one step_loop) harr⟩
  | @loopMore f nt c st st1 st2 e h1 h2 i1 i2 =>
    intro ρ0 w0 L m0 a w ρ m hG r b k cs
    obtain ⟨e', a', w', ⟨rfl, ρ', m', r'⟩, harr⟩ := i1 ρ0 w0 L m0 a w ρ m hG r b (.inLoop c :: k) cs
    obtain ⟨e2, a2, w2, q, harr2⟩ := i2 ρ0 w0 L m0 a' w' ρ' m' hG r' b k cs
    exact ⟨e2, a2, w2, q, .of_steps (Steps.trans harr (.one step_inLoop)) harr2⟩
  | @loopOut f nt c st st1 e h1 he i1 =>
    intro ρ0 w0 L m0 a w ρ m hG r b k cs
    obtain ⟨e', a', w', ⟨rfl, ρ', m', r'⟩, harr⟩ := i1 ρ0 w0 L m0 a w ρ m hG r b (.inLoop c :: k) cs
    exact ⟨_, a', w', ⟨rfl, ρ', m', r'⟩, loop_arrives he harr⟩
  | exit => intro ρ0 w0 L m0 a w ρ m hG r; exact wp_exit ⟨rfl, ρ, m, r⟩
  | goto => intro ρ0 w0 L m0 a w ρ m hG r; exact wp_goto ⟨rfl, ρ, m, r⟩
  | ret => intro ρ0 w0 L m0 a w ρ m hG r; exact wp_ret ⟨rfl, ρ, m, r⟩
  | @scope f nt c st st1 e h1 he i1 =>
    intro ρ0 w0 L m0 a w ρ m hG r b k cs
    obtain ⟨e', a', w', ⟨rfl, ρ', m', r'⟩, harr⟩ := i1 ρ0 w0 L m0 a w ρ m hG r b (.inScope c :: k) cs
    exact ⟨_, a', w', ⟨rfl, ρ', m', r'⟩, .of_steps (.one step_scope) (scope_arrives he harr)⟩
  | @scopeJump f nt c rest l st st1 st2 e h1 hf h2 i1 i2 =>
    intro ρ0 w0 L m0 a w ρ m hG r b k cs
    obtain ⟨e', a', w', ⟨rfl, ρ', m', r'⟩, harr⟩ := i1 ρ0 w0 L m0 a w ρ m hG r b (.inScope c :: k) cs
    obtain ⟨e2, a2, w2, q, harr2⟩ := i2 ρ0 w0 L m0 a' w' ρ' m' hG r' b k cs
    have hg : gotoIn l (.inScope c :: k) = some (.code rest :: .inScope c :: k) := by simp [gotoIn, hf]
    exact ⟨e2, a2, w2, q, .of_steps (.head step_scope (harr _ hg)) harr2⟩
  | @scopeEnd f nt c rest st st1 e h1 he i1 =>
    intro ρ0 w0 L m0 a w ρ m hG r b k cs
    obtain ⟨e', a', w', ⟨rfl, ρ', m', r'⟩, harr⟩ := i1 ρ0 w0 L m0 a w ρ m hG r b (.inScope c :: k) cs
    exact ⟨_, a', w', ⟨rfl, ρ', m', r'⟩, scope_arrives he harr⟩
  | @scopeOn f nt c rest rest' l st st1 st2 e h1 hf h2 i1 i2 =>
    intro ρ0 w0 L m0 a w ρ m hG r b k cs
    obtain ⟨e', a', w', ⟨rfl, ρ', m', r'⟩, harr⟩ := i1 ρ0 w0 L m0 a w ρ m hG r b (.inScope c :: k) cs
    obtain ⟨e2, a2, w2, q, harr2⟩ := i2 ρ0 w0 L m0 a' w' ρ' m' hG r' b k cs
    have hg : gotoIn l (.inScope c :: k) = some (.code rest' :: .inScope c :: k) := by simp [gotoIn, hf]
    exact ⟨e2, a2, w2, q, .of_steps (harr _ hg) harr2⟩
  | weak h h1 i1 => intro ρ0 w0 L m0 a w ρ m hG r; exact i1 ρ0 w0 L m0 a w ρ m hG (r.weaker h)
  | weakLoop h h1 i1 => intro ρ0 w0 L m0 a w ρ m hG r; exact i1 ρ0 w0 L m0 a w ρ m hG (r.weaker h)
  | sem h => exact K0.sem _ _ _ _ _ _ h
  | weakEnd h1 hw i1 => intro ρ0 w0 L m0 a w ρ m hG r; exact Go.wp_mono (i1 ρ0 w0 L m0 a w ρ m hG r) (by rintro e' a' w' ⟨he, ρ', m', r'⟩; exact ⟨he, ρ', m', r'.weaker hw⟩)
  | weakEndL h1 hw i1 =>
    intro ρ0 w0 L m0 a w ρ m hG r b k cs
    obtain ⟨e', a', w', ⟨he, ρ', m', r'⟩, hA⟩ := i1 ρ0 w0 L m0 a w ρ m hG r b k cs
    exact ⟨e', a', w', ⟨he, ρ', m', r'.weaker hw⟩, hA⟩
  | weakScope h h1 i1 => intro ρ0 w0 L m0 a w ρ m hG r; exact i1 ρ0 w0 L m0 a w ρ m hG (r.weaker h)
  | nil => rfl
  | act hw ha hφ h1 i1 => exact ⟨step_act K0 hw ha hφ, i1⟩
  | pass hw h1 i1 => exact ⟨step_pass hw, i1⟩
  | callF hw ho hx e1 hown h1 e2 hφ h2 i1 i2 => exact ⟨step_call i1.1 hw ho hx e1 e2 (.inl ⟨hown, i1.2⟩) hφ, i2⟩
  | callOwn hw ho hx e1 hown hsc how e2 hφ h2 i2 => exact ⟨step_call (K0.own _ _ _ how).1 hw ho hx e1 e2 (.inr ⟨hown, hsc, (K0.own _ _ _ how).2⟩) hφ, i2⟩
  | prim h => exact K0.prim _ _ _ h
  | callWk hx hr _ ih =>
    obtain ⟨h1, h2, h3, h4⟩ := ih
    refine ⟨h1, ?_, h3, fun ρ m w vals blks hG hR hv hE => (h4 ρ m w vals blks hG hR (hx.vrl hv) hE).mono ?_⟩
    · rcases hr with rfl | hr
      · exact h2
      · exact hr.1
    · rintro e w' ⟨v', m', rfl, k1, k2⟩
      refine ⟨v', m', rfl, ?_, k2⟩
      rcases hr with rfl | hr
      · exact k1
      · exact hr.2 _ _ _ k1
  | body hf h1 he hr hs hb hl hbox i1 => exact body_ok K0 hf i1 he hr hs hb hl hbox
end
end Go.Det
end

section
set_option linter.unusedVariables false
set_option linter.unusedSimpArgs false
namespace Go.Det

/-! A program's own tables. -/
def tdOf (P : Program) (t : Nat) : TypeDesc → Option Td
  | .bool => some .bool
  | .int k => some (.int k)
  | .string => some .str
  | .pointer e => some (.ptr e)
  | .slice e => some (.sl e)
  | .array n e => some (.arr n e)
  | .map k e => some (.map k e)
  | .struct fs =>
    if fs.toList.all (fun f => f.name != "_" && (P.info? f.type).isSome) && !P.stoodInHeld t && !P.eqGuardType P.depth t then some (.st (fs.toList.map fun f => (f.offset, f.type))) else none
  | .func .. => some .fn
  | .interface _ => some .ifc
  | _ => some .other
def tiOf (P : Program) (t : Nat) : Option Ti :=
  match P.info? t, P.underlying t with
  | some i, some d => match tdOf P t d with
    | some td => some { d := td, size := i.size, bytes := i.bytes, zero := match i.zero with | some z => (ofCells z.cells.toList).getD [] | none => [] }
    | none => none
  | _, _ => none
def fiOf (P : Program) (f : Nat) : Option Fi :=
  match P.funcs[f]? with
  | some fn => match fn.body with
    | some c => if fn.name = "runtime.NumGoroutine" then none else some { nt := fn.ntmps, res := fn.results.toList, code := c }
    | none => none
  | none => none

theorem tiOf_ok {P : Program} {t : Nat} {ti : Ti} (h : tiOf P t = some ti) : TiOK P t ti := by
  unfold tiOf at h
  split at h
  · rename_i i d hi hd
    split at h
    · rename_i td htd
      simp only [Option.some.injEq] at h; subst h
      refine ⟨⟨i, hi, rfl, rfl, ?_⟩, ⟨d, hd, ?_⟩⟩
      · intro hz
        simp only at hz
        cases hzz : i.zero with
        | none => rw [hzz] at hz; exact absurd rfl hz
        | some z =>
          rw [hzz] at hz
          cases hc : ofCells z.cells.toList with
          | none => simp [hc] at hz
          | some cs =>
            obtain ⟨a, b, c⟩ := ofCells_ok (ρ := fun _ => none) (m := Ro.none) hc
            simp only [hc, Option.getD_some]
            exact ⟨z, rfl, a, b, c⟩
      · cases d <;> simp only [tdOf, Option.some.injEq] at htd <;> first
          | (subst htd; simp only [TdOK]; done)
          | (subst htd; exact rfl)
          | (subst htd; exact ⟨_, _, _, rfl⟩)
          | (subst htd; exact ⟨_, rfl⟩)
          | (subst htd; exact ⟨fun _ h => by simp at h, fun _ _ h => by simp at h, fun _ h => by simp at h⟩)
          | skip
        rename_i fs
        split at htd
        · rename_i hc
          simp only [Option.some.injEq] at htd; subst htd
          simp only [Bool.and_eq_true, Bool.not_eq_true', List.all_eq_true] at hc
          obtain ⟨⟨h1, h2⟩, h3⟩ := hc
          refine ⟨fs, rfl, rfl, fun f hf => ?_, h2, h3, fun f hf => (h1 f hf).2⟩
          simpa using (h1 f hf).1
        · simp at htd
    · simp at h
  · simp at h

theorem fiOf_ok {P : Program} {g : Nat} {fi : Fi} (h : fiOf P g = some fi) : ∃ fn, P.funcs[g]? = some fn ∧ fn.body = some fi.code ∧ fn.ntmps = fi.nt ∧ fn.results.toList = fi.res ∧ fn.name ≠ "runtime.NumGoroutine" := by
  unfold fiOf at h
  split at h
  · rename_i fn hf
    split at h
    · rename_i c hc
      split at h
      · simp at h
      · rename_i hn
        simp only [Option.some.injEq] at h; subst h
        exact ⟨fn, hf, hc, rfl, rfl, hn⟩
    · simp at h
  · simp at h

end Go.Det
end

section
set_option linter.unusedVariables false
set_option linter.unusedSimpArgs false
namespace Go.Det

/-! Runs, from the front: what is to hold behind them is given. -/
section
variable (C : Cfg) (Pr Ow : Nat → List DV → DV → Prop)
def GoX (f nt : Nat) (c : Code) (st : St) (Q : Ex → St → Prop) : Prop := ∃ e st', Run C Pr Ow (.code f nt c st e st') ∧ Q e st'
def GoL (f nt : Nat) (c : Code) (st : St) (Q : Ex → St → Prop) : Prop := ∃ e st', Run C Pr Ow (.loop f nt c st e st') ∧ Q e st'
def GoS (f nt : Nat) (c rest : Code) (st : St) (Q : Ex → St → Prop) : Prop := ∃ e st', Run C Pr Ow (.scope f nt c rest st e st') ∧ Q e st'
def GoO (f nt : Nat) (os l : List Oper) (st : St) (K : List Out → St → Prop) : Prop := ∃ outs st', Run C Pr Ow (.ops f nt os l st outs st') ∧ K outs st'
def GoC (g : Nat) (xs : List DV) (ex : List Blk) (Φ : DV → List Blk → Prop) : Prop := ∃ r ex', Run C Pr Ow (.call g xs ex r ex') ∧ Φ r ex'
end

section
variable {C : Cfg} {Pr Ow : Nat → List DV → DV → Prop} {f nt : Nat} {st : St} {Q : Ex → St → Prop}

theorem GoC.mono {g : Nat} {xs : List DV} {ex : List Blk} {Φ Φ' : DV → List Blk → Prop} (h : GoC C Pr Ow g xs ex Φ) (hq : ∀ r ex', Φ r ex' → Φ' r ex') : GoC C Pr Ow g xs ex Φ' :=
  let ⟨r, ex', a, b⟩ := h; ⟨r, ex', a, hq _ _ b⟩
theorem GoX.mono {c : Code} {Q' : Ex → St → Prop} (h : GoX C Pr Ow f nt c st Q) (hq : ∀ e st', Q e st' → Q' e st') : GoX C Pr Ow f nt c st Q' :=
  let ⟨r, ex', a, b⟩ := h; ⟨r, ex', a, hq _ _ b⟩
theorem GoL.mono {c : Code} {Q' : Ex → St → Prop} (h : GoL C Pr Ow f nt c st Q) (hq : ∀ e st', Q e st' → Q' e st') : GoL C Pr Ow f nt c st Q' :=
  let ⟨r, ex', a, b⟩ := h; ⟨r, ex', a, hq _ _ b⟩

theorem go_sem {c : Code} {e : Ex} {st' : St} (hs : C.sem f nt c st e st') (h : Q e st') : GoX C Pr Ow f nt c st Q := ⟨_, _, .sem hs, h⟩
theorem go_skip (h : Q .normal st) : GoX C Pr Ow f nt .skip st Q := ⟨_, _, .skip, h⟩
theorem go_label {l : Nat} (h : Q .normal st) : GoX C Pr Ow f nt (.label l) st Q := ⟨_, _, .label, h⟩
theorem go_exit {id : Nat} (h : Q (.exit id) st) : GoX C Pr Ow f nt (.exit id) st Q := ⟨_, _, .exit, h⟩
theorem go_goto {l : Nat} (h : Q (.goto l) st) : GoX C Pr Ow f nt (.goto l) st Q := ⟨_, _, .goto, h⟩
theorem go_ret (h : Q .ret st) : GoX C Pr Ow f nt .ret st Q := ⟨_, _, .ret, h⟩

/-- On, if the run goes on. -/
def Ex.on (Q : Ex → St → Prop) (K : St → Prop) : Ex → St → Prop
  | .normal, st => K st
  | e, st => Q e st
theorem go_seq {x y : Code} (h : GoX C Pr Ow f nt x st (Ex.on Q fun st1 => GoX C Pr Ow f nt y st1 Q)) : GoX C Pr Ow f nt (.seq x y) st Q := by
  obtain ⟨e, st1, a, b⟩ := h
  cases e with
  | normal => obtain ⟨e2, st2, a2, b2⟩ := b; exact ⟨e2, st2, .seq a a2, b2⟩
  | exit id => exact ⟨_, _, .seqOut a rfl, b⟩
  | goto id => exact ⟨_, _, .seqOut a rfl, b⟩
  | ret => exact ⟨_, _, .seqOut a rfl, b⟩
theorem go_cond {c : Operand} {x y : Code} {b : Bool} (hc : opnd st.t c = .bool b) (ht : b = true → GoX C Pr Ow f nt x st Q) (hf : b = false → GoX C Pr Ow f nt y st Q) : GoX C Pr Ow f nt (.cond c x y) st Q := by
  cases b with
  | true => obtain ⟨e, st1, a, b⟩ := ht rfl; exact ⟨e, st1, .condT hc a, b⟩
  | false => obtain ⟨e, st1, a, b⟩ := hf rfl; exact ⟨e, st1, .condF hc a, b⟩
theorem go_condT {c : Operand} {x y : Code} (hc : opnd st.t c = .bool true) (h : GoX C Pr Ow f nt x st Q) : GoX C Pr Ow f nt (.cond c x y) st Q :=
  let ⟨e, st1, a, b⟩ := h; ⟨e, st1, .condT hc a, b⟩
theorem go_condF {c : Operand} {x y : Code} (hc : opnd st.t c = .bool false) (h : GoX C Pr Ow f nt y st Q) : GoX C Pr Ow f nt (.cond c x y) st Q :=
  let ⟨e, st1, a, b⟩ := h; ⟨e, st1, .condF hc a, b⟩
def Ex.blocked (id : Nat) (Q : Ex → St → Prop) : Ex → St → Prop := fun e st => Q (e.inBlock id) st
theorem go_block {id : Nat} {c : Code} (h : GoX C Pr Ow f nt c st (Ex.blocked id Q)) : GoX C Pr Ow f nt (.block id c) st Q :=
  let ⟨_, st1, a, b⟩ := h; ⟨_, st1, .block a, b⟩
theorem go_loop {c : Code} (h : GoL C Pr Ow f nt c st Q) : GoX C Pr Ow f nt (.loop c) st Q :=
  let ⟨_, st1, a, b⟩ := h; ⟨_, st1, .loop a, b⟩
theorem go_round {c : Code} (h : GoX C Pr Ow f nt c st (Ex.on Q fun st1 => GoL C Pr Ow f nt c st1 Q)) : GoL C Pr Ow f nt c st Q := by
  obtain ⟨e, st1, a, b⟩ := h
  cases e with
  | normal => obtain ⟨e2, st2, a2, b2⟩ := b; exact ⟨e2, st2, .loopMore a a2, b2⟩
  | exit id => exact ⟨_, _, .loopOut a rfl, b⟩
  | goto id => exact ⟨_, _, .loopOut a rfl, b⟩
  | ret => exact ⟨_, _, .loopOut a rfl, b⟩
theorem go_weak {c : Code} {st1 : St} (hw : Weaker st st1) (h : GoX C Pr Ow f nt c st1 Q) : GoX C Pr Ow f nt c st Q :=
  let ⟨_, st2, a, b⟩ := h; ⟨_, st2, .weak hw a, b⟩
theorem go_weakL {c : Code} {st1 : St} (hw : Weaker st st1) (h : GoL C Pr Ow f nt c st1 Q) : GoL C Pr Ow f nt c st Q :=
  let ⟨_, st2, a, b⟩ := h; ⟨_, st2, .weakLoop hw a, b⟩
theorem go_weakS {c rest : Code} {st1 : St} (hw : Weaker st st1) (h : GoS C Pr Ow f nt c rest st1 Q) : GoS C Pr Ow f nt c rest st Q :=
  let ⟨_, st2, a, b⟩ := h; ⟨_, st2, .weakScope hw a, b⟩
theorem go_weakEnd {c : Code} (h : GoX C Pr Ow f nt c st fun e st' => ∃ st2, Weaker st' st2 ∧ Q e st2) : GoX C Pr Ow f nt c st Q :=
  let ⟨_, _, a, _, hw, hq⟩ := h; ⟨_, _, .weakEnd a hw, hq⟩
theorem go_weakEndL {c : Code} (h : GoL C Pr Ow f nt c st fun e st' => ∃ st2, Weaker st' st2 ∧ Q e st2) : GoL C Pr Ow f nt c st Q :=
  let ⟨_, _, a, _, hw, hq⟩ := h; ⟨_, _, .weakEndL a hw, hq⟩
/-- In a scope: a jump goes on at its label. -/
def Ex.scopedX (c : Code) (Q : Ex → St → Prop) (J : Code → St → Prop) : Ex → St → Prop
  | .goto l, st => match findLabel c l with
    | some rest => J rest st
    | none => Q (.goto l) st
  | e, st => Q e st
theorem go_scope {c : Code} (h : GoX C Pr Ow f nt c st (Ex.scopedX c Q fun rest st1 => GoS C Pr Ow f nt c rest st1 Q)) : GoX C Pr Ow f nt (.scope c) st Q := by
  obtain ⟨e, st1, a, b⟩ := h
  cases e with
  | normal => exact ⟨_, _, .scope a rfl, b⟩
  | exit id => exact ⟨_, _, .scope a rfl, b⟩
  | ret => exact ⟨_, _, .scope a rfl, b⟩
  | goto l =>
    unfold Ex.scopedX at b
    split at b
    · rename_i l' heq; cases heq
      split at b
      · rename_i rest hf
        obtain ⟨e2, st2, a2, b2⟩ := b
        exact ⟨e2, st2, .scopeJump a hf a2, b2⟩
      · rename_i hf
        exact ⟨_, _, .scope a (by simp [Ex.jumps, hf]), b⟩
    · rename_i hne; exact absurd rfl (hne l)
theorem go_scopeAt {c rest : Code} (h : GoX C Pr Ow f nt rest st (Ex.scopedX c Q fun rest st1 => GoS C Pr Ow f nt c rest st1 Q)) : GoS C Pr Ow f nt c rest st Q := by
  obtain ⟨e, st1, a, b⟩ := h
  cases e with
  | normal => exact ⟨_, _, .scopeEnd a rfl, b⟩
  | exit id => exact ⟨_, _, .scopeEnd a rfl, b⟩
  | ret => exact ⟨_, _, .scopeEnd a rfl, b⟩
  | goto l =>
    unfold Ex.scopedX at b
    split at b
    · rename_i l' heq; cases heq
      split at b
      · rename_i rest hf
        obtain ⟨e2, st2, a2, b2⟩ := b
        exact ⟨e2, st2, .scopeOn a hf a2, b2⟩
      · rename_i hf
        exact ⟨_, _, .scopeEnd a (by simp [Ex.jumps, hf]), b⟩
    · rename_i hne; exact absurd rfl (hne l)

theorem go_region {id : Nat} {ops : Array Oper} (h : GoO C Pr Ow f nt ops.toList ops.toList st fun _ st' => Q .normal st') : GoX C Pr Ow f nt (.region id ops false) st Q :=
  let ⟨_, _, a, b⟩ := h; ⟨_, _, .region a, b⟩
theorem go_draw {id : Nat} {ops : Array Oper} (h : GoO C Pr Ow f nt ops.toList ops.toList st fun outs st' => drawOK ops.toList st outs = true ∧ Q .normal st') : GoX C Pr Ow f nt (.region id ops true) st Q :=
  let ⟨_, _, a, b⟩ := h; ⟨_, _, .draw a b.1, b.2⟩
variable {os l : List Oper} {o : Oper} {K : List Out → St → Prop}
theorem go_nil (h : K [] st) : GoO C Pr Ow f nt os [] st K := ⟨_, _, .nil, h⟩
theorem go_act {out : Out} {st1 : St} (hw : wants os st.t o = some true) (ha : Det.act C f st.t st.h o.dst o.op = some out) (hφ : phiOK nt out = true) (hs : apply st o.dst out = st1)
    (h : GoO C Pr Ow f nt os l st1 fun outs st' => K (out :: outs) st') : GoO C Pr Ow f nt os (o :: l) st K := by
  subst hs
  obtain ⟨_, _, a, b⟩ := h
  exact ⟨_, _, .act hw ha hφ a, b⟩
theorem go_pass {st1 : St} (hw : wants os st.t o = some false) (hs : apply st o.dst { v := .tup [] } = st1) (h : GoO C Pr Ow f nt os l st1 fun outs st' => K ({ v := .tup [] } :: outs) st') : GoO C Pr Ow f nt os (o :: l) st K := by
  subst hs
  obtain ⟨_, _, a, b⟩ := h
  exact ⟨_, _, .pass hw a, b⟩
theorem go_call {x : Operand} {as1 : Array Operand} {ts : Array TypeId} {g : Nat} {first cap xs xs' : List DV} {ex : List Blk} {Φ : DV → List Blk → Prop} (hw : wants os st.t o = some true) (ho : o.op = .call ⟨.value x, as1, ts⟩)
    (hx : calleeOf (opnd st.t x) = some (g, first, cap)) (hxs : first ++ as1.toList.map (opnd st.t) ++ cap = xs) (e1 : callIn C st.h g xs = some (xs', ex)) (hown : C.own g = false)
    (hc : GoC C Pr Ow g xs' ex Φ) (h : ∀ r ex', Φ r ex' → ∃ out, callOut C st.h o.dst g xs r ex' = some out ∧ phiOK nt out = true ∧ GoO C Pr Ow f nt os l (apply st o.dst out) fun outs st' => K (out :: outs) st') : GoO C Pr Ow f nt os (o :: l) st K := by
  subst hxs
  obtain ⟨r, ex', a, b⟩ := hc
  obtain ⟨out, h1, h2, _, _, h3, h4⟩ := h r ex' b
  exact ⟨_, _, .callF hw ho hx e1 hown a h1 h2 h3, h4⟩
/-- A call whose answer is known. -/
theorem go_callE {x : Operand} {as1 : Array Operand} {ts : Array TypeId} {g : Nat} {first cap xs xs' : List DV} {ex ex' : List Blk} {r : DV} {out : Out} {st1 : St} (hw : wants os st.t o = some true) (ho : o.op = .call ⟨.value x, as1, ts⟩)
    (hx : calleeOf (opnd st.t x) = some (g, first, cap)) (hxs : first ++ as1.toList.map (opnd st.t) ++ cap = xs) (e1 : callIn C st.h g xs = some (xs', ex)) (hown : C.own g = false)
    (hc : Run C Pr Ow (.call g xs' ex r ex')) (h1 : callOut C st.h o.dst g xs r ex' = some out) (h2 : phiOK nt out = true) (hs : apply st o.dst out = st1)
    (h : GoO C Pr Ow f nt os l st1 fun outs st' => K (out :: outs) st') : GoO C Pr Ow f nt os (o :: l) st K := by
  subst hxs hs
  obtain ⟨_, _, h3, h4⟩ := h
  exact ⟨_, _, .callF hw ho hx e1 hown hc h1 h2 h3, h4⟩
theorem go_callOwn {x : Operand} {as1 : Array Operand} {ts : Array TypeId} {g : Nat} {first cap xs xs' : List DV} {ex : List Blk} {r : DV} {out : Out} {st1 : St} (hw : wants os st.t o = some true) (ho : o.op = .call ⟨.value x, as1, ts⟩)
    (hx : calleeOf (opnd st.t x) = some (g, first, cap)) (hxs : first ++ as1.toList.map (opnd st.t) ++ cap = xs) (e1 : callIn C st.h g xs = some (xs', ex)) (hown : C.own g = true) (hsc : C.scal g = false)
    (hc : Ow g xs' r) (h1 : callOut C st.h o.dst g xs r [] = some out) (h2 : phiOK nt out = true) (hs : apply st o.dst out = st1)
    (h : GoO C Pr Ow f nt os l st1 fun outs st' => K (out :: outs) st') : GoO C Pr Ow f nt os (o :: l) st K := by
  subst hxs hs
  obtain ⟨_, _, h3, h4⟩ := h
  exact ⟨_, _, .callOwn hw ho hx e1 hown hsc hc h1 h2 h3, h4⟩

/-- Behind a function's body. -/
def Leaves (C : Cfg) (fi : Fi) (ex : List Blk) (Φ : DV → List Blk → Prop) (e : Ex) (st : St) : Prop :=
  e.ends = true ∧ ∃ vs vs' ex', resL C st fi.res = some vs ∧ sealL st.h vs = some vs' ∧ sealBs st.h (st.h.drop fi.nt) = some ex' ∧ ex'.length = ex.length ∧ ex'.all Blk.isBox = true ∧ Φ (one vs') ex'
theorem go_body {g : Nat} {fi : Fi} {xs : List DV} {ex : List Blk} {Φ : DV → List Blk → Prop} (hf : C.F g = some fi) (h : GoX C Pr Ow g fi.nt fi.code (enterD fi xs ex) (Leaves C fi ex Φ)) : GoC C Pr Ow g xs ex Φ := by
  obtain ⟨e, st, a, h1, vs, vs', ex', h2, h3, h4, h5, h6, h7⟩ := h
  exact ⟨_, _, .body hf a h1 h2 h3 h4 h5 h6, h7⟩
theorem go_wk {g : Nat} {xs xs' : List DV} {ex : List Blk} {Φ : DV → List Blk → Prop} (hx : WkL xs' xs) (h : GoC C Pr Ow g xs ex fun r ex' => ∃ r', (r = r' ∨ WkV r r') ∧ Φ r' ex') : GoC C Pr Ow g xs' ex Φ :=
  let ⟨_, _, a, _, hr, hq⟩ := h; ⟨_, _, .callWk hx hr a, hq⟩
theorem go_prim {g : Nat} {xs : List DV} {r : DV} {Φ : DV → List Blk → Prop} (h : Pr g xs r) (hq : Φ r []) : GoC C Pr Ow g xs [] Φ := ⟨_, _, .prim h, hq⟩
theorem GoC.run {g : Nat} {xs : List DV} {ex ex' : List Blk} {r : DV} (h : GoC C Pr Ow g xs ex fun r0 ex0 => r0 = r ∧ ex0 = ex') : Run C Pr Ow (.call g xs ex r ex') := by
  obtain ⟨_, _, a, rfl, rfl⟩ := h; exact a
end
end Go.Det
end

section
set_option linter.unusedVariables false
set_option linter.unusedSimpArgs false
namespace Go.Det

/-! Many steps at once. -/
def runA (C : Cfg) (f nt : Nat) (os : List Oper) : List Oper → St → Option (List Out × St)
  | [], st => some ([], st)
  | o :: l, st =>
    match wants os st.t o with
    | some true => match act C f st.t st.h o.dst o.op with
      | some out => if phiOK nt out then (match runA C f nt os l (apply st o.dst out) with
        | some (outs, st') => some (out :: outs, st')
        | none => none) else none
      | none => none
    | some false => (match runA C f nt os l (apply st o.dst { v := .tup [] }) with
        | some (outs, st') => some ({ v := .tup [] } :: outs, st')
        | none => none)
    | none => none

def keepT (ks bs : List Nat) (nt : Nat) (st : St) : St := { t := tidyT ks 0 st.t, h := tidyH bs nt 0 st.h }

theorem tidyT_len (ks : List Nat) : ∀ (l : List DV) (i : Nat), (tidyT ks i l).length = l.length
  | [], _ => rfl
  | x :: l, i => by simp [tidyT, tidyT_len ks l]
theorem tidyT_get (ks : List Nat) : ∀ (l : List DV) (i j : Nat) (x : DV), (tidyT ks i l)[j]? = some x → x = .unk ∨ l[j]? = some x
  | [], _, _, _, h => by simp [tidyT] at h
  | y :: l, i, 0, x, h => by
    simp only [tidyT, List.getElem?_cons_zero, Option.some.injEq] at h
    split at h
    · exact .inr (by simp [h])
    · exact .inl h.symm
  | y :: l, i, j + 1, x, h => by
    simp only [tidyT, List.getElem?_cons_succ] at h ⊢
    exact tidyT_get ks l (i + 1) j x h
theorem tidyH_get (bs : List Nat) (nt : Nat) : ∀ (l : Heap) (i j : Nat) (x : Blk), hget (tidyH bs nt i l) j = some x → hget l j = some x
  | [], _, _, _, h => by simp [tidyH, hget] at h
  | y :: l, i, 0, x, h => by
    unfold hget at h ⊢
    simp only [tidyH, List.getElem?_cons_zero, Option.getD_some] at h ⊢
    split at h
    · exact h
    · simp at h
  | y :: l, i, j + 1, x, h => by
    unfold hget at h ⊢
    simp only [tidyH, List.getElem?_cons_succ] at h ⊢
    exact tidyH_get bs nt l (i + 1) j x h
theorem keepT_weaker (ks bs : List Nat) (nt : Nat) (st : St) : Weaker st (keepT ks bs nt st) :=
  ⟨tidyT_len ks st.t 0, fun i x h => (tidyT_get ks st.t 0 i x h).imp id fun h => ⟨_, h, .inl rfl⟩, fun b x h => tidyH_get bs nt st.h 0 b x h⟩

/-- A state, told by its live parts. -/
def setL : List DV → List (Nat × DV) → List DV
  | t, [] => t
  | t, (i, v) :: l => setL (t.set i v) l
def mkS (nt : Nat) (l : List (Nat × DV)) (h : List (Nat × Blk)) (ex : List Blk) : St :=
  { t := setL (List.replicate nt .unk) l, h := setAll (List.replicate nt none ++ ex.map some) (h.map fun x => (x.1, some x.2)) }

section
variable {C : Cfg} {Pr Ow : Nat → List DV → DV → Prop} {f nt : Nat} {st st1 : St} {Q : Ex → St → Prop} {os l : List Oper} {K : List Out → St → Prop}

theorem runA_run : ∀ {K : List Out → St → Prop} {l1 : List Oper} {st : St} {outs : List Out} {st1 : St} {l2 : List Oper}, runA C f nt os l1 st = some (outs, st1) → GoO C Pr Ow f nt os l2 st1 (fun outs' st' => K (outs ++ outs') st') → GoO C Pr Ow f nt os (l1 ++ l2) st K
  | K, [], st, outs, st1, l2, h, g => by
    simp only [runA, Option.some.injEq, Prod.mk.injEq] at h
    obtain ⟨rfl, rfl⟩ := h
    exact g
  | K, o :: l1, st, outs, st1, l2, h, g => by
    simp only [runA] at h
    split at h
    · rename_i hw
      split at h
      · rename_i out ha
        split at h
        · rename_i hφ
          split at h
          · rename_i outs' st' hr
            simp only [Option.some.injEq, Prod.mk.injEq] at h
            obtain ⟨rfl, rfl⟩ := h
            exact go_act hw ha hφ rfl (runA_run (K := fun outs st' => K (out :: outs) st') hr g)
          · simp at h
        · simp at h
      · simp at h
    · rename_i hw
      split at h
      · rename_i outs' st' hr
        simp only [Option.some.injEq, Prod.mk.injEq] at h
        obtain ⟨rfl, rfl⟩ := h
        exact go_pass hw rfl (runA_run (K := fun outs st' => K ({ v := .tup [] } :: outs) st') hr g)
      · simp at h
    · simp at h

/-- The whole region at once, its order left open or not. -/
def regionD (C : Cfg) (f nt : Nat) (ops : Array Oper) (draw : Bool) (ks bs : List Nat) (st : St) : Option St :=
  match runA C f nt ops.toList ops.toList st with
  | some (outs, st') => if draw && !drawOK ops.toList st outs then none else some (keepT ks bs nt st')
  | none => none
theorem go_regionD {id : Nat} {ops : Array Oper} {draw : Bool} {ks bs : List Nat} (h : regionD C f nt ops draw ks bs st = some st1) (g : ∀ st2, Weaker st2 st1 → Q .normal st2) : GoX C Pr Ow f nt (.region id ops draw) st Q := by
  unfold regionD at h
  split at h
  · rename_i outs st' hr
    split at h
    · simp at h
    · rename_i hd
      simp only [Option.some.injEq] at h
      have hq := g st' (h ▸ keepT_weaker ks bs nt st')
      have hr' : GoO C Pr Ow f nt ops.toList ops.toList st fun outs' st2 => outs' = outs ∧ st2 = st' := by
        have := runA_run (C := C) (Pr := Pr) (Ow := Ow) (f := f) (nt := nt) (os := ops.toList) (K := fun outs' st2 => outs' = outs ∧ st2 = st') (l2 := []) hr (go_nil (by simp))
        simpa using this
      obtain ⟨_, _, a, rfl, rfl⟩ := hr'
      cases draw with
      | false => exact ⟨_, _, .region a, hq⟩
      | true => exact ⟨_, _, .draw a (by simpa using hd), hq⟩
  · simp at h

/-- A region and what comes behind it. -/
theorem go_seg {id : Nat} {ops : Array Oper} {draw : Bool} {ks bs : List Nat} {rest : Code} (h : regionD C f nt ops draw ks bs st = some st1) (g : GoX C Pr Ow f nt rest st1 Q) : GoX C Pr Ow f nt (.seq (.region id ops draw) rest) st Q :=
  go_seq (go_regionD h fun st2 hw => go_weak hw g)
end
end Go.Det
end

section
set_option linter.unusedVariables false
set_option linter.unusedSimpArgs false
namespace Go.Det

/-! What is owed. -/
def obB (b : Bool) (k : Prop) : Prop := match b with
  | true => k
  | false => False
theorem obB_ok {b : Bool} {k : Prop} (h : obB b k) : b = true ∧ k := by
  cases b with
  | true => exact ⟨rfl, h⟩
  | false => exact h.elim
theorem obB_of {b : Bool} {k : Prop} (h : b = true) (hk : k) : obB b k := by subst h; exact hk
def brB (b : Bool) (kt kf : Prop) : Prop := match b with
  | true => kt
  | false => kf
theorem brB_ok {b : Bool} {kt kf : Prop} (h : brB b kt kf) : (b = true ∧ kt) ∨ (b = false ∧ kf) := by
  cases b with
  | true => exact .inl ⟨rfl, h⟩
  | false => exact .inr ⟨rfl, h⟩
theorem brB_of {b : Bool} {kt kf : Prop} (ht : b = true → kt) (hf : b = false → kf) : brB b kt kf := by
  cases b with
  | true => exact ht rfl
  | false => exact hf rfl

/-- On a condition; none: always. -/
def OnC : Option Bool → Prop
  | none => True
  | some c => c = true
/-- Owed on a condition. -/
def obC (c : Option Bool) (b : Bool) (k : Prop) : Prop := match c with
  | none => obB b k
  | some c => obB (b || !c) k
theorem obC_ok {c : Option Bool} {b : Bool} {k : Prop} (h : obC c b k) : (OnC c → b = true) ∧ k := by
  cases c with
  | none => exact ⟨fun _ => (obB_ok h).1, (obB_ok h).2⟩
  | some c =>
    obtain ⟨h1, h2⟩ := obB_ok h
    refine ⟨fun hc => ?_, h2⟩
    simp only [OnC] at hc
    subst hc; simpa using h1
def impC (c : Option Bool) (p : Prop) : Prop := match c with
  | none => p
  | some c => brB c p True
theorem impC_ok {c : Option Bool} {p : Prop} (h : impC c p) : OnC c → p := by
  intro hc
  cases c with
  | none => exact h
  | some c => simp only [OnC] at hc; subst hc; exact h
def onS {α : Type} (x : Option α) (k : α → Prop) : Prop := match x with
  | some v => k v
  | none => False
theorem onS_ok {α : Type} {x : Option α} {k : α → Prop} (h : onS x k) : ∃ v, x = some v ∧ k v := by
  cases x with
  | none => exact h.elim
  | some v => exact ⟨v, rfl, h⟩

def asNatP (c : Option Bool) (x : DV) (k : Nat → Prop) : Prop := match x with
  | .int _ n => obC c (decide (0 ≤ n)) (k n.toNat)
  | _ => False
theorem asNatP_ok {c : Option Bool} {x : DV} {k : Nat → Prop} (h : asNatP c x k) : ∃ n, (OnC c → asNat x = some n) ∧ k n := by
  unfold asNatP at h
  split at h
  · obtain ⟨h1, h2⟩ := obC_ok h
    exact ⟨_, fun hc => by simp only [asNat]; rw [if_pos (by simpa using h1 hc)], h2⟩
  · exact h.elim
def boundP (c : Option Bool) (x : Option DV) (d y : Nat) (k : Nat → Prop) : Prop := match x with
  | none => k d
  | some v => asNatP c v fun n => obC c (decide (n ≤ y)) (k n)
theorem boundP_ok {c : Option Bool} {x : Option DV} {d y : Nat} {k : Nat → Prop} (h : boundP c x d y k) : ∃ n, (OnC c → bound x d y = some n) ∧ k n := by
  unfold boundP at h
  split at h
  · exact ⟨d, fun _ => rfl, h⟩
  · obtain ⟨n, h1, h2⟩ := asNatP_ok h
    obtain ⟨h3, h4⟩ := obC_ok h2
    exact ⟨n, fun hc => by simp only [bound, h1 hc]; rw [if_pos (by simpa using h3 hc)], h4⟩

def strP (c : Option Bool) (op : BinOp) (x y : List UInt8) (k : DV → Prop) : Prop := match op with
  | .add => obC c (decide (x.length + y.length ≤ 2 ^ 32)) (k (.str (x ++ y)))
  | op => onS (strOp op x y) k
theorem strP_ok {c : Option Bool} {op : BinOp} {x y : List UInt8} {k : DV → Prop} (h : strP c op x y k) : ∃ v, (OnC c → strOp op x y = some v) ∧ k v := by
  unfold strP at h
  split at h
  · obtain ⟨h1, h2⟩ := obC_ok h
    exact ⟨_, fun hc => by simp only [strOp]; rw [if_pos (by simpa using h1 hc)], h2⟩
  · obtain ⟨v, h1, h2⟩ := onS_ok h
    exact ⟨v, fun _ => h1, h2⟩

/-- Structs, compared to the end. -/
def eqF' (T : Nat → Option Ti) (f : Nat → DV → DV → Option Bool) : List (Nat × Nat) → List DV → List DV → Option Bool
  | [], _, _ => some true
  | (off, ft) :: fs, xs, ys =>
    match partT T ft xs off, partT T ft ys off with
    | some a, some b => match f ft a b, eqF' T f fs xs ys with
      | some p, some q => some (p && q)
      | _, _ => none
    | _, _ => none
def eqT' (T : Nat → Option Ti) : Nat → Nat → DV → DV → Option Bool
  | 0, _, _, _ => none
  | d + 1, t, x, y =>
    match T t with
    | none => none
    | some ti =>
      match ti.d with
      | .st fs => match x, y with
        | .agg xs, .agg ys => eqF' T (eqT' T d) fs xs ys
        | _, _ => none
      | _ => eqT T (d + 1) t x y
theorem eqF'_ok {T : Nat → Option Ti} {f g : Nat → DV → DV → Option Bool} (hfg : ∀ t x y b, f t x y = some b → g t x y = some b) : ∀ {fs : List (Nat × Nat)} {xs ys : List DV} {b : Bool}, eqF' T f fs xs ys = some b → eqF T g fs xs ys = some b
  | [], _, _, _, h => h
  | (off, ft) :: fs, xs, ys, b, h => by
    simp only [eqF'] at h
    simp only [eqF]
    split at h
    · rename_i u v hu hv
      split at h
      · rename_i p q hp hq
        simp only [Option.some.injEq] at h; subst h
        rw [hu, hv]
        simp only [hfg _ _ _ _ hp]
        cases p with
        | true => simpa using eqF'_ok hfg hq
        | false => simp
      · simp at h
    · simp at h
theorem eqT'_ok {T : Nat → Option Ti} : ∀ {d t : Nat} {x y : DV} {b : Bool}, eqT' T d t x y = some b → eqT T d t x y = some b
  | 0, _, _, _, _, h => by simp [eqT'] at h
  | d + 1, t, x, y, b, h => by
    simp only [eqT'] at h
    split at h
    · simp at h
    · rename_i ti hti
      split at h
      · rename_i fs hfs
        split at h
        · simp only [eqT, hti, hfs]
          exact eqF'_ok (fun t x y b h => eqT'_ok h) h
        · simp at h
      · exact h

/-- In the kind's range. -/
def inR (q : IntKind) (n : Int) : Bool := q.wrap n == n
def exactI : BinOp → Int → Int → Option Int
  | .add, a, b => some (a + b)
  | .sub, a, b => some (a - b)
  | .mul, a, b => some (a * b)
  | _, _, _ => none
/-- ex: sums and products are to stay in range. -/
def binP (c : Option Bool) (ex : Bool) (T : Nat → Option Ti) (op : BinOp) (t : Nat) (x y : DV) (k : DV → Prop) : Prop :=
  match x, y with
  | .int q a, .int q' b =>
    match op with
    | .quo => onS (if q = q' then some () else none) fun _ => obC c (decide (b ≠ 0)) (k (.int q (q.wrap (a.tdiv b))))
    | .rem => onS (if q = q' then some () else none) fun _ => obC c (decide (b ≠ 0)) (k (.int q (a.tmod b)))
    | .shl => obC c (decide (0 ≤ b)) (k (.int q (q.wrap (a * 2 ^ (min b.toNat q.bits)))))
    | .shr => obC c (decide (0 ≤ b)) (k (.int q (a.fdiv (2 ^ (min b.toNat q.bits)))))
    | op => match ex, exactI op a b with
      | true, some n => onS (if q = q' then some () else none) fun _ => obC c (inR q n) (k (.int q n))
      | _, _ => onS (binOp T op t (.int q a) (.int q' b)) k
  | .str a, .str b => strP c op a b k
  | .agg a, .agg b => match op with
    | .eql => onS (eqT' T 20 t (.agg a) (.agg b)) fun r => k (.bool r)
    | .neq => onS (eqT' T 20 t (.agg a) (.agg b)) fun r => k (.bool (!r))
    | _ => False
  | x, y => onS (binOp T op t x y) k
theorem binP_ok {c : Option Bool} {ex : Bool} {T : Nat → Option Ti} {op : BinOp} {t : Nat} {x y : DV} {k : DV → Prop} (h : binP c ex T op t x y k) : ∃ v, (OnC c → binOp T op t x y = some v) ∧ k v := by
  have hqq : ∀ {q q' : IntKind} {u : Unit}, (if q = q' then some () else none) = some u → q = q' := by
    intro q q' u h
    by_cases hq : q = q'
    · exact hq
    · rw [if_neg hq] at h; simp at h
  unfold binP at h
  split at h
  · rename_i q a q' b
    split at h
    · obtain ⟨u, h1, h2⟩ := onS_ok h
      obtain ⟨h3, h4⟩ := obC_ok h2
      refine ⟨_, fun hc => ?_, h4⟩
      simp only [binOp, if_pos (hqq h1), intOp]
      rw [if_neg (by simpa using h3 hc)]
    · obtain ⟨u, h1, h2⟩ := onS_ok h
      obtain ⟨h3, h4⟩ := obC_ok h2
      refine ⟨_, fun hc => ?_, h4⟩
      simp only [binOp, if_pos (hqq h1), intOp]
      rw [if_neg (by simpa using h3 hc)]
    · obtain ⟨h3, h4⟩ := obC_ok h
      refine ⟨_, fun hc => ?_, h4⟩
      simp only [binOp, shiftOp]
      rw [if_neg (by simpa using h3 hc)]
    · obtain ⟨h3, h4⟩ := obC_ok h
      refine ⟨_, fun hc => ?_, h4⟩
      simp only [binOp, shiftOp]
      rw [if_neg (by simpa using h3 hc)]
    · split at h
      · rename_i n hn
        obtain ⟨u, h1, h2⟩ := onS_ok h
        obtain ⟨h3, h4⟩ := obC_ok h2
        refine ⟨_, fun hc => ?_, h4⟩
        have hq := hqq h1
        subst hq
        have h5 : q.wrap n = n := by simpa [inR] using h3 hc
        cases op <;> simp only [exactI, Option.some.injEq, reduceCtorEq] at hn <;> subst hn <;> simp [binOp, intOp, h5]
      · obtain ⟨v, h1, h2⟩ := onS_ok h
        exact ⟨v, fun _ => h1, h2⟩
  · simpa [binOp] using strP_ok h
  · split at h
    · obtain ⟨r, h1, h2⟩ := onS_ok h
      exact ⟨_, fun _ => by simp only [binOp, eqT'_ok h1, Option.map_some], h2⟩
    · obtain ⟨r, h1, h2⟩ := onS_ok h
      exact ⟨_, fun _ => by simp only [binOp, eqT'_ok h1, Option.map_some], h2⟩
    · exact h.elim
  · obtain ⟨v, h1, h2⟩ := onS_ok h
    exact ⟨v, fun _ => h1, h2⟩

end Go.Det
end

section
set_option linter.unusedVariables false
set_option linter.unusedSimpArgs false
namespace Go.Det

def sliceP (c : Option Bool) (T : Nat → Option Ti) (t : Nat) (x : DV) (lo hi : Option DV) (k : DV → Prop) : Prop :=
  match x with
  | .str s => onS (match T t with | some ti => (match ti.d with | .str => some () | _ => none) | none => none) fun _ =>
      boundP c hi s.length s.length fun h => boundP c lo 0 h fun l => k (.str ((s.take h).drop l))
  | .psl n es => onS (match T t with | some ti => (match ti.d with | .sl e => (match T e with | some te => if te.size = n then some () else none | none => none) | _ => none) | none => none) fun _ =>
      boundP c hi es.length es.length fun h => boundP c lo 0 h fun l => k (.psl n ((es.take h).drop l))
  | .rsl b n off len => onS (match T t with | some ti => (match ti.d with | .sl e => (match T e with | some te => if te.size = n then some () else none | none => none) | _ => none) | none => none) fun _ =>
      boundP c hi len len fun h => boundP c lo 0 h fun l => obC c (decide (l = 0 ∨ l < h)) (k (.rsl b n (off + l) (h - l)))
  | x => onS (sliceOp T t x lo hi) k
theorem sliceP_ok {c : Option Bool} {T : Nat → Option Ti} {t : Nat} {x : DV} {lo hi : Option DV} {k : DV → Prop} (h : sliceP c T t x lo hi k) : ∃ v, (OnC c → sliceOp T t x lo hi = some v) ∧ k v := by
  unfold sliceP at h
  split at h
  · obtain ⟨u, h1, h2⟩ := onS_ok h
    obtain ⟨hh, h3, h4⟩ := boundP_ok h2
    obtain ⟨ll, h5, h6⟩ := boundP_ok h4
    refine ⟨_, fun hc => ?_, h6⟩
    have h3 := h3 hc
    have h5 := h5 hc
    unfold sliceOp
    split at h1
    · rename_i ti hti
      rw [hti]
      split at h1
      · rename_i hd
        simp only [hd, h3, h5]
      · simp at h1
    · simp at h1
  · obtain ⟨u, h1, h2⟩ := onS_ok h
    obtain ⟨hh, h3, h4⟩ := boundP_ok h2
    obtain ⟨ll, h5, h6⟩ := boundP_ok h4
    refine ⟨_, fun hc => ?_, h6⟩
    have h3 := h3 hc
    have h5 := h5 hc
    unfold sliceOp
    split at h1
    · rename_i ti hti
      rw [hti]
      split at h1
      · rename_i e hd
        split at h1
        · rename_i te hte
          split at h1
          · rename_i hs
            simp only [hd, hte, h3, h5, hs, ne_eq, not_true_eq_false, if_false]
          · simp at h1
        · simp at h1
      · simp at h1
    · simp at h1
  · obtain ⟨u, h1, h2⟩ := onS_ok h
    obtain ⟨hh, h3, h4⟩ := boundP_ok h2
    obtain ⟨ll, h5, h6⟩ := boundP_ok h4
    obtain ⟨h7, h8⟩ := obC_ok h6
    refine ⟨_, fun hc => ?_, h8⟩
    have h7 := of_decide_eq_true (h7 hc)
    have h3 := h3 hc
    have h5 := h5 hc
    unfold sliceOp
    split at h1
    · rename_i ti hti
      rw [hti]
      split at h1
      · rename_i e hd
        split at h1
        · rename_i te hte
          split at h1
          · rename_i hs
            simp only [hd, hte, h3, h5, hs, ne_eq, not_true_eq_false, if_false, h7, if_true]
          · simp at h1
        · simp at h1
      · simp at h1
    · simp at h1
  · obtain ⟨v, h1, h2⟩ := onS_ok h
    exact ⟨v, fun _ => h1, h2⟩

def indexP (c : Option Bool) (T : Nat → Option Ti) (t : Nat) (x i : DV) (k : DV → Prop) : Prop :=
  match x with
  | .str s => onS (match T t with | some ti => (match ti.d with | .str => some () | _ => none) | none => none) fun _ =>
      asNatP c i fun i => obC c (decide (i < s.length)) (k (.int .u8 ((s.getD i 0).toNat : Int)))
  | x => onS (indexOp T t x i) k
theorem indexP_ok {c : Option Bool} {T : Nat → Option Ti} {t : Nat} {x i : DV} {k : DV → Prop} (h : indexP c T t x i k) : ∃ v, (OnC c → indexOp T t x i = some v) ∧ k v := by
  unfold indexP at h
  split at h
  · rename_i s
    obtain ⟨u, h1, h2⟩ := onS_ok h
    obtain ⟨n, h3, h4⟩ := asNatP_ok h2
    obtain ⟨h5, h6⟩ := obC_ok h4
    refine ⟨_, fun hc => ?_, h6⟩
    have h5 := of_decide_eq_true (h5 hc)
    have h3 := h3 hc
    unfold indexOp
    rw [h3]
    split at h1
    · rename_i ti hti
      rw [hti]
      split at h1
      · rename_i hd
        simp only [hd]
        rw [List.getElem?_eq_getElem h5, List.getD_eq_getElem?_getD, List.getElem?_eq_getElem h5]
        rfl
      · simp at h1
    · simp at h1
  · obtain ⟨v, h1, h2⟩ := onS_ok h
    exact ⟨v, fun _ => h1, h2⟩

def indexAddrP (c : Option Bool) (T : Nat → Option Ti) (t : Nat) (x i : DV) (k : DV → Prop) : Prop :=
  match x with
  | .psl n es => onS (match T t with | some ti => (match ti.d with | .sl e => (match T e with | some te => if te.size = n then some () else none | none => none) | _ => none) | none => none) fun _ =>
      asNatP c i fun i => obC c (decide (i < es.length)) (k (.eptr n es i 0))
  | .rsl b n off len => onS (match T t with | some ti => (match ti.d with | .sl e => (match T e with | some te => if te.size = n then some () else none | none => none) | _ => none) | none => none) fun _ =>
      asNatP c i fun i => obC c (decide (i < len)) (k (.ptr b n (off + i) 0))
  | x => onS (indexAddrOp T t x i) k
theorem indexAddrP_ok {c : Option Bool} {T : Nat → Option Ti} {t : Nat} {x i : DV} {k : DV → Prop} (h : indexAddrP c T t x i k) : ∃ v, (OnC c → indexAddrOp T t x i = some v) ∧ k v := by
  unfold indexAddrP at h
  split at h
  · obtain ⟨u, h1, h2⟩ := onS_ok h
    obtain ⟨n, h3, h4⟩ := asNatP_ok h2
    obtain ⟨h5, h6⟩ := obC_ok h4
    refine ⟨_, fun hc => ?_, h6⟩
    have h5 := of_decide_eq_true (h5 hc)
    have h3 := h3 hc
    unfold indexAddrOp
    rw [h3]
    split at h1
    · rename_i ti hti
      split at h1
      · rename_i e hd
        split at h1
        · rename_i te hte
          split at h1
          · rename_i hs
            simp only [hti, hd, hte, hs, h5, and_self, if_true]
          · simp at h1
        · simp at h1
      · simp at h1
    · simp at h1
  · obtain ⟨u, h1, h2⟩ := onS_ok h
    obtain ⟨n, h3, h4⟩ := asNatP_ok h2
    obtain ⟨h5, h6⟩ := obC_ok h4
    refine ⟨_, fun hc => ?_, h6⟩
    have h5 := of_decide_eq_true (h5 hc)
    have h3 := h3 hc
    unfold indexAddrOp
    rw [h3]
    split at h1
    · rename_i ti hti
      split at h1
      · rename_i e hd
        split at h1
        · rename_i te hte
          split at h1
          · rename_i hs
            simp only [hti, hd, hte, hs, h5, and_self, if_true]
          · simp at h1
        · simp at h1
      · simp at h1
    · simp at h1
  · obtain ⟨v, h1, h2⟩ := onS_ok h
    exact ⟨v, fun _ => h1, h2⟩

/-- A load; the element that is met is told, where it can't be seen. -/
def loadP (c : Option Bool) (C : Cfg) (h : Heap) (an : Option DV) (t : Nat) (a : DV) (k : DV → Prop) : Prop :=
  match an, a with
  | some e, .eptr n es i off => impC c (es[i]? = some e) ∧ onS ((C.T t).bind fun ti => loadIn ti n e off) k
  | some e, .ptr b n i off => match hget h b with
    | some (.row m es) => impC c (es[i]? = some e) ∧ onS (if n = m then (C.T t).bind fun ti => loadIn ti n e off else none) k
    | _ => False
  | _, a => onS (loadOp C h t a) k
theorem loadP_ok {c : Option Bool} {C : Cfg} {h : Heap} {an : Option DV} {t : Nat} {a : DV} {k : DV → Prop} (hh : loadP c C h an t a k) : ∃ v, (OnC c → loadOp C h t a = some v) ∧ k v := by
  unfold loadP at hh
  split at hh
  · obtain ⟨h1, h2⟩ := hh
    obtain ⟨v, h3, h4⟩ := onS_ok h2
    refine ⟨v, fun hc => ?_, h4⟩
    have h1 := impC_ok h1 hc
    unfold loadOp
    cases hT : C.T t with
    | none => rw [hT] at h3; simp at h3
    | some ti => rw [hT] at h3; simp only [h1]; simpa using h3
  · split at hh
    · rename_i m es hb
      obtain ⟨h1, h2⟩ := hh
      obtain ⟨v, h3, h4⟩ := onS_ok h2
      refine ⟨v, fun hc => ?_, h4⟩
      have h1 := impC_ok h1 hc
      unfold loadOp
      split at h3
      · rename_i hnm
        cases hT : C.T t with
        | none => rw [hT] at h3; simp at h3
        | some ti => rw [hT] at h3; simp only [hb, h1, if_pos hnm]; simpa using h3
      · simp at h3
    · exact hh.elim
  · obtain ⟨v, h1, h2⟩ := onS_ok hh
    exact ⟨v, fun _ => h1, h2⟩

end Go.Det
end

section
set_option linter.unusedVariables false
set_option linter.unusedSimpArgs false
namespace Go.Det

def pickP (c a b : DV) (k : DV → Prop) : Prop :=
  match c with
  | .bool c => brB c (k a) (k b)
  | _ => False

def appendP (C : Cfg) (h : Heap) (dst t : Nat) (s x : DV) (k : Out → Prop) : Prop :=
  match s with
  | .rsl b n off len =>
    match C.T t with
    | some ti => match ti.d with
      | .sl e => match C.T e with
        | some te =>
          if te.size = 0 ∨ te.zero.length ≠ te.size then False else
          match elems h te.size x, hget h b with
          | some xs, some (.row m es) =>
            if n = te.size ∧ m = n then
              obB (decide (off + len ≤ es.length)) (obB (roomy te.bytes (len + xs.length))
                (k { v := .rsl dst n 0 (len + xs.length), δ := [(b, none), (dst, some (.row n ((es.drop off).take len ++ xs)))], φ := [b, dst] }))
            else False
          | _, _ => False
        | none => False
      | _ => False
    | none => False
  | s => onS (appendOp C h dst t s x) k
theorem appendP_ok {C : Cfg} {h : Heap} {dst t : Nat} {s x : DV} {k : Out → Prop} (hh : appendP C h dst t s x k) : ∃ out, appendOp C h dst t s x = some out ∧ k out := by
  unfold appendP at hh
  split at hh
  · split at hh
    · rename_i ti hti
      split at hh
      · rename_i e hd
        split at hh
        · rename_i te hte
          split at hh
          · exact hh.elim
          · rename_i hz
            split at hh
            · rename_i xs m es hxs hrow
              split at hh
              · rename_i hn
                obtain ⟨h1, h2⟩ := obB_ok hh
                obtain ⟨h3, h4⟩ := obB_ok h2
                have h1 := of_decide_eq_true h1
                refine ⟨_, ?_, h4⟩
                unfold appendOp
                simp only [hti, hd, hte, if_neg hz, hxs, hrow]
                rw [if_pos ⟨hn.1, hn.2, h1, h3⟩]
              · exact hh.elim
            · exact hh.elim
        · exact hh.elim
      · exact hh.elim
    · exact hh.elim
  · exact onS_ok hh

def storeP (C : Cfg) (h : Heap) (t : Nat) (a v : DV) (k : Out → Prop) : Prop :=
  match a with
  | .ptr b n i off => match hget h b with
    | some (.row m es) => match C.T t with
      | some ti => if v.cells.length = ti.size ∧ ti.size ≠ 0 ∧ n = m ∧ off = 0 ∧ ti.size = n ∧ v.pure = true then
          obB (decide (i < es.length)) (k { v := .tup [], δ := [(b, some (.row m (es.set i v)))] }) else onS (storeOp C h t (.ptr b n i off) v) k
      | none => False
    | _ => onS (storeOp C h t a v) k
  | a => onS (storeOp C h t a v) k
theorem storeP_ok {C : Cfg} {h : Heap} {t : Nat} {a v : DV} {k : Out → Prop} (hh : storeP C h t a v k) : ∃ out, storeOp C h t a v = some out ∧ k out := by
  unfold storeP at hh
  split at hh
  · split at hh
    · rename_i m es hrow
      split at hh
      · rename_i ti hti
        split at hh
        · rename_i hc
          obtain ⟨c1, c2, c3, c4, c5, c6⟩ := hc
          obtain ⟨h1, h2⟩ := obB_ok hh
          have h1 := of_decide_eq_true h1
          refine ⟨_, ?_, h2⟩
          unfold storeOp
          simp only [hti, hrow]
          rw [if_neg (by simp [c1, c2]), if_pos ⟨c3, c6⟩, List.getElem?_eq_getElem h1]
          simp only
          rw [if_pos ⟨c4, c5⟩]
        · exact onS_ok hh
      · exact hh.elim
    · exact onS_ok hh
  · exact onS_ok hh

/-- An operation that leaves memory alone, and what is owed for it, on a condition. -/
def quietP (c : Option Bool) (ex : Bool) (C : Cfg) (f : Nat) (an : Nat → Option DV) (t : List DV) (h : Heap) (dst : Option Nat) (op : Op) (k : DV → Prop) : Option Prop :=
  match op with
  | .move x => some (k (opnd t x))
  | .assign x => some (k (opnd t x))
  | .load ty a => some (loadP c C h (dst.bind an) ty (opnd t a) k)
  | .binOp op ty x y _ => some (if nilPair (opnd t x) (opnd t y) && !(isC x || isC y) then False else binP c ex C.T op ty (opnd t x) (opnd t y) k)
  | .slice ty x lo hi none => some (sliceP c C.T ty (opnd t x) (lo.map (opnd t)) (hi.map (opnd t)) k)
  | .indexAddr ty x i => some (indexAddrP c C.T ty (opnd t x) (opnd t i) k)
  | .index ty x i => some (indexP c C.T ty (opnd t x) (opnd t i) k)
  | .unOp op _ x => some (onS (unOp op (opnd t x)) k)
  | .fieldAddr ty x fi => some (onS (fieldAddrOp C.T ty (opnd t x) fi) k)
  | .field ty x fi => some (onS (fieldOp C.T ty (opnd t x) fi) k)
  | .build ty ps => some (onS (buildOp C.T ty (parts t ps)) k)
  | .extract x ix => some (match opnd t x with | .tup vs => onS vs[ix]? k | _ => False)
  | .nilCheck x => some (match opnd t x with
    | .ptr b n i off => k (.ptr b n i off)
    | .eptr n es i off => k (.eptr n es i off)
    | _ => False)
  | .call { callee := .builtin .len, args := as1, argTypes := ts } => some (match as1.toList, ts.toList with
    | [x], ty :: _ => onS (lenOp C.T ty (opnd t x)) k
    | _, _ => False)
  | _ => none

theorem quietP_ok {c : Option Bool} {ex : Bool} {C : Cfg} {f : Nat} {an : Nat → Option DV} {t : List DV} {h : Heap} {dst : Option Nat} {op : Op} {k : DV → Prop} {p : Prop} (hq : quietP c ex C f an t h dst op k = some p) (hh : p) :
    ∃ v, (OnC c → act C f t h dst op = some { v := v }) ∧ k v := by
  unfold quietP at hq
  split at hq
  · simp only [Option.some.injEq] at hq; subst hq; exact ⟨_, fun _ => rfl, hh⟩
  · simp only [Option.some.injEq] at hq; subst hq; exact ⟨_, fun _ => rfl, hh⟩
  · simp only [Option.some.injEq] at hq; subst hq
    obtain ⟨v, h1, h2⟩ := loadP_ok hh
    exact ⟨v, fun hc => by simp only [act, h1 hc, pv, Option.map_some], h2⟩
  · simp only [Option.some.injEq] at hq; subst hq
    split at hh
    · exact hh.elim
    · rename_i hn
      obtain ⟨v, h1, h2⟩ := binP_ok hh
      exact ⟨_, fun hc => by simp only [act]; rw [if_neg hn, h1 hc]; rfl, h2⟩
  · simp only [Option.some.injEq] at hq; subst hq
    obtain ⟨v, h1, h2⟩ := sliceP_ok hh
    exact ⟨_, fun hc => by simp only [act, h1 hc, pv, Option.map_some], h2⟩
  · simp only [Option.some.injEq] at hq; subst hq
    obtain ⟨v, h1, h2⟩ := indexAddrP_ok hh
    exact ⟨_, fun hc => by simp only [act, h1 hc, pv, Option.map_some], h2⟩
  · simp only [Option.some.injEq] at hq; subst hq
    obtain ⟨v, h1, h2⟩ := indexP_ok hh
    exact ⟨_, fun hc => by simp only [act, h1 hc, pv, Option.map_some], h2⟩
  · simp only [Option.some.injEq] at hq; subst hq
    obtain ⟨v, h1, h2⟩ := onS_ok hh
    exact ⟨_, fun hc => by simp only [act, h1, pv, Option.map_some], h2⟩
  · simp only [Option.some.injEq] at hq; subst hq
    obtain ⟨v, h1, h2⟩ := onS_ok hh
    exact ⟨_, fun hc => by simp only [act, h1, pv, Option.map_some], h2⟩
  · simp only [Option.some.injEq] at hq; subst hq
    obtain ⟨v, h1, h2⟩ := onS_ok hh
    exact ⟨_, fun hc => by simp only [act, h1, pv, Option.map_some], h2⟩
  · simp only [Option.some.injEq] at hq; subst hq
    obtain ⟨v, h1, h2⟩ := onS_ok hh
    exact ⟨_, fun hc => by simp only [act, h1, pv, Option.map_some], h2⟩
  · simp only [Option.some.injEq] at hq; subst hq
    split at hh
    · rename_i vs hx
      obtain ⟨v, h1, h2⟩ := onS_ok hh
      exact ⟨_, fun hc => by simp only [act, hx, h1, pv, Option.map_some], h2⟩
    · exact hh.elim
  · simp only [Option.some.injEq] at hq; subst hq
    split at hh
    · rename_i hx; exact ⟨_, fun hc => by simp only [act, hx], hh⟩
    · rename_i hx; exact ⟨_, fun hc => by simp only [act, hx], hh⟩
    · exact hh.elim
  · simp only [Option.some.injEq] at hq; subst hq
    split at hh
    · rename_i x ty l has hts
      obtain ⟨v, h1, h2⟩ := onS_ok hh
      exact ⟨_, fun hc => by simp only [act, has, hts, h1, pv, Option.map_some], h2⟩
    · exact hh.elim
  · simp at hq

/-- The next rune of a text: at a known place (annotation), or none is left. -/
def nextP (an : Option DV) (h : Heap) (it : DV) (k : Out → Prop) : Prop :=
  match it with
  | .ptr b 0 0 0 => match hget h b with
    | some (.iter s pos) => match an with
      | some (.ptr c w 0 0) => brB (decide (pos < s.length)) (Utf8.decode ⟨s.toArray⟩ pos = (c, w) ∧ k { v := .tup [.bool true, .int .i64 pos, .int .i32 c], δ := [(b, some (.iter s (pos + w)))] }) (k { v := .tup [.bool false] })
      | _ => False
    | _ => False
  | _ => False
theorem nextP_ok {C : Cfg} {f : Nat} {t : List DV} {an : Option DV} {h : Heap} {dst : Option Nat} {it : Operand} {k : Out → Prop} (hh : nextP an h (opnd t it) k) : ∃ out, act C f t h dst (.next it true) = some out ∧ k out := by
  unfold nextP at hh
  split at hh
  · rename_i b hb
    split at hh
    · rename_i s pos hr
      split at hh
      · rename_i c w
        rcases brB_ok hh with ⟨h1, h2, h3⟩ | ⟨h1, h2⟩
        · have h1 := of_decide_eq_true h1
          refine ⟨_, ?_, h3⟩
          simp only [act, hb, hr, if_pos h1, h2]
        · have h1 := of_decide_eq_false h1
          refine ⟨_, ?_, h2⟩
          simp only [act, hb, hr, if_neg h1]
      · exact hh.elim
    · exact hh.elim
  · exact hh.elim
/-- An operation, and what is owed for it. -/
def actP (ex : Bool) (C : Cfg) (f : Nat) (an : Nat → Option DV) (t : List DV) (h : Heap) (dst : Option Nat) (op : Op) (k : Out → Prop) : Prop :=
  match quietP none ex C f an t h dst op (fun v => k { v := v }) with
  | some p => p
  | none => match op with
    | .pick c a b => pickP (opnd t c) (opnd t a) (opnd t b) fun v => k { v := v }
    | .store ty a v => storeP C h ty (opnd t a) (opnd t v) k
    | .call { callee := .builtin .append, args := as1, argTypes := ts } =>
      match as1.toList, ts.toList, dst with
      | [s, x], [ty, tx], some d => (match C.T tx with | some ux => (match ux.d with | .sl _ => appendP C h d ty (opnd t s) (opnd t x) k | .str => appendP C h d ty (opnd t s) (opnd t x) k | _ => False) | _ => False)
      | _, _, _ => False
    | .next it true => match dst with
      | some d => (match an d with
        | some a => nextP (some a) h (opnd t it) k
        | none => onS (act C f t h dst (.next it true)) k)
      | none => onS (act C f t h dst (.next it true)) k
    | op => onS (act C f t h dst op) k

theorem actP_ok {ex : Bool} {C : Cfg} {f : Nat} {an : Nat → Option DV} {t : List DV} {h : Heap} {dst : Option Nat} {op : Op} {k : Out → Prop} (hh : actP ex C f an t h dst op k) : ∃ out, act C f t h dst op = some out ∧ k out := by
  unfold actP at hh
  split at hh
  · rename_i p hq
    obtain ⟨v, h1, h2⟩ := quietP_ok hq hh
    exact ⟨_, h1 trivial, h2⟩
  · rename_i hqn
    clear hqn
    split at hh
    · rename_i c a b
      unfold pickP at hh
      split at hh
      · rename_i c' hc
        rcases brB_ok hh with ⟨h1, h2⟩ | ⟨h1, h2⟩
        · exact ⟨_, by simp only [act, hc, h1]; rfl, h2⟩
        · exact ⟨_, by simp only [act, hc, h1]; rfl, h2⟩
      · exact hh.elim
    · obtain ⟨v, h1, h2⟩ := storeP_ok hh
      exact ⟨_, by simp only [act, h1], h2⟩
    · split at hh
      · rename_i s x ty tx d has hts
        split at hh
        · rename_i ux hux
          split at hh
          · rename_i e hd
            obtain ⟨v, h1, h2⟩ := appendP_ok hh
            exact ⟨_, by simp only [act, has, hts, hux, hd, h1], h2⟩
          · rename_i hd
            obtain ⟨v, h1, h2⟩ := appendP_ok hh
            exact ⟨_, by simp only [act, has, hts, hux, hd, h1], h2⟩
          · exact hh.elim
        · exact hh.elim
      · exact hh.elim
    · split at hh
      · split at hh
        · exact nextP_ok hh
        · exact onS_ok hh
      · exact onS_ok hh
    · exact onS_ok hh

/-! Sealing and handing over, with what is owed. -/
def viewP (h : Heap) (b n off len : Nat) (k : DV → Prop) : Prop :=
  match hget h b with
  | some (.row m es) => if m = n then obB (decide (off + len ≤ es.length)) (k (.psl n ((es.drop off).take len))) else False
  | _ => False
theorem viewP_ok {h : Heap} {b n off len : Nat} {k : DV → Prop} (hh : viewP h b n off len k) : ∃ v, viewRow h b n off len = some v ∧ k v := by
  unfold viewP at hh
  split at hh
  · rename_i m es hr
    split at hh
    · rename_i hm
      obtain ⟨h1, h2⟩ := obB_ok hh
      exact ⟨_, by unfold viewRow; rw [hr]; simp only; rw [if_pos ⟨hm, of_decide_eq_true h1⟩], h2⟩
    · exact hh.elim
  · exact hh.elim

mutual
def sealVP (h : Heap) : DV → (DV → Prop) → Prop
  | .rsl b n off len, k => viewP h b n off len k
  | .ptr .., _ => False
  | .map _, _ => False
  | .any, _ => False
  | .unk, _ => False
  | .fn f a c, k => sealLP h a fun a' => sealLP h c fun c' => k (.fn f a' c')
  | .iface t v, k => sealVP h v fun v' => k (.iface t v')
  | .agg cs, k => sealLP h cs fun cs' => k (.agg cs')
  | .tup vs, k => sealLP h vs fun vs' => k (.tup vs')
  | v, k => k v
def sealLP (h : Heap) : List DV → (List DV → Prop) → Prop
  | [], k => k []
  | v :: l, k => sealVP h v fun v' => sealLP h l fun l' => k (v' :: l')
end
mutual
theorem sealVP_ok {h : Heap} : ∀ {v : DV} {k : DV → Prop}, sealVP h v k → ∃ v', sealV h v = some v' ∧ k v'
  | .rsl b n off len, k, hh => viewP_ok hh
  | .ptr .., _, hh => hh.elim
  | .map _, _, hh => hh.elim
  | .any, _, hh => hh.elim
  | .unk, _, hh => hh.elim
  | .fn f a c, k, hh => by
    obtain ⟨a', h1, h2⟩ := sealLP_ok (v := a) hh
    obtain ⟨c', h3, h4⟩ := sealLP_ok (v := c) h2
    exact ⟨_, by simp only [sealV, h1, h3], h4⟩
  | .iface t v, k, hh => by
    obtain ⟨v', h1, h2⟩ := sealVP_ok (v := v) hh
    exact ⟨_, by simp only [sealV, h1, Option.map_some], h2⟩
  | .agg cs, k, hh => by
    obtain ⟨v', h1, h2⟩ := sealLP_ok (v := cs) hh
    exact ⟨_, by simp only [sealV, h1, Option.map_some], h2⟩
  | .tup cs, k, hh => by
    obtain ⟨v', h1, h2⟩ := sealLP_ok (v := cs) hh
    exact ⟨_, by simp only [sealV, h1, Option.map_some], h2⟩
  | .bool _, k, hh => ⟨_, rfl, hh⟩
  | .int _ _, k, hh => ⟨_, rfl, hh⟩
  | .str _, k, hh => ⟨_, rfl, hh⟩
  | .nilptr, k, hh => ⟨_, rfl, hh⟩
  | .eptr .., k, hh => ⟨_, rfl, hh⟩
  | .gptr .., k, hh => ⟨_, rfl, hh⟩
  | .nilsl, k, hh => ⟨_, rfl, hh⟩
  | .psl .., k, hh => ⟨_, rfl, hh⟩
  | .nilfn, k, hh => ⟨_, rfl, hh⟩
  | .niliface, k, hh => ⟨_, rfl, hh⟩
  | .nilmap, k, hh => ⟨_, rfl, hh⟩
theorem sealLP_ok {h : Heap} : ∀ {v : List DV} {k : List DV → Prop}, sealLP h v k → ∃ v', sealL h v = some v' ∧ k v'
  | [], k, hh => ⟨[], rfl, hh⟩
  | v :: l, k, hh => by
    obtain ⟨v', h1, h2⟩ := sealVP_ok (v := v) hh
    obtain ⟨l', h3, h4⟩ := sealLP_ok (v := l) h2
    exact ⟨_, by simp only [sealL, h1, h3], h4⟩
end

def sealBP (h : Heap) : Blk → (Blk → Prop) → Prop
  | .box cs, k => sealLP h cs fun cs' => k (.box cs')
  | b, k => k b
theorem sealBP_ok {h : Heap} {b : Blk} {k : Blk → Prop} (hh : sealBP h b k) : ∃ b', sealB h b = some b' ∧ k b' := by
  cases b with
  | box cs =>
    obtain ⟨v', h1, h2⟩ := sealLP_ok (v := cs) hh
    exact ⟨_, by simp only [sealB, h1, Option.map_some], h2⟩
  | row n es => exact ⟨_, rfl, hh⟩
  | iter s p => exact ⟨_, rfl, hh⟩
def sealBsP (h : Heap) : List (Option Blk) → (List Blk → Prop) → Prop
  | [], k => k []
  | some b :: l, k => sealBP h b fun b' => sealBsP h l fun l' => k (b' :: l')
  | none :: _, _ => False
theorem sealBsP_ok {h : Heap} : ∀ {l : List (Option Blk)} {k : List Blk → Prop}, sealBsP h l k → ∃ l', sealBs h l = some l' ∧ k l'
  | [], k, hh => ⟨[], rfl, hh⟩
  | some b :: l, k, hh => by
    obtain ⟨v', h1, h2⟩ := sealBP_ok hh
    obtain ⟨l', h3, h4⟩ := sealBsP_ok (l := l) h2
    exact ⟨_, by simp only [sealBs, h1, h3], h4⟩
  | none :: _, _, hh => hh.elim

mutual
def impP (h : Heap) (base : Nat) : DV → Imp → (DV → Imp → Prop) → Prop
  | .ptr b n i off, s, k => if i = 0 ∧ off = 0 then k (.ptr (base + (s.ext b).1) n 0 0) (s.ext b).2 else False
  | .map b, s, k => k (.map (base + (s.ext b).1)) (s.ext b).2
  | .rsl b n off len, s, k => viewP h b n off len fun v => k v { s with views := b :: s.views }
  | .fn f a c, s, k => impLP h base a s fun a' s1 => impLP h base c s1 fun c' s2 => k (.fn f a' c') s2
  | .iface t v, s, k => impP h base v s fun v' s1 => k (.iface t v') s1
  | .agg cs, s, k => impLP h base cs s fun cs' s1 => k (.agg cs') s1
  | .tup vs, s, k => impLP h base vs s fun vs' s1 => k (.tup vs') s1
  | .any, _, _ => False
  | .unk, _, _ => False
  | v, s, k => k v s
def impLP (h : Heap) (base : Nat) : List DV → Imp → (List DV → Imp → Prop) → Prop
  | [], s, k => k [] s
  | v :: l, s, k => impP h base v s fun v' s1 => impLP h base l s1 fun l' s2 => k (v' :: l') s2
end
mutual
theorem impP_ok {h : Heap} {base : Nat} : ∀ {v : DV} {s : Imp} {k : DV → Imp → Prop}, impP h base v s k → ∃ v' s', imp h base v s = some (v', s') ∧ k v' s'
  | .ptr b n i off, s, k, hh => by
    unfold impP at hh
    split at hh
    · rename_i hc; exact ⟨_, _, by unfold imp; rw [if_pos hc], hh⟩
    · exact hh.elim
  | .map b, s, k, hh => ⟨_, _, rfl, hh⟩
  | .rsl b n off len, s, k, hh => by
    obtain ⟨v, h1, h2⟩ := viewP_ok (h := h) (b := b) (n := n) (off := off) (len := len) hh
    exact ⟨_, _, by simp only [imp, h1, Option.map_some], h2⟩
  | .fn f a c, s, k, hh => by
    obtain ⟨a', s1, h1, h2⟩ := impLP_ok (v := a) hh
    obtain ⟨c', s2, h3, h4⟩ := impLP_ok (v := c) h2
    exact ⟨_, _, by simp only [imp, h1, h3, Option.map_some], h4⟩
  | .iface t v, s, k, hh => by
    obtain ⟨v', s1, h1, h2⟩ := impP_ok (v := v) hh
    exact ⟨_, _, by simp only [imp, h1, Option.map_some], h2⟩
  | .agg cs, s, k, hh => by
    obtain ⟨v', s1, h1, h2⟩ := impLP_ok (v := cs) hh
    exact ⟨_, _, by simp only [imp, h1, Option.map_some], h2⟩
  | .tup cs, s, k, hh => by
    obtain ⟨v', s1, h1, h2⟩ := impLP_ok (v := cs) hh
    exact ⟨_, _, by simp only [imp, h1, Option.map_some], h2⟩
  | .any, _, _, hh => hh.elim
  | .unk, _, _, hh => hh.elim
  | .bool _, s, k, hh => ⟨_, _, rfl, hh⟩
  | .int _ _, s, k, hh => ⟨_, _, rfl, hh⟩
  | .str _, s, k, hh => ⟨_, _, rfl, hh⟩
  | .nilptr, s, k, hh => ⟨_, _, rfl, hh⟩
  | .eptr .., s, k, hh => ⟨_, _, rfl, hh⟩
  | .gptr .., s, k, hh => ⟨_, _, rfl, hh⟩
  | .nilsl, s, k, hh => ⟨_, _, rfl, hh⟩
  | .psl .., s, k, hh => ⟨_, _, rfl, hh⟩
  | .nilfn, s, k, hh => ⟨_, _, rfl, hh⟩
  | .niliface, s, k, hh => ⟨_, _, rfl, hh⟩
  | .nilmap, s, k, hh => ⟨_, _, rfl, hh⟩
theorem impLP_ok {h : Heap} {base : Nat} : ∀ {v : List DV} {s : Imp} {k : List DV → Imp → Prop}, impLP h base v s k → ∃ v' s', impL h base v s = some (v', s') ∧ k v' s'
  | [], s, k, hh => ⟨_, _, rfl, hh⟩
  | v :: l, s, k, hh => by
    obtain ⟨v', s1, h1, h2⟩ := impP_ok (v := v) hh
    obtain ⟨l', s2, h3, h4⟩ := impLP_ok (v := l) h2
    exact ⟨_, _, by simp only [impL, h1, h3, Option.map_some], h4⟩
end
def outBP (h : Heap) : List Nat → (List Blk → List Nat → Prop) → Prop
  | [], k => k [] []
  | b :: l, k =>
    match hget h b with
    | some (.box cs) => sealLP h cs fun cs' => outBP h l fun r vs => k (.box cs' :: r) (mentsL cs ++ vs)
    | _ => False
theorem outBP_ok {h : Heap} : ∀ {l : List Nat} {k : List Blk → List Nat → Prop}, outBP h l k → ∃ r vs, outB h l = some (r, vs) ∧ k r vs
  | [], k, hh => ⟨_, _, rfl, hh⟩
  | b :: l, k, hh => by
    unfold outBP at hh
    split at hh
    · rename_i cs hb
      obtain ⟨cs', h1, h2⟩ := sealLP_ok (v := cs) hh
      obtain ⟨r, vs, h3, h4⟩ := outBP_ok (l := l) h2
      exact ⟨_, _, by simp only [outB, hb, h1, h3], h4⟩
    · exact hh.elim
def callBack (C : Cfg) (g : Nat) (s : Imp) (vs : List Nat) (dst : Option Nat) (r : DV) (ex' : List Blk) : Option Out :=
    if ex'.length ≠ s.exts.length then none else
    if C.scal g then
      if r.noPsl ∧ s.exts = [] then some { v := r } else none
    else
      let δ := (s.views ++ vs).map (fun b => (b, none)) ++ backs s.exts ex'
      if C.own g then
        if s.exts ≠ [] then none else
        match r, dst with
        | .psl n [], _ => some { v := .psl n [], δ := δ, φ := s.views ++ vs }
        | .psl n es, some d => some { v := .rsl d n 0 es.length, δ := δ ++ [(d, some (.row n es))], φ := d :: (s.views ++ vs) }
        | .nilsl, _ => some { v := .nilsl, δ := δ, φ := s.views ++ vs }
        | _, _ => none
      else some { v := r, δ := δ, φ := s.views ++ vs }
theorem callBack_eq {C : Cfg} {h : Heap} {g : Nat} {xs xs' : List DV} {dst : Option Nat} {s : Imp} {ex : List Blk} {vs : List Nat} (h1 : impL h (baseOf C g) xs {} = some (xs', s)) (h3 : outB h s.exts = some (ex, vs)) (r : DV) (ex' : List Blk) :
    callOut C h dst g xs r ex' = callBack C g s vs dst r ex' := by
  unfold callOut callOp
  rw [h1]
  simp only [h3]
  rfl
def callInP (C : Cfg) (h : Heap) (g : Nat) (xs : List DV) (k : List DV → List Blk → (DV → List Blk → Option Out) → Prop) (dst : Option Nat) : Prop :=
  impLP h (baseOf C g) xs {} fun xs' s => outBP h s.exts fun ex vs => k xs' ex (callBack C g s vs dst)
theorem callInP_ok {C : Cfg} {h : Heap} {g : Nat} {xs : List DV} {dst : Option Nat} {k : List DV → List Blk → (DV → List Blk → Option Out) → Prop} (hh : callInP C h g xs k dst) :
    ∃ xs' ex, callIn C h g xs = some (xs', ex) ∧ k xs' ex (callOut C h dst g xs) := by
  obtain ⟨xs', s, h1, h2⟩ := impLP_ok (v := xs) hh
  obtain ⟨ex, vs, h3, h4⟩ := outBP_ok h2
  refine ⟨xs', ex, by simp only [callIn, h1, h3], ?_⟩
  rw [show callOut C h dst g xs = callBack C g s vs dst from funext fun r => funext fun ex' => callBack_eq h1 h3 r ex']
  exact h4

end Go.Det
end
