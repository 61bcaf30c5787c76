/- TextMovesCardSaid: part 3 of the texts behind it: DetP, DetQ, DetR, DetS, DetT, DetU. No premise of its own. -/
import Derived.Test.YtpfjeinhmmmhkaaGreatDoorD2
import Derived.Orders
set_option linter.all false
section
namespace Go.Det
def Comes1 (P : Program) (o : Oper) (a : Act) (w : World) (L : List Nat) (h : Heap) (w0 : World) (ρ : Rho) (m : Ro) (out : Out) : Prop :=
  ∃ nx v' w' ρ' m', (execOp a.eval o).run P w = .ok nx w' /\ (nx = .value v' \/ (nx = .skip /\ v' = undef)) /\ Post L w0.heap.size h w0 w ρ m out v' w' ρ' m'
section
variable {P : Program} {C : Cfg} (hT : ∀ t ti, C.T t = some ti -> TiOK P t ti)
theorem VRL.opnds {w0 : World} {L : List Nat} {m0 : Ro} {st : St} {a : Act} {w : World} {ρ : Rho} {m : Ro} (r : Rel w0 L m0 st a w ρ m) (l : List Operand) : VRL ρ m (l.map (opnd st.t)) (l.map a.eval) :=
  VRL.map _ _ l fun x _ => r.opnd x
theorem PR.opnds {w0 : World} {L : List Nat} {m0 : Ro} {st : St} {a : Act} {w : World} {ρ : Rho} {m : Ro} (r : Rel w0 L m0 st a w ρ m) (ps : Array (Nat × Operand)) : PR ρ m (parts st.t ps) (ps.map fun (i, x) => (i, a.eval x)).toList := by
  simp only [parts, Array.toList_map]
  induction ps.toList with
  | nil => exact .nil
  | cons p l ih => exact .cons (r.opnd p.2) ih
theorem opt_opnd {w0 : World} {L : List Nat} {m0 : Ro} {st : St} {a : Act} {w : World} {ρ : Rho} {m : Ro} (r : Rel w0 L m0 st a w ρ m) (x : Option Operand) :
    (x.map (opnd st.t) = none /\ x.map a.eval = none) \/ ∃ y b, x.map (opnd st.t) = some y /\ x.map a.eval = some b /\ VR ρ m y b := by
  cases x with
  | none => exact .inl ⟨rfl, rfl⟩
  | some x => exact .inr ⟨_, _, rfl, rfl, r.opnd x⟩
theorem mmL_ok {ρ : Rho} {m : Ro} {mx : Bool} : ∀ {l : List DV} {x z : DV} {vs : List Value} {v : Value}, mmL mx x l = some z -> VR ρ m x v -> VRL ρ m l vs -> ∀ w : World,
    ∃ u, (vs.foldlM (if mx then Builtin.max2 else Builtin.min2) v : Sem Value).run P w = .ok u w /\ VR ρ m z u
  | [], x, z, vs, v, h, hx, hl, w => by
    simp only [mmL, Option.some.injEq] at h; subst h
    simp only [VRL] at hl; subst hl
    exact ⟨v, rfl, hx⟩
  | y :: l, x, z, vs, v, h, hx, hl, w => by
    simp only [VRL] at hl
    obtain ⟨u, r, rfl, hu, hr⟩ := hl
    simp only [mmL] at h
    split at h
    · rename_i q hq
      unfold mm2 at hq
      split at hq
      · simp only [VR] at hx hu; subst hx hu
        simp only [Option.some.injEq] at hq; subst hq
        rename_i k n k' n'
        have h2 : ((if mx then Builtin.max2 else Builtin.min2) (.int k n) (.int k' n') : Sem Value).run P w = .ok (.int k (if mx then (if n' > n then n' else n) else (if n' < n then n' else n))) w := by
          cases mx <;> simp [Builtin.max2, Builtin.min2]
        obtain ⟨u, k1, k2⟩ := mmL_ok h (v := .int k (if mx then (if n' > n then n' else n) else (if n' < n then n' else n))) (by simp only [VR]) hr w
        refine ⟨u, ?_, k2⟩
        rw [List.foldlM_cons, Sem.run_bind, h2, Result.andThen_ok]
        exact k1
      · simp at hq
    · simp at h
theorem comes_value {o : Oper} {a : Act} {w w' : World} {L : List Nat} {h : Heap} {w0 : World} {ρ ρ' : Rho} {m m' : Ro} {out : Out} {s : Sem Value} {v' : Value} (he : execOp a.eval o = (do pure (.value (← s)))) (hr : s.run P w = .ok v' w')
    (hp : Post L w0.heap.size h w0 w ρ m out v' w' ρ' m') : Comes1 P o a w L h w0 ρ m out :=
  ⟨.value v', v', w', ρ', m', by rw [he]; simp [hr], .inl rfl, hp⟩
theorem comes_unit {o : Oper} {a : Act} {w w' : World} {L : List Nat} {h : Heap} {w0 : World} {ρ ρ' : Rho} {m m' : Ro} {out : Out} {s : Sem Unit} (he : execOp a.eval o = (do s; pure .skip)) (hr : s.run P w = .ok () w')
    (hp : Post L w0.heap.size h w0 w ρ m out undef w' ρ' m') : Comes1 P o a w L h w0 ρ m out :=
  ⟨.skip, undef, w', ρ', m', by rw [he]; simp [hr], .inr ⟨rfl, rfl⟩, hp⟩
include hT
set_option maxHeartbeats 4000000 in
theorem act_ok {f : Nat} {w0 : World} {L : List Nat} {m0 : Ro} {st : St} {a : Act} {w : World} {ρ : Rho} {m : Ro} (r : Rel w0 L m0 st a w ρ m) (hG : GlobOK C m0) {o : Oper} {out : Out} (e : act C f st.t st.h o.dst o.op = some out) :
    Comes1 P o a w L st.h w0 ρ m out := by
  have hG' := hG.mono r.sub.1
  have same : ∀ {x : DV} {v' : Value}, VR ρ m x v' -> Post L w0.heap.size st.h w0 w ρ m { v := x } v' w ρ m := fun h => post_same r.inv r.evo h
  unfold act at e
  split at e
  case h_1 x ho =>
    simp only [Option.some.injEq] at e; subst e
    exact ⟨.value (a.eval x), a.eval x, w, ρ, m, by simp [execOp, ho], .inl rfl, same (r.opnd x)⟩
  case h_2 x ho =>
    simp only [Option.some.injEq] at e; subst e
    exact ⟨.value (a.eval x), a.eval x, w, ρ, m, by simp [execOp, ho], .inl rfl, same (r.opnd x)⟩
  case h_3 c x y ho =>
    split at e
    · rename_i b hb
      simp only [Option.some.injEq] at e; subst e
      have hc := r.opnd c
      rw [hb] at hc; simp only [VR] at hc
      refine ⟨.value (if b then a.eval x else a.eval y), if b then a.eval x else a.eval y, w, ρ, m, by simp [execOp, ho, hc, asBool], .inl rfl, same ?_⟩
      cases b
      · exact r.opnd y
      · exact r.opnd x
    · simp at e
  case h_4 el ho =>
    split at e
    · rename_i te d hte hd
      split at e
      · rename_i hz
        simp only [Option.some.injEq] at e; subst e
        obtain ⟨v', w', ρ', m', k1, k2⟩ := alloc_ok (h := st.h) (d := d) hT hte hz r.inv r.evo
        exact comes_value (s := Instr.alloc el true (.tuple #[])) (by simp only [execOp, ho]) k1 k2
      · simp at e
    · simp at e
  case h_5 el x ho =>
    split at e
    · rename_i te d hte hd
      split at e
      · rename_i hz
        simp only [Option.some.injEq] at e; subst e
        obtain ⟨v', w', ρ', m', k1, k2⟩ := box_ok (P := P) (h := st.h) (d := d) hte hz r.inv r.evo (r.opnd x)
        exact comes_value (s := Instr.box el (a.eval x)) (by simp only [execOp, ho]) k1 k2
      · simp at e
    · simp at e
  case h_6 ty ps ho =>
    simp only [pv, Option.map_eq_some_iff] at e
    obtain ⟨z, hz, rfl⟩ := e
    obtain ⟨v', k1, k2⟩ := buildOp_ok hT hz (PR.opnds r ps) w
    exact comes_value (s := Instr.build ty (ps.map fun (i, x) => (i, a.eval x))) (by simp only [execOp, ho]) k1 (same k2)
  case h_7 ty len ps ho =>
    split at e
    · rename_i d hd
      obtain ⟨v', w', ρ', m', k1, k2⟩ := sliceLit_ok hT e r.inv r.evo (PR.opnds r ps)
      exact comes_value (s := Instr.buildSlice ty len (ps.map fun (i, x) => (i, a.eval x))) (by simp only [execOp, ho]) k1 k2
    · simp at e
  case h_8 ty x ho =>
    simp only [pv, Option.map_eq_some_iff] at e
    obtain ⟨z, hz, rfl⟩ := e
    obtain ⟨v', k1, k2⟩ := loadOp_ok hT hz r.inv hG' (r.opnd x)
    exact comes_value (s := Instr.loadAt ty (a.eval x)) (by simp only [execOp, ho]) k1 (same k2)
  case h_9 ty x y ho =>
    obtain ⟨w', k1, k2⟩ := storeOp_ok hT e r.inv r.evo (r.opnd x) (r.opnd y)
    exact comes_unit (s := Instr.storeAt ty (a.eval x) (a.eval y)) (by simp only [execOp, ho]) k1 k2
  case h_10 x ho =>
    have hx := r.opnd x
    split at e
    · rename_i b n i off hb
      simp only [Option.some.injEq] at e; subst e
      rw [hb] at hx
      refine ⟨.value (a.eval x), a.eval x, w, ρ, m, ?_, .inl rfl, same hx⟩
      simp only [VR] at hx
      obtain ⟨p, _, hp⟩ := hx
      simp [execOp, ho, hp]
    · rename_i n es i off hb
      simp only [Option.some.injEq] at e; subst e
      rw [hb] at hx
      refine ⟨.value (a.eval x), a.eval x, w, ρ, m, ?_, .inl rfl, same hx⟩
      simp only [VR] at hx
      obtain ⟨_, _, _, _, _, _, _, hp⟩ := hx
      simp [execOp, ho, hp]
    · simp at e
  case h_11 op ty x y _ ho =>
    split at e
    · simp at e
    · rename_i hn
      simp only [pv, Option.map_eq_some_iff] at e
      obtain ⟨z, hz, rfl⟩ := e
      obtain ⟨v', k1, k2⟩ := binOp_ok hT (xo := x) (yo := y) hz (r.opnd x) (r.opnd y) (fun h => by
        by_cases hc : (isC x || isC y) = true
        · exact hc
        · have hc' : (isC x || isC y) = false := by simpa using hc
          exact absurd (by rw [h, hc']; rfl) hn) w
      exact comes_value (by simp only [execOp, ho]) k1 (same k2)
  case h_12 op ty x ho =>
    simp only [pv, Option.map_eq_some_iff] at e
    obtain ⟨z, hz, rfl⟩ := e
    obtain ⟨v', k1, k2⟩ := unOp_ok (P := P) hz (r.opnd x) w
    exact comes_value (s := Op.unary op (a.eval x)) (by simp only [execOp, ho]) k1 (same k2)
  case h_13 ta tb x ho =>
    split at e
    · rename_i d hd
      obtain ⟨v', w', ρ', m', k1, k2⟩ := convertOp_ok hT e r.inv r.evo (r.opnd x)
      exact comes_value (s := Go.convert ta tb (a.eval x)) (by simp only [execOp, ho]) k1 k2
    · simp at e
  case h_14 ty x ho =>
    split at e
    · rename_i ti hti
      obtain ⟨dd, hu, hd⟩ := (hT ty ti hti).desc
      split at e
      · simp at e
      · rename_i hni
        simp only [Option.some.injEq] at e; subst e
        have hx := r.opnd x
        refine comes_value (s := Instr.makeInterface ty (a.eval x)) (v' := .iface ty (a.eval x)) (w' := w) (by simp only [execOp, ho]) ?_ (same (by simp only [VR]; exact ⟨_, rfl, hx⟩))
        have hnd : ∀ ms, dd ≠ .interface ms := by
          intro ms hms
          subst hms
          cases htd : ti.d <;> rw [htd] at hd <;> simp only [TdOK] at hd <;> first
            | (cases hd; done)
            | (obtain ⟨_, hh, _⟩ := hd; cases hh; done)
            | (obtain ⟨_, _, _, hh⟩ := hd; cases hh; done)
            | (exact absurd htd hni)
            | (exact absurd rfl (hd.2.2 ms))
        simp only [Instr.makeInterface, Sem.run_bind, run_underlying hu, Result.andThen_ok]
        cases dd <;> first | rfl | exact absurd rfl (hnd _)
    · simp at e
  case h_15 fn first cap ho =>
    simp only [Option.some.injEq] at e; subst e
    refine comes_value (s := Instr.makeFunc fn (first.map a.eval) (cap.map a.eval)) (v' := .func fn (first.map a.eval) (cap.map a.eval)) (w' := w) (by simp only [execOp, ho]) rfl (same ?_)
    simp only [VR]
    exact ⟨_, _, rfl, by simpa using VRL.opnds r first.toList, by simpa using VRL.opnds r cap.toList⟩
  case h_16 ty l c ho =>
    split at e
    · rename_i d hd
      obtain ⟨v', w', ρ', m', k1, k2⟩ := makeSliceOp_ok hT e r.inv r.evo (r.opnd l) (r.opnd c)
      exact comes_value (s := Instr.makeSlice ty (a.eval l) (a.eval c)) (by simp only [execOp, ho]) k1 k2
    · simp at e
  case h_17 ty x lo hi mx ho =>
    split at e
    · simp only [pv, Option.map_eq_some_iff] at e
      obtain ⟨z, hz, rfl⟩ := e
      obtain ⟨v', k1, k2⟩ := sliceOp_ok hT hz (r.opnd x) (opt_opnd r lo) (opt_opnd r hi) w
      exact comes_value (s := Instr.sliceAt ty (a.eval x) (lo.map a.eval) (hi.map a.eval) none) (by simp only [execOp, ho]; rfl) k1 (same k2)
    · simp at e
  case h_18 ty x fi ho =>
    simp only [pv, Option.map_eq_some_iff] at e
    obtain ⟨z, hz, rfl⟩ := e
    obtain ⟨v', k1, k2⟩ := fieldAddrOp_ok hT hz (r.opnd x) w
    exact comes_value (s := Instr.fieldAt ty (a.eval x) fi) (by simp only [execOp, ho]) k1 (same k2)
  case h_19 ty x fi ho =>
    simp only [pv, Option.map_eq_some_iff] at e
    obtain ⟨z, hz, rfl⟩ := e
    obtain ⟨v', k1, k2⟩ := fieldOp_ok hT hz (r.opnd x) w
    exact comes_value (s := Instr.field ty (a.eval x) fi) (by simp only [execOp, ho]) k1 (same k2)
  case h_20 ty x i ho =>
    simp only [pv, Option.map_eq_some_iff] at e
    obtain ⟨z, hz, rfl⟩ := e
    obtain ⟨v', k1, k2⟩ := indexAddrOp_ok hT hz (r.opnd x) (r.opnd i) w
    exact comes_value (s := Instr.indexAt ty (a.eval x) (a.eval i)) (by simp only [execOp, ho]) k1 (same k2)
  case h_21 ty x i ho =>
    simp only [pv, Option.map_eq_some_iff] at e
    obtain ⟨z, hz, rfl⟩ := e
    obtain ⟨v', k1, k2⟩ := indexOp_ok hT hz (r.opnd x) (r.opnd i) w
    exact comes_value (s := Instr.index ty (a.eval x) (a.eval i)) (by simp only [execOp, ho]) k1 (same k2)
  case h_22 ty x ho =>
    split at e
    · rename_i ti d hti hd
      obtain ⟨dd, hu, hdd⟩ := (hT ty ti hti).desc
      split at e
      · rename_i s hs he
        simp only [Option.some.injEq] at e; subst e
        rw [hs] at hdd; simp only [TdOK] at hdd; subst hdd
        have hx := r.opnd x
        rw [he] at hx; simp only [VR] at hx
        refine comes_value (s := Instr.range ty (a.eval x)) (by simp only [execOp, ho]) (v' := .pointer (some ⟨w.heap.size, 0, none⟩)) (w' := w.alloc (.stringIter ⟨s.toArray⟩ 0)) ?_ (post_alloc r.inv r.evo _ d _ 0 ?_ ?_)
        · rw [hx]
          simp [Instr.range, run_underlying hu]
        · simp only [BR]
          exact ⟨alloc_get_new w _, trivial⟩
        · simp only [VR]
          exact ⟨_, upd_same .., by simp⟩
      · simp at e
    · simp at e
  case h_23 it ho =>
    have hx := r.opnd it
    split at e
    · rename_i b hb
      rw [hb] at hx; simp only [VR] at hx
      obtain ⟨p, hp, hx⟩ := hx
      split at e
      · rename_i s pos hs
        obtain ⟨p', h1, h2, h3, h4⟩ := r.inv.blk b _ hs
        rw [hp] at h1; simp only [Option.some.injEq] at h1; subst h1
        simp only [BR] at h2
        obtain ⟨g1, g2⟩ := h2
        have hx' : a.eval it = .pointer (some ⟨p.blk, 0, none⟩) := by rw [hx, g2]
        obtain ⟨hlt, hval⟩ := Array.getElem?_eq_some_iff.1 g1
        have hget : ∀ w' : World, w'.heap = w.heap -> (getObj p.blk).run P w' = .ok (.stringIter ⟨s.toArray⟩ pos) w' := by
          intro w' hw
          simp [getObj, Sem.run, hw, g1]
        split at e
        · rename_i hlt'
          simp only [Option.some.injEq] at e; subst e
          refine comes_value (s := Instr.next (a.eval it) true o.type) (by simp only [execOp, ho]) (v' := .tuple #[.bool true, goInt pos, .int .i32 (Utf8.decode ⟨s.toArray⟩ pos).1]) (w' := World.setBlk w p.blk (.stringIter ⟨s.toArray⟩ (pos + (Utf8.decode ⟨s.toArray⟩ pos).2))) (ρ' := ρ) (m' := m) ?_ ⟨?_, Grows.refl _ m, fun _ _ => rfl, ?_, r.evo.setBlk _ h4.1⟩
          · rw [hx']
            have hsz : pos < (⟨s.toArray⟩ : ByteArray).size := hlt'
            have hset : ∀ o' : Obj, (setObj p.blk o').run P w = .ok () (World.setBlk w p.blk o') := by
              intro o'
              simp [setObj, Sem.run, g1, World.setBlk]
            simp [Instr.next, hget w rfl, hsz, hset]
          · simp only [VR]
            exact ⟨_, rfl, VRL.cons rfl (VRL.cons rfl (VRL.cons rfl (by simp [VRL])))⟩
          · simp only [forgetH_nil, setAll]
            refine r.inv.setBlk hs hp _ ?_ rfl
            simp only [BR]
            exact ⟨by rw [setBlk_get]; simp [hlt], g2⟩
        · rename_i hge
          simp only [Option.some.injEq] at e; subst e
          refine comes_value (s := Instr.next (a.eval it) true o.type) (by simp only [execOp, ho]) (v' := .tuple #[.bool false]) (w' := w) ?_ (same ?_)
          · rw [hx']
            have hsz : ¬ (pos < (⟨s.toArray⟩ : ByteArray).size) := hge
            simp [Instr.next, hget w rfl, hsz]
          · simp only [VR]
            exact ⟨_, rfl, VRL.cons rfl (by simp [VRL])⟩
      · simp at e
    · simp at e
  case h_24 x ix ho =>
    have hx := r.opnd x
    split at e
    · rename_i vs hvs
      simp only [pv, Option.map_eq_some_iff] at e
      obtain ⟨z, hz, rfl⟩ := e
      rw [hvs] at hx; simp only [VR] at hx
      obtain ⟨us, hu, hl⟩ := hx
      obtain ⟨v, hv, hr⟩ := hl.get ix z hz
      exact comes_value (s := Instr.extract (a.eval x) ix) (v' := v) (w' := w) (by simp only [execOp, ho]) (by rw [hu]; simp at hv; simp [Instr.extract, hv]) (same hr)
    · simp at e
  case h_25 b as1 ts ho =>
    have hex : ∀ (tgt : Sem Value), builtin b ts o.type (as1.map fun | .const _ => true | _ => false) (as1.map a.eval) = (do pure (.value (← tgt))) -> execOp a.eval o = (do pure (.value (← tgt))) := by
      intro tgt h
      simp only [execOp, ho, resolve]
      exact h
    split at e
    · rename_i s x ty tx hs ht
      have has : as1 = #[s, x] := by apply Array.ext'; simpa using hs
      have hts : ts = #[ty, tx] := by apply Array.ext'; simpa using ht
      subst has hts
      split at e
      · rename_i d ux hd hux
        have hk : ∀ {out'}, appendOp C st.h d ty (opnd st.t s) (opnd st.t x) = some out' -> ((∃ e', P.underlying tx = some (.slice e')) \/ P.underlying tx = some .string) -> Comes1 P o a w L st.h w0 ρ m out' := by
          intro out' e' hk
          obtain ⟨v', w', ρ', m', k1, k2⟩ := appendOp_ok hT e' r.inv r.evo (r.opnd s) (r.opnd x) hk o.type
          exact comes_value (hex (Builtin.append_ #[ty, tx] o.type #[a.eval s, a.eval x]) (by simp [builtin])) k1 k2
        obtain ⟨dd, hu, hdd⟩ := (hT tx ux hux).desc
        split at e
        · rename_i e' he
          rw [he] at hdd; simp only [TdOK] at hdd; subst hdd
          exact hk e (.inl ⟨_, hu⟩)
        · rename_i he
          rw [he] at hdd; simp only [TdOK] at hdd; subst hdd
          exact hk e (.inr hu)
        · simp at e
      · simp at e
    · rename_i x y ty l hs ht
      have has : as1 = #[x, y] := by apply Array.ext'; simpa using hs
      have hts : ts[0]? = some ty := by have := congrArg (·[0]?) ht; simpa using this
      subst has
      obtain ⟨v', w', ρ', m', k1, k2⟩ := copyOp_ok hT (tx := 0) e r.inv r.evo (r.opnd x) (r.opnd y) ts hts o.type
      exact comes_value (hex (Builtin.copy_ ts o.type #[a.eval x, a.eval y]) (by simp [builtin])) k1 k2
    · rename_i x ty l hs ht
      have has : as1 = #[x] := by apply Array.ext'; simpa using hs
      have hts : ts[0]? = some ty := by have := congrArg (·[0]?) ht; simpa using this
      subst has
      simp only [pv, Option.map_eq_some_iff] at e
      obtain ⟨z, hz, rfl⟩ := e
      obtain ⟨v', k1, k2⟩ := lenOp_ok hT hz (r.opnd x) ts hts o.type w
      exact comes_value (hex (Builtin.len_ ts o.type #[a.eval x]) (by simp [builtin])) k1 (same k2)
    · rename_i ts' x l hs
      have has : as1 = (x :: l).toArray := by apply Array.ext'; simpa using hs
      subst has
      simp only [pv, Option.map_eq_some_iff] at e
      obtain ⟨z, hz, rfl⟩ := e
      obtain ⟨u, k1, k2⟩ := mmL_ok (P := P) hz (r.opnd x) (VRL.opnds r l) w
      exact comes_value (hex (Builtin.max_ ts o.type (((x :: l).map a.eval).toArray)) (by simp [builtin])) (by simpa [Builtin.max_] using k1) (same k2)
    · rename_i ts' x l hs
      have has : as1 = (x :: l).toArray := by apply Array.ext'; simpa using hs
      subst has
      simp only [pv, Option.map_eq_some_iff] at e
      obtain ⟨z, hz, rfl⟩ := e
      obtain ⟨u, k1, k2⟩ := mmL_ok (P := P) hz (r.opnd x) (VRL.opnds r l) w
      exact comes_value (hex (Builtin.min_ ts o.type (((x :: l).map a.eval).toArray)) (by simp [builtin])) (by simpa [Builtin.min_] using k1) (same k2)
    · simp at e
  case h_26 => simp at e
end
end Go.Det
end

section
namespace Go.Det
theorem Imp.ext_spec (s : Imp) (b : Nat) : s.exts <+: (s.ext b).2.exts /\ (s.ext b).2.views = s.views /\ (s.ext b).2.exts[(s.ext b).1]? = some b /\ (s.exts.Nodup -> (s.ext b).2.exts.Nodup) := by
  unfold Imp.ext
  cases h : s.exts.findIdx? (· == b) with
  | some j =>
    refine ⟨List.prefix_refl _, rfl, ?_, id⟩
    rw [List.findIdx?_eq_some_iff_getElem] at h
    obtain ⟨hl, h1, _⟩ := h
    simp at h1
    simp [hl, h1]
  | none =>
    refine ⟨List.prefix_append _ _, rfl, by simp, fun hn => ?_⟩
    rw [List.findIdx?_eq_none_iff] at h
    simp only
    rw [List.nodup_append]
    refine ⟨hn, by simp, fun a ha b' hb' => ?_⟩
    simp at hb'; subst hb'
    have := h a ha
    simpa using this
mutual
theorem imp_mono {h : Heap} {base : Nat} : ∀ (x : DV) {s s' : Imp} {x' : DV}, imp h base x s = some (x', s') -> s.exts <+: s'.exts /\ (∀ b ∈ s.views, b ∈ s'.views) /\ (s.exts.Nodup -> s'.exts.Nodup)
  | .any, s, s', x', e => by simp [imp] at e
  | .unk, s, s', x', e => by simp [imp] at e
  | .bool _, s, s', x', e => by simp [imp] at e; obtain ⟨_, rfl⟩ := e; exact ⟨List.prefix_refl _, fun _ h => h, id⟩
  | .int _ _, s, s', x', e => by simp [imp] at e; obtain ⟨_, rfl⟩ := e; exact ⟨List.prefix_refl _, fun _ h => h, id⟩
  | .str _, s, s', x', e => by simp [imp] at e; obtain ⟨_, rfl⟩ := e; exact ⟨List.prefix_refl _, fun _ h => h, id⟩
  | .nilptr, s, s', x', e => by simp [imp] at e; obtain ⟨_, rfl⟩ := e; exact ⟨List.prefix_refl _, fun _ h => h, id⟩
  | .ptr b n i off, s, s', x', e => by
    simp only [imp] at e
    split at e
    · simp only [Option.some.injEq, Prod.mk.injEq] at e; obtain ⟨_, rfl⟩ := e
      obtain ⟨h1, h2, h3, h4⟩ := s.ext_spec b
      exact ⟨h1, by rw [h2]; exact fun _ h => h, h4⟩
    · simp at e
  | .eptr _ _ _ _, s, s', x', e => by simp [imp] at e; obtain ⟨_, rfl⟩ := e; exact ⟨List.prefix_refl _, fun _ h => h, id⟩
  | .gptr _ _, s, s', x', e => by simp [imp] at e; obtain ⟨_, rfl⟩ := e; exact ⟨List.prefix_refl _, fun _ h => h, id⟩
  | .nilsl, s, s', x', e => by simp [imp] at e; obtain ⟨_, rfl⟩ := e; exact ⟨List.prefix_refl _, fun _ h => h, id⟩
  | .rsl b n off len, s, s', x', e => by
    simp only [imp, Option.map_eq_some_iff, Prod.mk.injEq] at e
    obtain ⟨v, _, _, rfl⟩ := e
    exact ⟨List.prefix_refl _, fun _ h => List.mem_cons_of_mem _ h, id⟩
  | .psl _ _, s, s', x', e => by simp [imp] at e; obtain ⟨_, rfl⟩ := e; exact ⟨List.prefix_refl _, fun _ h => h, id⟩
  | .fn f a c, s, s', x', e => by
    simp only [imp] at e
    split at e
    · rename_i a' s1 h1
      simp only [Option.map_eq_some_iff, Prod.mk.injEq] at e
      obtain ⟨⟨c', s2⟩, h2, _, rfl⟩ := e
      obtain ⟨k1, k2, k3⟩ := impL_mono a h1
      obtain ⟨l1, l2, l3⟩ := impL_mono c h2
      exact ⟨k1.trans l1, fun b hb => l2 b (k2 b hb), fun hn => l3 (k3 hn)⟩
    · simp at e
  | .nilfn, s, s', x', e => by simp [imp] at e; obtain ⟨_, rfl⟩ := e; exact ⟨List.prefix_refl _, fun _ h => h, id⟩
  | .iface t v, s, s', x', e => by
    simp only [imp, Option.map_eq_some_iff, Prod.mk.injEq] at e
    obtain ⟨⟨v', s1⟩, h1, _, rfl⟩ := e
    exact imp_mono v h1
  | .niliface, s, s', x', e => by simp [imp] at e; obtain ⟨_, rfl⟩ := e; exact ⟨List.prefix_refl _, fun _ h => h, id⟩
  | .map b, s, s', x', e => by
    simp only [imp, Option.some.injEq, Prod.mk.injEq] at e; obtain ⟨_, rfl⟩ := e
    obtain ⟨h1, h2, h3, h4⟩ := s.ext_spec b
    exact ⟨h1, by rw [h2]; exact fun _ h => h, h4⟩
  | .nilmap, s, s', x', e => by simp [imp] at e; obtain ⟨_, rfl⟩ := e; exact ⟨List.prefix_refl _, fun _ h => h, id⟩
  | .agg cs, s, s', x', e => by
    simp only [imp, Option.map_eq_some_iff, Prod.mk.injEq] at e
    obtain ⟨⟨v', s1⟩, h1, _, rfl⟩ := e
    exact impL_mono cs h1
  | .tup cs, s, s', x', e => by
    simp only [imp, Option.map_eq_some_iff, Prod.mk.injEq] at e
    obtain ⟨⟨v', s1⟩, h1, _, rfl⟩ := e
    exact impL_mono cs h1
theorem impL_mono {h : Heap} {base : Nat} : ∀ (l : List DV) {s s' : Imp} {l' : List DV}, impL h base l s = some (l', s') -> s.exts <+: s'.exts /\ (∀ b ∈ s.views, b ∈ s'.views) /\ (s.exts.Nodup -> s'.exts.Nodup)
  | [], s, s', l', e => by simp [impL] at e; obtain ⟨_, rfl⟩ := e; exact ⟨List.prefix_refl _, fun _ h => h, id⟩
  | x :: l, s, s', l', e => by
    simp only [impL] at e
    split at e
    · rename_i v' s1 h1
      simp only [Option.map_eq_some_iff, Prod.mk.injEq] at e
      obtain ⟨⟨c', s2⟩, h2, _, rfl⟩ := e
      obtain ⟨k1, k2, k3⟩ := imp_mono x h1
      obtain ⟨l1, l2, l3⟩ := impL_mono l h2
      exact ⟨k1.trans l1, fun b hb => l2 b (k2 b hb), fun hn => l3 (k3 hn)⟩
    · simp at e
end
def ViewsOK (h : Heap) (l : List Nat) : Prop := ∀ b ∈ l, ∃ n es, hget h b = some (.row n es)
theorem viewRow_row {h : Heap} {b n off len : Nat} {v : DV} (e : viewRow h b n off len = some v) : ∃ es, hget h b = some (.row n es) /\ off + len <= es.length /\ v = .psl n ((es.drop off).take len) := by
  unfold viewRow at e
  split at e
  · rename_i m es hh
    split at e
    · rename_i hc
      obtain ⟨rfl, hl⟩ := hc
      simp only [Option.some.injEq] at e
      exact ⟨es, hh, hl, e.symm⟩
    · simp at e
  · simp at e
mutual
theorem imp_views {h : Heap} {base : Nat} : ∀ (x : DV) {s s' : Imp} {x' : DV}, imp h base x s = some (x', s') -> ViewsOK h s.views -> ViewsOK h s'.views
  | .any, s, s', x', e, hv => by simp [imp] at e
  | .unk, s, s', x', e, hv => by simp [imp] at e
  | .bool _, s, s', x', e, hv => by simp [imp] at e; obtain ⟨_, rfl⟩ := e; exact hv
  | .int _ _, s, s', x', e, hv => by simp [imp] at e; obtain ⟨_, rfl⟩ := e; exact hv
  | .str _, s, s', x', e, hv => by simp [imp] at e; obtain ⟨_, rfl⟩ := e; exact hv
  | .nilptr, s, s', x', e, hv => by simp [imp] at e; obtain ⟨_, rfl⟩ := e; exact hv
  | .ptr b n i off, s, s', x', e, hv => by
    simp only [imp] at e
    split at e
    · simp only [Option.some.injEq, Prod.mk.injEq] at e; obtain ⟨_, rfl⟩ := e
      rw [(s.ext_spec b).2.1]; exact hv
    · simp at e
  | .eptr _ _ _ _, s, s', x', e, hv => by simp [imp] at e; obtain ⟨_, rfl⟩ := e; exact hv
  | .gptr _ _, s, s', x', e, hv => by simp [imp] at e; obtain ⟨_, rfl⟩ := e; exact hv
  | .nilsl, s, s', x', e, hv => by simp [imp] at e; obtain ⟨_, rfl⟩ := e; exact hv
  | .rsl b n off len, s, s', x', e, hv => by
    simp only [imp, Option.map_eq_some_iff, Prod.mk.injEq] at e
    obtain ⟨v, hv', _, rfl⟩ := e
    intro b' hb'
    rcases List.mem_cons.1 hb' with rfl | hb'
    · obtain ⟨es, k, _⟩ := viewRow_row hv'
      exact ⟨_, _, k⟩
    · exact hv b' hb'
  | .psl _ _, s, s', x', e, hv => by simp [imp] at e; obtain ⟨_, rfl⟩ := e; exact hv
  | .fn f a c, s, s', x', e, hv => by
    simp only [imp] at e
    split at e
    · rename_i a' s1 h1
      simp only [Option.map_eq_some_iff, Prod.mk.injEq] at e
      obtain ⟨⟨c', s2⟩, h2, _, rfl⟩ := e
      exact impL_views c h2 (impL_views a h1 hv)
    · simp at e
  | .nilfn, s, s', x', e, hv => by simp [imp] at e; obtain ⟨_, rfl⟩ := e; exact hv
  | .iface t v, s, s', x', e, hv => by
    simp only [imp, Option.map_eq_some_iff, Prod.mk.injEq] at e
    obtain ⟨⟨v', s1⟩, h1, _, rfl⟩ := e
    exact imp_views v h1 hv
  | .niliface, s, s', x', e, hv => by simp [imp] at e; obtain ⟨_, rfl⟩ := e; exact hv
  | .map b, s, s', x', e, hv => by
    simp only [imp, Option.some.injEq, Prod.mk.injEq] at e; obtain ⟨_, rfl⟩ := e
    rw [(s.ext_spec b).2.1]; exact hv
  | .nilmap, s, s', x', e, hv => by simp [imp] at e; obtain ⟨_, rfl⟩ := e; exact hv
  | .agg cs, s, s', x', e, hv => by
    simp only [imp, Option.map_eq_some_iff, Prod.mk.injEq] at e
    obtain ⟨⟨v', s1⟩, h1, _, rfl⟩ := e
    exact impL_views cs h1 hv
  | .tup cs, s, s', x', e, hv => by
    simp only [imp, Option.map_eq_some_iff, Prod.mk.injEq] at e
    obtain ⟨⟨v', s1⟩, h1, _, rfl⟩ := e
    exact impL_views cs h1 hv
theorem impL_views {h : Heap} {base : Nat} : ∀ (l : List DV) {s s' : Imp} {l' : List DV}, impL h base l s = some (l', s') -> ViewsOK h s.views -> ViewsOK h s'.views
  | [], s, s', l', e, hv => by simp [impL] at e; obtain ⟨_, rfl⟩ := e; exact hv
  | x :: l, s, s', l', e, hv => by
    simp only [impL] at e
    split at e
    · rename_i v' s1 h1
      simp only [Option.map_eq_some_iff, Prod.mk.injEq] at e
      obtain ⟨⟨c', s2⟩, h2, _, rfl⟩ := e
      exact impL_views l h2 (imp_views x h1 hv)
    · simp at e
end
def ExtR (ρ ρc : Rho) (base : Nat) (exts : List Nat) : Prop := ∀ j b, exts[j]? = some b -> ∃ p, ρ b = some p /\ ρc (base + j) = some p
theorem ExtR.of_prefix {ρ ρc : Rho} {base : Nat} {l E : List Nat} (h : ExtR ρ ρc base E) (hp : l <+: E) : ExtR ρ ρc base l := by
  intro j b hb
  obtain ⟨t, rfl⟩ := hp
  exact h j b (by rw [List.getElem?_append_left (List.getElem?_eq_some_iff.1 hb).1]; exact hb)
def Shows (ρ : Rho) (m : Ro) (h : Heap) (m' : Ro) (V : List Nat) : Prop :=
  ∀ b ∈ V, ∀ n off len v v', viewRow h b n off len = some v' -> VR ρ m (.rsl b n off len) v -> ∀ ρc, VR ρc m' v' v
section
variable {ρ ρc : Rho} {m m' : Ro} {h : Heap} {base : Nat} {E V : List Nat} (hm : Sub m m') (hE : ExtR ρ ρc base E) (hV : Shows ρ m h m' V)
include hm hE hV
mutual
theorem imp_ok : ∀ (x : DV) {s s' : Imp} {x' : DV} {v : Value}, imp h base x s = some (x', s') -> s'.exts <+: E -> (∀ b ∈ s'.views, b ∈ V) -> VR ρ m x v -> VR ρc m' x' v
  | .any, s, s', x', v, e, _, _, _ => by simp [imp] at e
  | .unk, s, s', x', v, e, _, _, _ => by simp [imp] at e
  | .bool _, s, s', x', v, e, _, _, r => by simp [imp] at e; obtain ⟨rfl, rfl⟩ := e; simpa [VR] using r
  | .int _ _, s, s', x', v, e, _, _, r => by simp [imp] at e; obtain ⟨rfl, rfl⟩ := e; simpa [VR] using r
  | .str _, s, s', x', v, e, _, _, r => by simp [imp] at e; obtain ⟨rfl, rfl⟩ := e; simpa [VR] using r
  | .nilptr, s, s', x', v, e, _, _, r => by simp [imp] at e; obtain ⟨rfl, rfl⟩ := e; simpa [VR] using r
  | .ptr b n i off, s, s', x', v, e, hx, _, r => by
    simp only [imp] at e
    split at e
    · rename_i hc
      obtain ⟨rfl, rfl⟩ := hc
      simp only [Option.some.injEq, Prod.mk.injEq] at e; obtain ⟨rfl, rfl⟩ := e
      obtain ⟨p, hp, hc⟩ := hE.of_prefix hx _ _ (s.ext_spec b).2.2.1
      simp only [VR] at r ⊢
      obtain ⟨p', hp', r⟩ := r
      rw [hp] at hp'; cases hp'
      exact ⟨p, hc, r⟩
    · simp at e
  | .eptr n es i off, s, s', x', v, e, _, _, r => by
    simp [imp] at e; obtain ⟨rfl, rfl⟩ := e
    have hr := VR.mono hm _ r
    refine VR.rho _ ?_ hr
    simp [DV.ments]
  | .gptr _ _, s, s', x', v, e, _, _, r => by simp [imp] at e; obtain ⟨rfl, rfl⟩ := e; simpa [VR] using r
  | .nilsl, s, s', x', v, e, _, _, r => by simp [imp] at e; obtain ⟨rfl, rfl⟩ := e; simpa [VR] using r
  | .rsl b n off len, s, s', x', v, e, _, hv, r => by
    simp only [imp, Option.map_eq_some_iff, Prod.mk.injEq] at e
    obtain ⟨v', hv', rfl, rfl⟩ := e
    exact hV b (hv b List.mem_cons_self) n off len v v' hv' r ρc
  | .psl n es, s, s', x', v, e, _, _, r => by
    simp [imp] at e; obtain ⟨rfl, rfl⟩ := e
    have hr := VR.mono hm _ r
    refine VR.rho _ ?_ hr
    simp [DV.ments]
  | .fn f a c, s, s', x', v, e, hx, hv, r => by
    simp only [imp] at e
    split at e
    · rename_i a' s1 h1
      simp only [Option.map_eq_some_iff, Prod.mk.injEq] at e
      obtain ⟨⟨c', s2⟩, h2, rfl, rfl⟩ := e
      obtain ⟨l1, l2, l3⟩ := impL_mono c h2
      simp only [VR] at r ⊢
      obtain ⟨a1, c1, rfl, r1, r2⟩ := r
      exact ⟨a1, c1, rfl, impL_ok a h1 (l1.trans hx) (fun b hb => hv b (l2 b hb)) r1, impL_ok c h2 hx hv r2⟩
    · simp at e
  | .nilfn, s, s', x', v, e, _, _, r => by simp [imp] at e; obtain ⟨rfl, rfl⟩ := e; simpa [VR] using r
  | .iface t x, s, s', x', v, e, hx, hv, r => by
    simp only [imp, Option.map_eq_some_iff, Prod.mk.injEq] at e
    obtain ⟨⟨v', s1⟩, h1, rfl, rfl⟩ := e
    simp only [VR] at r ⊢
    obtain ⟨y, rfl, r⟩ := r
    exact ⟨y, rfl, imp_ok x h1 hx hv r⟩
  | .niliface, s, s', x', v, e, _, _, r => by simp [imp] at e; obtain ⟨rfl, rfl⟩ := e; simpa [VR] using r
  | .map b, s, s', x', v, e, hx, _, r => by
    simp only [imp, Option.some.injEq, Prod.mk.injEq] at e; obtain ⟨rfl, rfl⟩ := e
    obtain ⟨p, hp, hc⟩ := hE.of_prefix hx _ _ (s.ext_spec b).2.2.1
    simp only [VR] at r ⊢
    obtain ⟨p', hp', r⟩ := r
    rw [hp] at hp'; cases hp'
    exact ⟨p, hc, r⟩
  | .nilmap, s, s', x', v, e, _, _, r => by simp [imp] at e; obtain ⟨rfl, rfl⟩ := e; simpa [VR] using r
  | .agg cs, s, s', x', v, e, hx, hv, r => by
    simp only [imp, Option.map_eq_some_iff, Prod.mk.injEq] at e
    obtain ⟨⟨v', s1⟩, h1, rfl, rfl⟩ := e
    simp only [VR] at r ⊢
    obtain ⟨y, rfl, r, r2⟩ := r
    exact ⟨y, rfl, impL_ok cs h1 hx hv r, r2⟩
  | .tup cs, s, s', x', v, e, hx, hv, r => by
    simp only [imp, Option.map_eq_some_iff, Prod.mk.injEq] at e
    obtain ⟨⟨v', s1⟩, h1, rfl, rfl⟩ := e
    simp only [VR] at r ⊢
    obtain ⟨y, rfl, r⟩ := r
    exact ⟨y, rfl, impL_ok cs h1 hx hv r⟩
theorem impL_ok : ∀ (l : List DV) {s s' : Imp} {l' : List DV} {vs : List Value}, impL h base l s = some (l', s') -> s'.exts <+: E -> (∀ b ∈ s'.views, b ∈ V) -> VRL ρ m l vs -> VRL ρc m' l' vs
  | [], s, s', l', vs, e, _, _, r => by have _ := hm; have _ := hE; have _ := hV; simp [impL] at e; obtain ⟨rfl, rfl⟩ := e; simpa [VRL] using r
  | x :: l, s, s', l', vs, e, hx, hv, r => by
    simp only [impL] at e
    split at e
    · rename_i v' s1 h1
      simp only [Option.map_eq_some_iff, Prod.mk.injEq] at e
      obtain ⟨⟨c', s2⟩, h2, rfl, rfl⟩ := e
      obtain ⟨l1, l2, l3⟩ := impL_mono l h2
      simp only [VRL] at r
      obtain ⟨u, t, rfl, r1, r2⟩ := r
      exact VRL.cons (imp_ok x h1 (l1.trans hx) (fun b hb => hv b (l2 b hb)) r1) (impL_ok l h2 hx hv r2)
    · simp at e
end
end
section
variable {ρ : Rho} {m m' : Ro} {h : Heap} {V : List Nat} (hm : Sub m m') (hV : Shows ρ m h m' V)
include hm hV
mutual
theorem sealV_ok : ∀ (x : DV) {x' : DV} {v : Value}, sealV h x = some x' -> (∀ b ∈ x.ments, b ∈ V) -> VR ρ m x v -> ∀ ρc, VR ρc m' x' v
  | .any, x', v, e, _, _, ρc => by simp [sealV] at e
  | .unk, x', v, e, _, _, ρc => by simp [sealV] at e
  | .bool _, x', v, e, _, r, ρc => by simp [sealV] at e; subst e; simpa [VR] using r
  | .int _ _, x', v, e, _, r, ρc => by simp [sealV] at e; subst e; simpa [VR] using r
  | .str _, x', v, e, _, r, ρc => by simp [sealV] at e; subst e; simpa [VR] using r
  | .nilptr, x', v, e, _, r, ρc => by simp [sealV] at e; subst e; simpa [VR] using r
  | .ptr b n i off, x', v, e, _, _, ρc => by simp [sealV] at e
  | .eptr n es i off, x', v, e, _, r, ρc => by
    simp [sealV] at e; subst e
    exact VR.rho _ (by simp [DV.ments]) (VR.mono hm _ r)
  | .gptr _ _, x', v, e, _, r, ρc => by simp [sealV] at e; subst e; simpa [VR] using r
  | .nilsl, x', v, e, _, r, ρc => by simp [sealV] at e; subst e; simpa [VR] using r
  | .rsl b n off len, x', v, e, hv, r, ρc => by
    simp only [sealV] at e
    exact hV b (hv b (by simp [DV.ments])) n off len v x' e r ρc
  | .psl n es, x', v, e, _, r, ρc => by
    simp [sealV] at e; subst e
    exact VR.rho _ (by simp [DV.ments]) (VR.mono hm _ r)
  | .fn f a c, x', v, e, hv, r, ρc => by
    simp only [sealV] at e
    split at e
    · rename_i a' c' h1 h2
      simp only [Option.some.injEq] at e; subst e
      simp only [VR] at r ⊢
      obtain ⟨a1, c1, rfl, r1, r2⟩ := r
      exact ⟨a1, c1, rfl, sealL_ok a h1 (fun b hb => hv b (by simp [DV.ments, hb])) r1 ρc, sealL_ok c h2 (fun b hb => hv b (by simp [DV.ments, hb])) r2 ρc⟩
    · simp at e
  | .nilfn, x', v, e, _, r, ρc => by simp [sealV] at e; subst e; simpa [VR] using r
  | .iface t x, x', v, e, hv, r, ρc => by
    simp only [sealV, Option.map_eq_some_iff] at e
    obtain ⟨y, h1, rfl⟩ := e
    simp only [VR] at r ⊢
    obtain ⟨z, rfl, r⟩ := r
    exact ⟨z, rfl, sealV_ok x h1 (fun b hb => hv b (by simpa [DV.ments] using hb)) r ρc⟩
  | .niliface, x', v, e, _, r, ρc => by simp [sealV] at e; subst e; simpa [VR] using r
  | .map b, x', v, e, _, _, ρc => by simp [sealV] at e
  | .nilmap, x', v, e, _, r, ρc => by simp [sealV] at e; subst e; simpa [VR] using r
  | .agg cs, x', v, e, hv, r, ρc => by
    simp only [sealV, Option.map_eq_some_iff] at e
    obtain ⟨y, h1, rfl⟩ := e
    simp only [VR] at r ⊢
    obtain ⟨z, rfl, r, r2⟩ := r
    exact ⟨z, rfl, sealL_ok cs h1 (fun b hb => hv b (by simpa [DV.ments] using hb)) r ρc, r2⟩
  | .tup cs, x', v, e, hv, r, ρc => by
    simp only [sealV, Option.map_eq_some_iff] at e
    obtain ⟨y, h1, rfl⟩ := e
    simp only [VR] at r ⊢
    obtain ⟨z, rfl, r⟩ := r
    exact ⟨z, rfl, sealL_ok cs h1 (fun b hb => hv b (by simpa [DV.ments] using hb)) r ρc⟩
theorem sealL_ok : ∀ (l : List DV) {l' : List DV} {vs : List Value}, sealL h l = some l' -> (∀ b ∈ mentsL l, b ∈ V) -> VRL ρ m l vs -> ∀ ρc, VRL ρc m' l' vs
  | [], l', vs, e, _, r, ρc => by have _ := hm; have _ := hV; simp [sealL] at e; subst e; simpa [VRL] using r
  | x :: l, l', vs, e, hv, r, ρc => by
    simp only [sealL] at e
    split at e
    · rename_i y k h1 h2
      simp only [Option.some.injEq] at e; subst e
      simp only [VRL] at r
      obtain ⟨u, t, rfl, r1, r2⟩ := r
      exact VRL.cons (sealV_ok x h1 (fun b hb => hv b (by simp [mentsL, hb])) r1 ρc) (sealL_ok l h2 (fun b hb => hv b (by simp [mentsL, hb])) r2 ρc)
    · simp at e
end
end
mutual
theorem sealV_ments {h : Heap} : ∀ (x : DV) {x' : DV}, sealV h x = some x' -> x'.ments = [] /\ ViewsOK h x.ments
  | .any, x', e => by simp [sealV] at e
  | .unk, x', e => by simp [sealV] at e
  | .bool _, x', e => by simp [sealV] at e; subst e; simp [DV.ments, ViewsOK]
  | .int _ _, x', e => by simp [sealV] at e; subst e; simp [DV.ments, ViewsOK]
  | .str _, x', e => by simp [sealV] at e; subst e; simp [DV.ments, ViewsOK]
  | .nilptr, x', e => by simp [sealV] at e; subst e; simp [DV.ments, ViewsOK]
  | .ptr b n i off, x', e => by simp [sealV] at e
  | .eptr n es i off, x', e => by simp [sealV] at e; subst e; simp [DV.ments, ViewsOK]
  | .gptr _ _, x', e => by simp [sealV] at e; subst e; simp [DV.ments, ViewsOK]
  | .nilsl, x', e => by simp [sealV] at e; subst e; simp [DV.ments, ViewsOK]
  | .rsl b n off len, x', e => by
    simp only [sealV] at e
    obtain ⟨es, k1, k2, rfl⟩ := viewRow_row e
    simp only [DV.ments, true_and]
    intro b' hb'
    simp at hb'; subst hb'
    exact ⟨_, _, k1⟩
  | .psl n es, x', e => by simp [sealV] at e; subst e; simp [DV.ments, ViewsOK]
  | .fn f a c, x', e => by
    simp only [sealV] at e
    split at e
    · rename_i a' c' h1 h2
      simp only [Option.some.injEq] at e; subst e
      obtain ⟨k1, k2⟩ := sealL_ments a h1
      obtain ⟨l1, l2⟩ := sealL_ments c h2
      simp only [DV.ments, k1, l1, List.append_nil, true_and]
      intro b hb
      rcases List.mem_append.1 hb with hb | hb
      · exact k2 b hb
      · exact l2 b hb
    · simp at e
  | .nilfn, x', e => by simp [sealV] at e; subst e; simp [DV.ments, ViewsOK]
  | .iface t x, x', e => by
    simp only [sealV, Option.map_eq_some_iff] at e
    obtain ⟨y, h1, rfl⟩ := e
    simpa [DV.ments] using sealV_ments x h1
  | .niliface, x', e => by simp [sealV] at e; subst e; simp [DV.ments, ViewsOK]
  | .map b, x', e => by simp [sealV] at e
  | .nilmap, x', e => by simp [sealV] at e; subst e; simp [DV.ments, ViewsOK]
  | .agg cs, x', e => by
    simp only [sealV, Option.map_eq_some_iff] at e
    obtain ⟨y, h1, rfl⟩ := e
    simpa [DV.ments] using sealL_ments cs h1
  | .tup cs, x', e => by
    simp only [sealV, Option.map_eq_some_iff] at e
    obtain ⟨y, h1, rfl⟩ := e
    simpa [DV.ments] using sealL_ments cs h1
theorem sealL_ments {h : Heap} : ∀ (l : List DV) {l' : List DV}, sealL h l = some l' -> mentsL l' = [] /\ ViewsOK h (mentsL l)
  | [], l', e => by simp [sealL] at e; subst e; simp [mentsL, ViewsOK]
  | x :: l, l', e => by
    simp only [sealL] at e
    split at e
    · rename_i y k h1 h2
      simp only [Option.some.injEq] at e; subst e
      obtain ⟨k1, k2⟩ := sealV_ments x h1
      obtain ⟨l1, l2⟩ := sealL_ments l h2
      simp only [mentsL, k1, l1, List.append_nil, true_and]
      intro b hb
      rcases List.mem_append.1 hb with hb | hb
      · exact k2 b hb
      · exact l2 b hb
    · simp at e
end
end Go.Det
end

section
namespace Go.Det
def viewC (ρ : Rho) (w : World) (m : Ro) : List Nat -> Nat -> Option (Array Value)
  | [] => m
  | b :: l => fun r =>
    match ρ b with
    | some p => if r = p.blk then (match w.heap[p.blk]? with | some (.cells c _ _) => some c | _ => viewC ρ w m l r) else viewC ρ w m l r
    | none => viewC ρ w m l r
def viewM (ρ : Rho) (w : World) (m : Ro) (V : List Nat) : Ro := ⟨viewC ρ w m V, m.o⟩
structure RoOK (m : Ro) (w : World) : Prop where
  cells : ∀ r c, m r = some c -> ∃ el fr, w.heap[r]? = some (.cells c el fr)
  oth : ∀ r x, m.o r = some x -> w.heap[r]? = some x /\ isCellsO x = false
section
variable {ρ : Rho} {m : Ro} {L : List Nat} {N : Nat} {h : Heap} {w : World}
theorem viewM_old (i : Inv ρ m L N h w) : ∀ {V : List Nat}, ViewsOK h V -> Grows N m (viewM ρ w m V) /\ RoOK (viewM ρ w m V) w /\
    (∀ b ∈ V, ∀ p, ρ b = some p -> ∃ c el fr, w.heap[p.blk]? = some (.cells c el fr) /\ viewM ρ w m V p.blk = some c) /\
    (∀ r, (∀ b ∈ V, ∀ p, ρ b = some p -> p.blk ≠ r) -> viewM ρ w m V r = m r)
  | [], _ => ⟨Grows.refl _ _, ⟨i.ro, i.oth⟩, by simp, fun _ _ => rfl⟩
  | b :: V, hV => by
    obtain ⟨g, ro, k1, k2⟩ := viewM_old i (V := V) (fun b hb => hV b (List.mem_cons_of_mem _ hb))
    obtain ⟨n, es, hh⟩ := hV b List.mem_cons_self
    obtain ⟨p, hp, hB, hm, _, hN⟩ := i.blk b _ hh
    have hN := hN rfl
    have hB' := hB
    simp only [BR] at hB'
    obtain ⟨c, el, fr, hw, _⟩ := hB'
    have e1 : ∀ r, viewM ρ w m (b :: V) r = if r = p.blk then some c else viewM ρ w m V r := by
      intro r
      simp only [viewM, viewC, hp, hw]
    refine ⟨⟨fun r x hx => ?_, fun r hr => ?_, fun _ _ h => h⟩, ⟨fun r x hx => ?_, i.oth⟩, fun b' hb' p' hp' => ?_, fun r hr => ?_⟩
    · rw [e1]
      split
      · rename_i hr; subst hr; rw [hm] at hx; cases hx
      · exact g.1 _ _ hx
    · rw [e1, if_neg (by omega)]; exact g.2 r hr
    · rw [e1] at hx
      split at hx
      · rename_i hr; subst hr; cases hx; exact ⟨el, fr, hw⟩
      · exact ro.1 _ _ hx
    · rcases List.mem_cons.1 hb' with rfl | hb'
      · rw [hp] at hp'; cases hp'
        exact ⟨c, el, fr, hw, by rw [e1]; simp⟩
      · obtain ⟨c', el', fr', q1, q2⟩ := k1 b' hb' p' hp'
        refine ⟨c', el', fr', q1, ?_⟩
        rw [e1]
        split
        · rename_i hr; rw [hr] at q1; rw [hw] at q1; cases q1; rfl
        · exact q2
    · rw [e1, if_neg (fun e => hr b List.mem_cons_self p hp e.symm)]
      exact k2 r fun b' hb' => hr b' (List.mem_cons_of_mem _ hb')
theorem viewM_shows (i : Inv ρ m L N h w) {V : List Nat} (hV : ViewsOK h V) {m' : Ro} (hs : Sub (viewM ρ w m V) m') : Shows ρ m h m' V := by
  intro b hb n off len v v' hv r ρc
  obtain ⟨g, ro, k1, k2⟩ := viewM_old i hV
  obtain ⟨es, hh, hl, rfl⟩ := viewRow_row hv
  obtain ⟨p, hp, hB, hm, _, hN⟩ := i.blk b _ hh
  obtain ⟨c, el, fr, q1, q2⟩ := k1 b hb p hp
  simp only [BR] at hB
  obtain ⟨c', el', fr', b1, b2, b3, b4, b5, b6, b7⟩ := hB
  rw [q1] at b1; cases b1
  simp only [VR] at r ⊢
  obtain ⟨p', cap, r1, r2, r3, rfl⟩ := r
  rw [hp] at r1; cases r1
  have hlen : ((es.drop off).take len).length = len := by simp; omega
  refine ⟨_, cap, by rw [hlen]; exact r2, by rw [hlen], mentsL_take len (mentsL_drop off b6), .inr ⟨p.blk, p.base + off * n, c, hs _ _ q2, rfl, ?_⟩⟩
  have := VRE.take len (VRE.drop off (VRE.mono (g.1.trans hs) _ b7))
  exact VRE.rho _ (by rw [mentsL_take len (mentsL_drop off b6)]; simp) this
end
structure ExtOK (m : Ro) (w : World) (base : Nat) (ρ : Rho) (ex : List Blk) (blks : List Nat) : Prop where
  len : blks.length = ex.length
  nodup : blks.Nodup
  at_ : ∀ j x, ex[j]? = some x -> ∃ p, ρ (base + j) = some p /\ blks[j]? = some p.blk /\ BR ρ m w p x /\ m p.blk = none /\ ∃ cs, x = .box cs /\ mentsL cs = []
theorem BR.box {ρ ρ' : Rho} {m m' : Ro} {w w' : World} {p : Loc} {cs cs' : List DV} (h : BR ρ m w p (.box cs)) (hw : w'.heap[p.blk]? = w.heap[p.blk]?) (hl : ∀ vs, VRL ρ m cs vs -> VRL ρ' m' cs' vs) : BR ρ' m' w' p (.box cs') := by
  simp only [BR] at h ⊢
  obtain ⟨c, el, fr, h1, h2, h3, h4, h5, h6⟩ := h
  exact ⟨c, el, fr, hw.trans h1, h2, h3, h4, hl _ h5, h6⟩
theorem outB_spec {h : Heap} : ∀ {l : List Nat} {ex : List Blk} {vs : List Nat}, outB h l = some (ex, vs) -> 
    ex.length = l.length /\ (∀ (j : Nat) (b : Nat), l[j]? = some b -> ∃ cs cs', hget h b = some (Blk.box cs) /\ sealL h cs = some cs' /\ ex[j]? = some (Blk.box cs') /\ ∀ b' ∈ mentsL cs, b' ∈ vs) /\ ViewsOK h vs
  | [], ex, vs, e => by simp [outB] at e; obtain ⟨rfl, rfl⟩ := e; exact ⟨rfl, by simp, by simp [ViewsOK]⟩
  | b :: l, ex, vs, e => by
    unfold outB at e
    split at e
    · rename_i cs hh
      split at e
      · rename_i cs' r vs' h1 h2
        simp only [Option.some.injEq, Prod.mk.injEq] at e
        obtain ⟨rfl, rfl⟩ := e
        obtain ⟨k1, k2, k3⟩ := outB_spec h2
        refine ⟨by simp [k1], fun j b' hb' => ?_, fun b' hb' => ?_⟩
        · cases j with
          | zero =>
            simp at hb'; subst hb'
            exact ⟨cs, cs', hh, h1, rfl, fun x hx => List.mem_append_left _ hx⟩
          | succ j =>
            simp at hb'
            obtain ⟨c1, c2, q1, q2, q3, q4⟩ := k2 j b' hb'
            exact ⟨c1, c2, q1, q2, by simpa using q3, fun x hx => List.mem_append_right _ (q4 x hx)⟩
        · rcases List.mem_append.1 hb' with hb' | hb'
          · exact (sealL_ments cs h1).2 b' hb'
          · exact k3 b' hb'
      · simp at e
    · simp at e
def CallOK (P : Program) (C : Cfg) (g : Nat) (xs : List DV) (ex : List Blk) (r : DV) (ex' : List Blk) : Prop :=
  r.ments = [] /\ ex'.length = ex.length /\
  ∀ (ρ : Rho) (m : Ro) (w : World) (vals : Array Value) (blks : List Nat), GlobOK C m -> RoOK m w -> VRL ρ m xs vals.toList -> ExtOK m w (baseOf C g) ρ ex blks -> 
    Calls P g vals w fun e w' => ∃ v' m', e = .returned v' /\ VR ρ m' r v' /\ ExtOK m' w' (baseOf C g) ρ ex' blks /\ RoOK m' w' /\ Grows w.heap.size m m' /\ Evo blks w w'
def callIn (C : Cfg) (h : Heap) (g : Nat) (xs : List DV) : Option (List DV × List Blk) :=
  match impL h (baseOf C g) xs {} with
  | none => none
  | some (xs', s) => match outB h s.exts with
    | none => none
    | some (ex, _) => some (xs', ex)
def callOut (C : Cfg) (h : Heap) (dst : Option Nat) (g : Nat) (xs : List DV) (r : DV) (ex' : List Blk) : Option Out :=
  callOp C (fun _ _ _ => some (r, ex')) h dst g xs
theorem setAll_get : ∀ (δ : List (Nat × Option Blk)) (h : Heap) (b : Nat), (∀ x ∈ δ, x.1 ≠ b) -> hget (setAll h δ) b = hget h b
  | [], h, b, _ => rfl
  | (b', x) :: δ, h, b, hn => by
    simp only [setAll]
    rw [setAll_get δ _ b fun y hy => hn y (List.mem_cons_of_mem _ hy), hget_set, if_neg]
    intro e; exact hn _ List.mem_cons_self e.symm
theorem setAll_append (h : Heap) (a b : List (Nat × Option Blk)) : setAll h (a ++ b) = setAll (setAll h a) b := by
  induction a generalizing h with
  | nil => rfl
  | cons x a ih => simp only [List.cons_append, setAll]; exact ih _
theorem setNone_get : ∀ (V : List Nat) (h : Heap) (b : Nat), hget (setAll h (V.map fun b => (b, none))) b = if b ∈ V then none else hget h b
  | [], h, b => by simp [setAll]
  | v :: V, h, b => by
    simp only [List.map_cons, setAll]
    rw [setNone_get V, hget_set]
    by_cases h1 : b ∈ V
    · simp [h1]
    · by_cases h2 : b = v
      · subst h2; simp [h1]
      · simp [h1, h2]
theorem backs_get : ∀ {l : List Nat} {ex : List Blk} (h : Heap) (b : Nat) (x : Blk), ex.length = l.length -> l.Nodup -> (∀ b ∈ l, b < h.length) -> hget (setAll h (backs l ex)) b = some x -> 
    (b ∉ l /\ hget h b = some x) \/ ∃ j : Nat, l[j]? = some b /\ ex[j]? = some x
  | [], ex, h, b, x, _, _, _, e => by
    cases ex <;> exact .inl ⟨by simp, by simpa [backs, setAll] using e⟩
  | c :: l, [], h, b, x, hl, _, _, e => by simp at hl
  | c :: l, y :: ex, h, b, x, hl, hn, hb, e => by
    simp only [backs, setAll] at e
    simp only [List.nodup_cons] at hn
    rcases backs_get (h.set c (some y)) b x (by simpa using hl) hn.2 (by simpa using fun b' hb' => hb b' (List.mem_cons_of_mem _ hb')) e with ⟨h1, h2⟩ | ⟨j, h1, h2⟩
    · rw [hget_set] at h2
      split at h2
      · rename_i hbc; subst hbc
        rw [if_pos (hb b List.mem_cons_self)] at h2
        exact .inr ⟨0, rfl, h2⟩
      · rename_i hbc
        exact .inl ⟨by simp [hbc, h1], h2⟩
    · exact .inr ⟨j + 1, by simpa using h1, by simpa using h2⟩
end Go.Det
end

section
namespace Go.Det
mutual
theorem VR.noPsl {ρ : Rho} {m m' : Ro} : ∀ (x : DV) {v : Value}, x.noPsl = true -> VR ρ m x v -> VR ρ m' x v
  | .any, _, _, h => h
  | .unk, _, _, h => h
  | .bool _, _, _, h => h
  | .int _ _, _, _, h => h
  | .str _, _, _, h => h
  | .nilptr, _, _, h => h
  | .ptr _ _ _ _, _, _, h => h
  | .eptr n es i off, _, hn, h => by simp [DV.noPsl] at hn
  | .gptr _ _, _, _, h => h
  | .nilsl, _, _, h => h
  | .rsl _ _ _ _, _, _, h => h
  | .psl n es, _, hn, h => by simp [DV.noPsl] at hn
  | .fn f a c, _, hn, h => by
    simp only [DV.noPsl, Bool.and_eq_true] at hn
    simp only [VR] at h ⊢
    obtain ⟨a', c', h1, h2, h3⟩ := h
    exact ⟨a', c', h1, VRL.noPsl a hn.1 h2, VRL.noPsl c hn.2 h3⟩
  | .nilfn, _, _, h => h
  | .iface t x, _, hn, h => by
    simp only [DV.noPsl] at hn
    simp only [VR] at h ⊢
    obtain ⟨x', h1, h2⟩ := h
    exact ⟨x', h1, VR.noPsl x hn h2⟩
  | .niliface, _, _, h => h
  | .map _, _, _, h => h
  | .nilmap, _, _, h => h
  | .agg cs, _, hn, h => by
    simp only [DV.noPsl] at hn
    simp only [VR] at h ⊢
    obtain ⟨vs, h1, h2, h3⟩ := h
    exact ⟨vs, h1, VRL.noPsl cs hn h2, h3⟩
  | .tup cs, _, hn, h => by
    simp only [DV.noPsl] at hn
    simp only [VR] at h ⊢
    obtain ⟨vs, h1, h2⟩ := h
    exact ⟨vs, h1, VRL.noPsl cs hn h2⟩
theorem VRL.noPsl {ρ : Rho} {m m' : Ro} : ∀ (l : List DV) {vs : List Value}, noPslL l = true -> VRL ρ m l vs -> VRL ρ m' l vs
  | [], _, _, h => h
  | x :: l, _, hn, h => by
    simp only [noPslL, Bool.and_eq_true] at hn
    simp only [VRL] at h ⊢
    obtain ⟨v, r, h1, h2, h3⟩ := h
    exact ⟨v, r, h1, VR.noPsl x hn.1 h2, VRL.noPsl l hn.2 h3⟩
end
theorem setAll_length (δ : List (Nat × Option Blk)) : ∀ h : Heap, (setAll h δ).length = h.length := by
  induction δ with
  | nil => intro h; rfl
  | cons x δ ih => intro h; simp [setAll, ih]
theorem hget_lt {h : Heap} {b : Nat} {x : Blk} (e : hget h b = some x) : b < h.length := by
  unfold hget at e
  rcases Nat.lt_or_ge b h.length with k | k
  · exact k
  · rw [List.getElem?_eq_none_iff.2 k] at e; simp at e
def OwnOK (P : Program) (C : Cfg) (g : Nat) (xs : List DV) (r : DV) : Prop :=
  r.ments = [] /\
  ∀ (ρ : Rho) (m : Ro) (w : World) (vals : Array Value), GlobOK C m -> RoOK m w -> VRL ρ m xs vals.toList -> 
    Calls P g vals w fun e w' => ∃ v' m', e = .returned v' /\ RoOK m' w' /\ Grows w.heap.size m m' /\ Evo [] w w' /\
      match r with
      | .psl n (x :: es) => ∃ p cap, (x :: es).length <= cap /\ p.base + cap * n <= p.size /\ v' = .slice (some ⟨p.blk, p.base, none⟩) (x :: es).length cap /\
          BR ρ m' w' p (.row n (x :: es)) /\ m' p.blk = none /\ w.heap.size <= p.blk
      | r => VR ρ m' r v'
section
variable {P : Program} {C : Cfg} {ρ : Rho} {m : Ro} {L : List Nat} {h : Heap} {w0 w : World}
theorem after_call (i : Inv ρ m L w0.heap.size h w) (ev : Evo L w0 w) {V exts φ : List Nat} {ex' : List Blk} {ρ' ρc : Rho} {bs : Nat} {blks : List Nat} {m' : Ro} {w' : World} {H : Heap}
    (hV : ViewsOK h V) (hE : ExtR ρ ρc bs exts) (hb : ∀ b ∈ exts, ∃ cs, hget h b = some (.box cs))
    (hblk : ∀ (j b : Nat) (p : Loc), exts[j]? = some b -> ρ b = some p -> blks[j]? = some p.blk) (hbl : blks.length = exts.length)
    (hρ : ∀ b, b ∉ φ -> ρ b = ρ' b)
    (hH : ∀ b x, hget H b = some x -> ρ' b = ρ b /\ ((b ∉ exts /\ b ∉ V /\ ∃ y, hget h b = some y /\ x = y.forget φ) \/ ∃ j : Nat, exts[j]? = some b /\ ex'[j]? = some x))
    (k : ExtOK m' w' bs ρc ex' blks) (ro : RoOK m' w') (g : Grows w.heap.size (viewM ρ w m V) m') (e : Evo blks w w') :
    Inv ρ' m' L w0.heap.size H w' /\ Evo L w0 w' /\ Grows w0.heap.size m m' /\ ∀ b x p, hget H b = some x -> ρ' b = some p -> p.blk < w.heap.size := by
  obtain ⟨g1, ro1, k1, k2⟩ := viewM_old i hV
  have old : ∀ b x, hget H b = some x -> ∃ y, hget h b = some y /\ y.isRow = x.isRow := by
    intro b x hx
    rcases hH b x hx with ⟨_, ⟨_, _, y, hy, rfl⟩ | ⟨j, hj, hj'⟩⟩
    · exact ⟨y, hy, (Blk.isRow_forget φ y).symm⟩
    · obtain ⟨cs, hc⟩ := hb b (List.mem_of_getElem? hj)
      obtain ⟨p, _, _, _, _, cs', rfl, _⟩ := k.at_ j x hj'
      exact ⟨_, hc, rfl⟩
  have hN : w0.heap.size <= w.heap.size := ev.size
  have hblks : ∀ r ∈ blks, ∃ (j b : Nat) (p : Loc) (cs : List DV), exts[j]? = some b /\ ρ b = some p /\ p.blk = r /\ hget h b = some (.box cs) := by
    intro r hr
    obtain ⟨j, hj⟩ := List.getElem?_of_mem hr
    have hjl : j < exts.length := by rw [← hbl]; exact (List.getElem?_eq_some_iff.1 hj).1
    obtain ⟨p, hp, _⟩ := hE j _ (List.getElem?_eq_getElem hjl)
    obtain ⟨cs, hc⟩ := hb _ (List.getElem_mem hjl)
    have := hblk j _ p (List.getElem?_eq_getElem hjl) hp
    rw [hj] at this; cases this
    exact ⟨j, _, p, cs, List.getElem?_eq_getElem hjl, hp, rfl, hc⟩
  refine ⟨⟨fun b x hx => ?_, fun b b' x x' p p' hx hx' hp hp' hpp => ?_, ro.1, ro.2⟩, ⟨e.os.trans ev.os, e.tape.trans ev.tape, e.output.trans ev.output, Nat.le_trans hN e.size, fun r hr hrL => ?_⟩, g1.trans ⟨g.1, fun r hr => g.2 r (by omega), g.3⟩, fun b x p hx hp => ?_⟩
  · rcases hH b x hx with ⟨hρb, ⟨hbe, hbV, y, hy, rfl⟩ | ⟨j, hj, hj'⟩⟩
    · obtain ⟨p, hp, hB, hm, hL, hr⟩ := i.blk b y hy
      have hlt := hB.lt
      have hnb : p.blk ∉ blks := fun hin => by
        obtain ⟨j, b', p', cs, q1, q2, q3, q4⟩ := hblks _ hin
        have := i.inj b' b _ _ p' p q4 hy q2 hp q3
        subst this
        exact hbe (List.mem_of_getElem? q1)
      refine ⟨p, hρb.trans hp, hB.step (g1.1.trans g.1) φ hρ (e.keep _ hlt hnb), ?_, hL, fun h' => hr (by rw [← Blk.isRow_forget φ]; exact h')⟩
      rw [g.2 _ hlt, k2, hm]
      intro b' hb' p' hp' hpp
      obtain ⟨n, es, hrow⟩ := hV b' hb'
      have := i.inj b' b _ _ p' p hrow hy hp' hp hpp
      subst this
      exact hbV hb'
    · obtain ⟨cs0, hc⟩ := hb b (List.mem_of_getElem? hj)
      obtain ⟨p0, hp0, hB0, hm0, hL0, hr0⟩ := i.blk b _ hc
      obtain ⟨p, hp, hpb, hB, hm, cs, rfl, hcs⟩ := k.at_ j x hj'
      obtain ⟨p1, hp1, hp2⟩ := hE j b hj
      have e0 : p0 = p1 := by rw [hp0] at hp1; exact Option.some.inj hp1
      have e1 : p = p1 := by rw [hp] at hp2; exact Option.some.inj hp2
      subst e0 e1
      exact ⟨_, hρb.trans hp0, hB.box rfl fun vs hv => VRL.rho _ (by rw [hcs]; simp) hv, hm, hL0, by simp [Blk.isRow]⟩
  · obtain ⟨y, hy, _⟩ := old b x hx
    obtain ⟨y', hy', _⟩ := old b' x' hx'
    exact i.inj b b' y y' p p' hy hy' ((hH b x hx).1.symm.trans hp) ((hH b' x' hx').1.symm.trans hp') hpp
  · have : r ∉ blks := fun hin => by
      obtain ⟨j, b', p', cs, q1, q2, q3, q4⟩ := hblks _ hin
      obtain ⟨p0, hp0, hB0, hm0, hL0, hr0⟩ := i.blk b' _ q4
      have e0 : p' = p0 := by rw [q2] at hp0; exact Option.some.inj hp0
      subst e0
      rcases hL0 with hL0 | hL0
      · rw [q3] at hL0; exact hrL hL0
      · omega
    rw [e.keep r (by omega) this]
    exact ev.keep r hr hrL
  · obtain ⟨y, hy, _⟩ := old b x hx
    obtain ⟨p0, hp0, hB0, _⟩ := i.blk b y hy
    have e0 : p = p0 := by
      have := (hH b x hx).1
      rw [hp, hp0] at this; exact Option.some.inj this
    subst e0
    exact hB0.lt
theorem after_heap {V exts φ : List Nat} {ex' : List Blk} (hn : exts.Nodup) (hb : ∀ b ∈ exts, ∃ cs, hget h b = some (.box cs)) (hl : ex'.length = exts.length) (b : Nat) (x : Blk)
    (hx : hget (setAll (forgetH φ h) (V.map (fun b => (b, none)) ++ backs exts ex')) b = some x) :
    (b ∉ exts /\ b ∉ V /\ ∃ y, hget h b = some y /\ x = y.forget φ) \/ ∃ j : Nat, exts[j]? = some b /\ ex'[j]? = some x := by
  have hlen : ∀ b ∈ exts, b < (setAll (forgetH φ h) (V.map (fun b => (b, none)))).length := fun b hb' => by
    obtain ⟨cs, hc⟩ := hb b hb'
    rw [setAll_length, forgetH_length]; exact hget_lt hc
  rw [setAll_append] at hx
  rcases backs_get _ b x hl hn hlen hx with ⟨q1, q2⟩ | q
  · rw [setNone_get] at q2
    split at q2
    · simp at q2
    · rename_i hbV
      rw [hget_forget] at q2
      cases hy : hget h b with
      | none => rw [hy] at q2; simp at q2
      | some y => rw [hy] at q2; simp at q2; exact .inl ⟨q1, hbV, y, rfl, q2.symm⟩
  · exact .inr q
theorem Inv.put {N : Nat} (i : Inv ρ m L N h w) {d : Nat} {p : Loc} {x : Blk} (hd : hget h d = none) (hp : ρ d = some p) (hB : BR ρ m w p x) (hm : m p.blk = none) (hN : N <= p.blk)
    (hf : ∀ b y q, hget h b = some y -> ρ b = some q -> q.blk ≠ p.blk) : Inv ρ m L N (h.set d (some x)) w := by
  refine ⟨fun b y hy => ?_, fun b b' y y' q q' hy hy' hq hq' hqq => ?_, i.ro, i.oth⟩
  · rw [hget_set] at hy
    split at hy
    · rename_i hbd; subst hbd
      split at hy
      · cases hy; exact ⟨p, hp, hB, hm, .inr hN, fun _ => hN⟩
      · simp at hy
    · exact i.blk b y hy
  · rw [hget_set] at hy hy'
    split at hy <;> split at hy'
    · rename_i h1 h2; rw [h1, h2]
    · rename_i h1 h2; subst h1
      rw [hp] at hq; cases hq
      exact absurd hqq.symm (hf b' y' q' hy' hq')
    · rename_i h1 h2; subst h2
      rw [hp] at hq'; cases hq'
      exact absurd hqq (hf b y q hy hq)
    · exact i.inj b b' y y' q q' hy hy' hq hq' hqq
set_option maxHeartbeats 1000000 in
theorem callOp_ok {g : Nat} {xs xs' : List DV} {vals : Array Value} {ex ex' : List Blk} {r : DV} {dst : Option Nat} {out : Out} (i : Inv ρ m L w0.heap.size h w) (ev : Evo L w0 w) (hG : GlobOK C m) (hx : VRL ρ m xs vals.toList)
    (e1 : callIn C h g xs = some (xs', ex)) (e2 : callOut C h dst g xs r ex' = some out) (hc : (C.own g = false /\ CallOK P C g xs' ex r ex') \/ (C.own g = true /\ C.scal g = false /\ OwnOK P C g xs' r)) :
    Calls P g vals w fun e w' => ∃ v' ρ' m', e = .returned v' /\ Post L w0.heap.size h w0 w ρ m out v' w' ρ' m' := by
  unfold callIn at e1
  unfold callOut callOp at e2
  split at e1
  · simp at e1
  rename_i y s hi
  rw [hi] at e2
  simp only at e2
  split at e1
  · simp at e1
  rename_i ex0 vs ho
  rw [ho] at e2
  simp only [Option.some.injEq, Prod.mk.injEq] at e1
  obtain ⟨rfl, rfl⟩ := e1
  simp only [ne_eq, ite_not] at e2
  split at e2
  rotate_left
  · simp at e2
  rename_i hl
  obtain ⟨o1, o2, o3⟩ := outB_spec ho
  have hVs : ViewsOK h s.views := impL_views xs hi (by simp [ViewsOK])
  have hV : ViewsOK h (s.views ++ vs) := fun b hb => by
    rcases List.mem_append.1 hb with hb | hb
    · exact hVs b hb
    · exact o3 b hb
  have hnd : s.exts.Nodup := (impL_mono xs hi).2.2 (by simp)
  have hbox : ∀ b ∈ s.exts, ∃ cs, hget h b = some (.box cs) := fun b hb => by
    obtain ⟨j, hj⟩ := List.getElem?_of_mem hb
    obtain ⟨cs, cs', q1, _⟩ := o2 j b hj
    exact ⟨cs, q1⟩
  obtain ⟨g1, ro1, k1, k2⟩ := viewM_old i hV
  -- the callee's own numbers
  let bs := baseOf C g
  let ρc : Rho := fun b => if bs <= b then (s.exts[b - bs]?).bind ρ else none
  have hE : ExtR ρ ρc bs s.exts := fun j b hj => by
    obtain ⟨cs, hcs⟩ := hbox b (List.mem_of_getElem? hj)
    obtain ⟨p, hp, _⟩ := i.blk b _ hcs
    refine ⟨p, hp, ?_⟩
    have : bs <= bs + j := Nat.le_add_right _ _
    simp only [ρc, this, if_true, Nat.add_sub_cancel_left, hj, Option.bind_some, hp]
  let blks : List Nat := s.exts.filterMap fun b => (ρ b).map (·.blk)
  have hblk0 : ∀ l : List Nat, (∀ b ∈ l, ∃ p, ρ b = some p) -> (l.filterMap fun b => (ρ b).map (·.blk)).length = l.length /\ ∀ (j b : Nat) (p : Loc), l[j]? = some b -> ρ b = some p -> (l.filterMap fun b => (ρ b).map (·.blk))[j]? = some p.blk := by
    intro l
    induction l with
    | nil => intro _; exact ⟨rfl, by simp⟩
    | cons c l ih =>
      intro hl
      obtain ⟨p, hp⟩ := hl c List.mem_cons_self
      obtain ⟨a1, a2⟩ := ih fun b hb => hl b (List.mem_cons_of_mem _ hb)
      have hcons : (c :: l).filterMap (fun b => (ρ b).map (·.blk)) = p.blk :: l.filterMap fun b => (ρ b).map (·.blk) := by simp [hp]
      rw [hcons]
      refine ⟨by simp [a1], fun j b q hj hq => ?_⟩
      cases j with
      | zero => simp at hj; subst hj; rw [hp] at hq; cases hq; rfl
      | succ j => simp at hj; simpa using a2 j b q hj hq
  obtain ⟨hbl, hblk⟩ := hblk0 s.exts fun b hb => by
    obtain ⟨cs, hcs⟩ := hbox b hb
    obtain ⟨p, hp, _⟩ := i.blk b _ hcs
    exact ⟨p, hp⟩
  have hshow : Shows ρ m h (viewM ρ w m (s.views ++ vs)) (s.views ++ vs) := viewM_shows i hV (Sub.refl _)
  have hargs : VRL ρc (viewM ρ w m (s.views ++ vs)) y vals.toList :=
    impL_ok g1.1 hE hshow xs hi (List.prefix_refl _) (fun b hb => List.mem_append_left _ hb) hx
  have hnodup : blks.Nodup := by
    unfold List.Nodup
    rw [List.pairwise_iff_getElem]
    intro a b ha hb hab e
    have hbe : b < s.exts.length := by rw [← hbl]; exact hb
    have hae : a < s.exts.length := by omega
    obtain ⟨p, hp, _⟩ := hE a _ (List.getElem?_eq_getElem hae)
    obtain ⟨q, hq, _⟩ := hE b _ (List.getElem?_eq_getElem hbe)
    have z1 := hblk a _ p (List.getElem?_eq_getElem hae) hp
    have z2 := hblk b _ q (List.getElem?_eq_getElem hbe) hq
    have y1 : blks[a]? = some p.blk := z1
    have y2 : blks[b]? = some q.blk := z2
    rw [List.getElem?_eq_getElem ha, Option.some.injEq] at y1
    rw [List.getElem?_eq_getElem hb, Option.some.injEq] at y2
    obtain ⟨c1, hc1⟩ := hbox _ (List.getElem_mem hae)
    obtain ⟨c2, hc2⟩ := hbox _ (List.getElem_mem hbe)
    have := i.inj _ _ _ _ p q hc1 hc2 hp hq (by rw [← y1, ← y2]; exact e)
    exact List.pairwise_iff_getElem.1 hnd a b hae hbe hab this
  have hext : ExtOK (viewM ρ w m (s.views ++ vs)) w bs ρc ex0 blks := by
    refine ⟨by rw [hbl, o1], hnodup, fun j x hj => ?_⟩
    have hje : j < s.exts.length := by rw [← o1]; exact (List.getElem?_eq_some_iff.1 hj).1
    obtain ⟨cs, cs', q1, q2, q3, q4⟩ := o2 j _ (List.getElem?_eq_getElem hje)
    rw [hj] at q3; cases q3
    obtain ⟨p, hp, hpc⟩ := hE j _ (List.getElem?_eq_getElem hje)
    obtain ⟨p', hp', hB, hm', hL', hr'⟩ := i.blk _ _ q1
    rw [hp] at hp'; cases hp'
    refine ⟨p, hpc, hblk j _ p (List.getElem?_eq_getElem hje) hp, hB.box rfl fun u hu => sealL_ok g1.1 hshow cs q2 (fun b hb => List.mem_append_right _ (q4 b hb)) hu ρc, ?_, cs', rfl, (sealL_ments cs q2).1⟩
    rw [k2, hm']
    intro b' hb' p' hp' hpp
    obtain ⟨n, es, hrow⟩ := hV b' hb'
    have := i.inj b' _ _ _ p' p hrow q1 hp' hp hpp
    subst this
    rw [hrow] at q1; cases q1
  have hG' : GlobOK C (viewM ρ w m (s.views ++ vs)) := hG.mono g1.1
  split at e2
  · -- no memory comes back
    rename_i hsc
    split at e2
    rotate_left
    · simp at e2
    rename_i hnp
    simp only [Option.some.injEq] at e2; subst e2
    rcases hc with ⟨_, hc⟩ | ⟨_, hc, _⟩
    rotate_left
    · rw [hsc] at hc; cases hc
    obtain ⟨hc1, hc2, hc3⟩ := hc
    refine (hc3 ρc _ w vals blks hG' ro1 hargs hext).mono ?_
    rintro e w' ⟨v', m', rfl, a1, a2, a3, a4, a5⟩
    have hb0 : blks = [] := by simp [blks, hnp.2]
    rw [hb0] at a5
    refine ⟨v', ρ, m, rfl, ⟨?_, Grows.refl _ _, fun _ _ => rfl, ?_, ?_⟩⟩
    · exact VR.rho _ (by simp only; rw [hc1]; simp) (VR.noPsl r hnp.1 a1)
    · simp only [forgetH_nil, setAll]
      refine ⟨fun b x hb => ?_, i.inj, fun q c hq => ?_, fun q x hq => ⟨by rw [a5.keep q (i.oth_lt hq) (by simp)]; exact (i.oth q x hq).1, (i.oth q x hq).2⟩⟩
      · obtain ⟨p, p1, p2, p3, p4, p5⟩ := i.blk b x hb
        exact ⟨p, p1, by simpa [Blk.forget_nil] using p2.step (Sub.refl _) [] (fun _ _ => rfl) (a5.keep _ p2.lt (by simp)), p3, p4, p5⟩
      · obtain ⟨el, fr, hq'⟩ := i.ro q c hq
        exact ⟨el, fr, by rw [a5.keep q (i.ro_lt hq) (by simp)]; exact hq'⟩
    · exact ⟨a5.os.trans ev.os, a5.tape.trans ev.tape, a5.output.trans ev.output, Nat.le_trans ev.size a5.size, fun r hr hrL => by
        rw [a5.keep r (Nat.lt_of_lt_of_le hr ev.size) (by simp)]; exact ev.keep r hr hrL⟩
  · rename_i hsc
    split at e2
    · rename_i hown
      split at e2
      rotate_left
      · simp at e2
      rename_i hx0
      have hb0 : blks = [] := by simp [blks, hx0]
      have hex0 : ex0 = [] := by cases ex0 with | nil => rfl | cons a l => rw [hx0] at o1; simp at o1
      have hex0' : ex' = [] := by cases ex' with | nil => rfl | cons a l => rw [hx0] at hl; simp at hl
      subst hex0 hex0'
      have hc : OwnOK P C g y r := by
        rcases hc with ⟨hc, _⟩ | ⟨_, _, hc⟩
        · rw [hown] at hc; cases hc
        · exact hc
      obtain ⟨hc1, hc3⟩ := hc
      have hcall := hc3 ρc _ w vals hG' ro1 hargs
      have hX : ∀ (m' : Ro) (w' : World), ExtOK m' w' bs ρc [] blks := fun m' w' => ⟨by rw [hb0]; rfl, by rw [hb0]; simp, by simp⟩
      have hhp := fun (φ : List Nat) => after_heap (h := h) (V := s.views ++ vs) (φ := φ) (ex' := []) hnd hbox (by rw [hx0]; rfl)
      split at e2
      · -- empty
        rename_i n
        simp only [Option.some.injEq] at e2; subst e2
        refine hcall.mono ?_
        rintro e w' ⟨v', m', rfl, a3, a4, a5, a1⟩
        rw [← hb0] at a5
        obtain ⟨z1, z2, z3, z4⟩ := after_call i ev hV hE hbox hblk hbl (fun _ _ => rfl) (fun b x hx => ⟨rfl, hhp (s.views ++ vs) b x hx⟩) (hX m' w') a3 a4 a5
        exact ⟨v', ρ, m', rfl, ⟨VR.rho _ (by simp only; rw [hc1]; simp) a1, z3, fun _ _ => rfl, z1, z2⟩⟩
      · rename_i n es d hne
        simp only [Option.some.injEq] at e2; subst e2
        cases es with
        | nil => exact (hne rfl).elim
        | cons x es =>
        refine hcall.mono ?_
        rintro e w' ⟨v', m', rfl, a3, a4, a5, p, cap, b1, b2, rfl, b3, b4, b5⟩
        rw [← hb0] at a5
        have hset : ∀ b y, hget ((setAll (forgetH (d :: (s.views ++ vs)) h) ((s.views ++ vs).map (fun b => (b, none)) ++ backs s.exts [])).set d none) b = some y -> b ≠ d /\ hget (setAll (forgetH (d :: (s.views ++ vs)) h) ((s.views ++ vs).map (fun b => (b, none)) ++ backs s.exts [])) b = some y := by
          intro b y hy
          rw [hget_set] at hy
          split at hy
          · simp at hy
          · exact ⟨by assumption, hy⟩
        obtain ⟨z1, z2, z3, z4⟩ := after_call (ρ' := upd ρ d p) (φ := d :: (s.views ++ vs)) (H := (setAll (forgetH (d :: (s.views ++ vs)) h) ((s.views ++ vs).map (fun b => (b, none)) ++ backs s.exts [])).set d none) i ev hV hE hbox hblk hbl
          (fun b hb => (upd_other ρ d p (fun e => hb (e ▸ List.mem_cons_self))).symm) (fun b y hy => ⟨upd_other ρ d p (hset b y hy).1, hhp _ b y (hset b y hy).2⟩) (hX m' w') a3 a4 a5
        refine ⟨_, upd ρ d p, m', rfl, ⟨?_, z3, ?_, ?_, z2⟩⟩
        · simp only [VR]
          exact ⟨p, cap, upd_same ρ d p, b1, by simpa using b2, by simp⟩
        · intro b hb
          exact (upd_other ρ d p (fun e => hb (e ▸ List.mem_cons_self))).symm
        · have hb3 : BR (upd ρ d p) m' w' p (.row n (x :: es)) := by
            simp only [BR] at b3 ⊢
            obtain ⟨c, el, fr, c1, c2, c3, c4, c5, c6, c7⟩ := b3
            exact ⟨c, el, fr, c1, c2, c3, c4, c5, c6, VRE.rho _ (by rw [c6]; simp) c7⟩
          have := z1.put (d := d) (p := p) (by rw [hget_set]; simp) (upd_same ρ d p) hb3 b4 (Nat.le_trans ev.size b5) (fun b y q hy hq e => by
            have := z4 b y q hy hq
            omega)
          rw [List.set_set] at this
          rw [setAll_append]
          exact this
      · simp only [Option.some.injEq] at e2; subst e2
        refine hcall.mono ?_
        rintro e w' ⟨v', m', rfl, a3, a4, a5, a1⟩
        rw [← hb0] at a5
        obtain ⟨z1, z2, z3, z4⟩ := after_call i ev hV hE hbox hblk hbl (fun _ _ => rfl) (fun b x hx => ⟨rfl, hhp (s.views ++ vs) b x hx⟩) (hX m' w') a3 a4 a5
        exact ⟨v', ρ, m', rfl, ⟨VR.rho _ (by simp only; rw [hc1]; simp) a1, z3, fun _ _ => rfl, z1, z2⟩⟩
      · simp at e2
    · -- plain
      rename_i hown
      simp only [Option.some.injEq] at e2; subst e2
      have hc : CallOK P C g y ex0 r ex' := by
        rcases hc with ⟨_, hc⟩ | ⟨hc, _⟩
        · exact hc
        · rw [hc] at hown; simp at hown
      obtain ⟨hc1, hc2, hc3⟩ := hc
      refine (hc3 ρc _ w vals blks hG' ro1 hargs hext).mono ?_
      rintro e w' ⟨v', m', rfl, a1, a2, a3, a4, a5⟩
      obtain ⟨z1, z2, z3, z4⟩ := after_call i ev hV hE hbox hblk hbl (fun _ _ => rfl) (fun b x hx => ⟨rfl, after_heap hnd hbox hl b x hx⟩) a2 a3 a4 a5
      exact ⟨v', ρ, m', rfl, ⟨VR.rho _ (by simp only; rw [hc1]; simp) a1, z3, fun _ _ => rfl, z1, z2⟩⟩
end
end Go.Det
end

section
namespace Go.Det
section
variable {C : Cfg} {h h' : Heap}
theorem elems_frame {n : Nat} {x : DV} (hx : ∀ b ∈ x.ments, hget h b = hget h' b) : elems h n x = elems h' n x := by
  cases x <;> simp only [elems]
  rename_i b n' off len
  rw [hx b (by simp [DV.ments])]
theorem loadOp_frame {t : Nat} {x : DV} (hx : ∀ b ∈ x.ments, hget h b = hget h' b) : loadOp C h t x = loadOp C h' t x := by
  unfold loadOp
  cases x <;> simp only
  rename_i b n' off len
  rw [hx b (by simp [DV.ments])]
theorem storeOp_frame {t : Nat} {x v : DV} (hx : ∀ b ∈ x.ments, hget h b = hget h' b) : storeOp C h t x v = storeOp C h' t x v := by
  unfold storeOp
  cases x <;> simp only
  rename_i b n' off len
  rw [hx b (by simp [DV.ments])]
theorem convertOp_frame {d a b : Nat} {x : DV} (hx : ∀ b ∈ x.ments, hget h b = hget h' b) : convertOp C h d a b x = convertOp C h' d a b x := by
  unfold convertOp
  cases C.T a with
  | none => rfl
  | some ta =>
    cases C.T b with
    | none => rfl
    | some tb =>
      obtain ⟨da, sa, ba, za⟩ := ta
      obtain ⟨db, sb, bb, zb⟩ := tb
      cases da <;> cases db <;> first | rfl | (cases x <;> first | rfl | (simp only [elems_frame hx]))
theorem appendOp_frame {d t : Nat} {s x : DV} (hs : ∀ b ∈ s.ments, hget h b = hget h' b) (hx : ∀ b ∈ x.ments, hget h b = hget h' b) : appendOp C h d t s x = appendOp C h' d t s x := by
  unfold appendOp
  simp only [elems_frame hx]
  cases s <;> first | rfl | skip
  rename_i b n' off len
  simp only [hs b (by simp [DV.ments])]
theorem copyOp_frame {t : Nat} {s x : DV} (hs : ∀ b ∈ s.ments, hget h b = hget h' b) (hx : ∀ b ∈ x.ments, hget h b = hget h' b) : copyOp C h t s x = copyOp C h' t s x := by
  unfold copyOp
  simp only [elems_frame hx]
  cases s <;> first | rfl | skip
  rename_i b n' off len
  simp only [hs b (by simp [DV.ments])]
theorem act_frame {f : Nat} {t t' : List DV} {dst : Option Nat} {op : Op} (ho : ∀ x ∈ op.operands.toList, opnd t' x = opnd t x)
    (hb : ∀ x ∈ op.operands.toList, ∀ b ∈ (opnd t x).ments, hget h' b = hget h b) : act C f t' h' dst op = act C f t h dst op := by
  have hparts : ∀ ps : Array (Nat × Operand), (∀ x ∈ (ps.toList.map (·.2)), opnd t' x = opnd t x) -> parts t' ps = parts t ps := by
    intro ps hp
    unfold parts
    apply List.map_congr_left
    intro p hp'
    obtain ⟨i, x⟩ := p
    show (i, opnd t' x) = (i, opnd t x)
    rw [hp x (List.mem_map_of_mem (f := (·.2)) hp')]
  have hmap : ∀ l : List Operand, (∀ x ∈ l, opnd t' x = opnd t x) -> l.map (opnd t') = l.map (opnd t) := fun l hl => List.map_congr_left hl
  have homap : ∀ l : Option Operand, (∀ x ∈ l.toList, opnd t' x = opnd t x) -> l.map (opnd t') = l.map (opnd t) := by
    intro l hl
    cases l with
    | none => rfl
    | some x => simp [hl x (by simp)]
  cases op with
  | move x => simp only [act, ho x (by simp [Op.operands])]
  | assign x => simp only [act, ho x (by simp [Op.operands])]
  | pick c a b => simp only [act, ho c (by simp [Op.operands]), ho a (by simp [Op.operands]), ho b (by simp [Op.operands])]
  | alloc e => rfl
  | box e x => simp only [act, ho x (by simp [Op.operands])]
  | build ty ps => simp only [act]; rw [hparts ps (by simpa [Op.operands] using ho)]
  | buildSlice ty n ps => simp only [act]; rw [hparts ps (by simpa [Op.operands] using ho)]
  | load ty x => simp only [act, ho x (by simp [Op.operands])]; rw [loadOp_frame (hb x (by simp [Op.operands]))]
  | store ty x v => simp only [act, ho x (by simp [Op.operands]), ho v (by simp [Op.operands])]; rw [storeOp_frame (hb x (by simp [Op.operands]))]
  | nilCheck x => simp only [act, ho x (by simp [Op.operands])]
  | binOp op xt x y yt => simp only [act, ho x (by simp [Op.operands]), ho y (by simp [Op.operands])]
  | unOp op xt x => simp only [act, ho x (by simp [Op.operands])]
  | convert a b x =>
    simp only [act, ho x (by simp [Op.operands])]
    cases dst with
    | none => rfl
    | some d => simp only; rw [convertOp_frame (hb x (by simp [Op.operands]))]
  | makeInterface xt x => simp only [act, ho x (by simp [Op.operands])]
  | makeFunc fn first cap =>
    simp only [act]
    rw [hmap first.toList (fun x hx => ho x (by simp [Op.operands]; exact .inl (by simpa using hx))), hmap cap.toList (fun x hx => ho x (by simp [Op.operands]; exact .inr (by simpa using hx)))]
  | makeSlice ty l c => simp only [act, ho l (by simp [Op.operands]), ho c (by simp [Op.operands])]
  | slice ty x lo hi mx =>
    simp only [act, ho x (by simp [Op.operands])]
    rw [homap lo (fun x hx => ho x (by simp [Op.operands] at hx ⊢; simp [hx])), homap hi (fun x hx => ho x (by simp [Op.operands] at hx ⊢; simp [hx]))]
  | fieldAddr ty x fi => simp only [act, ho x (by simp [Op.operands])]
  | field ty x fi => simp only [act, ho x (by simp [Op.operands])]
  | indexAddr ty x i => simp only [act, ho x (by simp [Op.operands]), ho i (by simp [Op.operands])]
  | index ty x i => simp only [act, ho x (by simp [Op.operands]), ho i (by simp [Op.operands])]
  | range ty x => simp only [act, ho x (by simp [Op.operands])]
  | next it s =>
    cases s with
    | false => rfl
    | true =>
      simp only [act, ho it (by simp [Op.operands])]
      split
      · rename_i b hit
        rw [hb it (by simp [Op.operands]) b (by rw [hit]; simp [DV.ments])]
      · rfl
  | extract x i => simp only [act, ho x (by simp [Op.operands])]
  | call c =>
    obtain ⟨callee, as1, ts⟩ := c
    cases callee with
    | value x => rfl
    | invoke x y => rfl
    | builtin b =>
      have ho' : ∀ x ∈ as1.toList, opnd t' x = opnd t x := fun x hx => ho x (by simpa [Op.operands, Call.operands] using hx)
      have hb' : ∀ x ∈ as1.toList, ∀ b ∈ (opnd t x).ments, hget h' b = hget h b := fun x hx => hb x (by simpa [Op.operands, Call.operands] using hx)
      simp only [act]
      split
      · rename_i s x ty tx hs ht
        rw [hs] at ho' hb'
        rw [ho' s (by simp), ho' x (by simp)]
        have : ∀ d, appendOp C h' d ty (opnd t s) (opnd t x) = appendOp C h d ty (opnd t s) (opnd t x) := fun d => appendOp_frame (hb' s (by simp)) (hb' x (by simp))
        simp only [this]
      · rename_i s x ty l hs ht
        rw [hs] at ho' hb'
        rw [ho' s (by simp), ho' x (by simp)]
        exact copyOp_frame (hb' s (by simp)) (hb' x (by simp))
      · rename_i x ty l hs ht
        rw [hs] at ho'
        rw [ho' x (by simp)]
      · rename_i ts' x l hs
        rw [hs] at ho'
        rw [ho' x (by simp), hmap l (fun y hy => ho' y (by simp [hy]))]
      · rename_i ts' x l hs
        rw [hs] at ho'
        rw [ho' x (by simp), hmap l (fun y hy => ho' y (by simp [hy]))]
      · rfl
  | _ => rfl
theorem viewRow_frame {b n off len : Nat} (hx : hget h b = hget h' b) : viewRow h b n off len = viewRow h' b n off len := by
  unfold viewRow; rw [hx]
mutual
theorem imp_frame {base : Nat} : ∀ (x : DV) (s : Imp), (∀ b ∈ x.ments, hget h b = hget h' b) -> imp h base x s = imp h' base x s
  | .any, s, _ => rfl
  | .unk, s, _ => rfl
  | .bool _, s, _ => rfl
  | .int _ _, s, _ => rfl
  | .str _, s, _ => rfl
  | .nilptr, s, _ => rfl
  | .ptr _ _ _ _, s, _ => rfl
  | .eptr _ _ _ _, s, _ => rfl
  | .gptr _ _, s, _ => rfl
  | .nilsl, s, _ => rfl
  | .rsl b n off len, s, hx => by simp only [imp]; rw [viewRow_frame (hx b (by simp [DV.ments]))]
  | .psl _ _, s, _ => rfl
  | .fn f a c, s, hx => by
    simp only [imp]
    rw [impL_frame a s fun b hb => hx b (by simp [DV.ments, hb])]
    cases impL h' base a s with
    | none => rfl
    | some p => simp only; rw [impL_frame c p.2 fun b hb => hx b (by simp [DV.ments, hb])]
  | .nilfn, s, _ => rfl
  | .iface t v, s, hx => by simp only [imp]; rw [imp_frame v s (by simpa [DV.ments] using hx)]
  | .niliface, s, _ => rfl
  | .map _, s, _ => rfl
  | .nilmap, s, _ => rfl
  | .agg cs, s, hx => by simp only [imp]; rw [impL_frame cs s (by simpa [DV.ments] using hx)]
  | .tup cs, s, hx => by simp only [imp]; rw [impL_frame cs s (by simpa [DV.ments] using hx)]
theorem impL_frame {base : Nat} : ∀ (l : List DV) (s : Imp), (∀ b ∈ mentsL l, hget h b = hget h' b) -> impL h base l s = impL h' base l s
  | [], s, _ => rfl
  | x :: l, s, hx => by
    simp only [impL]
    rw [imp_frame x s fun b hb => hx b (by simp [mentsL, hb])]
    cases imp h' base x s with
    | none => rfl
    | some p => simp only; rw [impL_frame l p.2 fun b hb => hx b (by simp [mentsL, hb])]
end
mutual
theorem sealV_frame : ∀ (x : DV), (∀ b ∈ x.ments, hget h b = hget h' b) -> sealV h x = sealV h' x
  | .any, _ => rfl
  | .unk, _ => rfl
  | .bool _, _ => rfl
  | .int _ _, _ => rfl
  | .str _, _ => rfl
  | .nilptr, _ => rfl
  | .ptr _ _ _ _, _ => rfl
  | .eptr _ _ _ _, _ => rfl
  | .gptr _ _, _ => rfl
  | .nilsl, _ => rfl
  | .rsl b n off len, hx => by simp only [sealV]; rw [viewRow_frame (hx b (by simp [DV.ments]))]
  | .psl _ _, _ => rfl
  | .fn f a c, hx => by
    simp only [sealV]
    rw [sealL_frame a fun b hb => hx b (by simp [DV.ments, hb]), sealL_frame c fun b hb => hx b (by simp [DV.ments, hb])]
  | .nilfn, _ => rfl
  | .iface t v, hx => by simp only [sealV]; rw [sealV_frame v (by simpa [DV.ments] using hx)]
  | .niliface, _ => rfl
  | .map _, _ => rfl
  | .nilmap, _ => rfl
  | .agg cs, hx => by simp only [sealV]; rw [sealL_frame cs (by simpa [DV.ments] using hx)]
  | .tup cs, hx => by simp only [sealV]; rw [sealL_frame cs (by simpa [DV.ments] using hx)]
theorem sealL_frame : ∀ (l : List DV), (∀ b ∈ mentsL l, hget h b = hget h' b) -> sealL h l = sealL h' l
  | [], _ => rfl
  | x :: l, hx => by
    simp only [sealL]
    rw [sealV_frame x fun b hb => hx b (by simp [mentsL, hb]), sealL_frame l fun b hb => hx b (by simp [mentsL, hb])]
end
theorem outB_frame : ∀ (l : List Nat), (∀ b ∈ l, hget h b = hget h' b /\ ∀ b' ∈ boxMents (hget h b), hget h b' = hget h' b') -> outB h l = outB h' l
  | [], _ => rfl
  | b :: l, hx => by
    obtain ⟨h1, h2⟩ := hx b List.mem_cons_self
    unfold outB
    rw [outB_frame l fun b hb => hx b (List.mem_cons_of_mem _ hb), ← h1]
    cases hh : hget h b with
    | none => rfl
    | some x =>
      cases x <;> simp only
      rename_i cs
      rw [sealL_frame cs fun b' hb' => h2 b' (by rw [hh]; exact hb')]
mutual
theorem imp_exts {base : Nat} : ∀ (x : DV) {s s' : Imp} {x' : DV}, imp h base x s = some (x', s') -> ∀ b ∈ s'.exts, b ∈ s.exts \/ b ∈ x.ments
  | .any, s, s', x', e => by simp [imp] at e
  | .unk, s, s', x', e => by simp [imp] at e
  | .bool _, s, s', x', e => by simp [imp] at e; obtain ⟨_, rfl⟩ := e; exact fun _ h => .inl h
  | .int _ _, s, s', x', e => by simp [imp] at e; obtain ⟨_, rfl⟩ := e; exact fun _ h => .inl h
  | .str _, s, s', x', e => by simp [imp] at e; obtain ⟨_, rfl⟩ := e; exact fun _ h => .inl h
  | .nilptr, s, s', x', e => by simp [imp] at e; obtain ⟨_, rfl⟩ := e; exact fun _ h => .inl h
  | .ptr b n i off, s, s', x', e => by
    simp only [imp] at e
    split at e
    · simp only [Option.some.injEq, Prod.mk.injEq] at e; obtain ⟨_, rfl⟩ := e
      intro c hc
      unfold Imp.ext at hc
      split at hc
      · exact .inl hc
      · rcases List.mem_append.1 hc with hc | hc
        · exact .inl hc
        · simp at hc; subst hc; exact .inr (by simp [DV.ments])
    · simp at e
  | .eptr _ _ _ _, s, s', x', e => by simp [imp] at e; obtain ⟨_, rfl⟩ := e; exact fun _ h => .inl h
  | .gptr _ _, s, s', x', e => by simp [imp] at e; obtain ⟨_, rfl⟩ := e; exact fun _ h => .inl h
  | .nilsl, s, s', x', e => by simp [imp] at e; obtain ⟨_, rfl⟩ := e; exact fun _ h => .inl h
  | .rsl b n off len, s, s', x', e => by
    simp only [imp, Option.map_eq_some_iff, Prod.mk.injEq] at e
    obtain ⟨v, _, _, rfl⟩ := e
    exact fun _ h => .inl h
  | .psl _ _, s, s', x', e => by simp [imp] at e; obtain ⟨_, rfl⟩ := e; exact fun _ h => .inl h
  | .fn f a c, s, s', x', e => by
    simp only [imp] at e
    split at e
    · rename_i a' s1 h1
      simp only [Option.map_eq_some_iff, Prod.mk.injEq] at e
      obtain ⟨⟨c', s2⟩, h2, _, rfl⟩ := e
      intro b hb
      rcases impL_exts c h2 b hb with hb | hb
      · rcases impL_exts a h1 b hb with hb | hb
        · exact .inl hb
        · exact .inr (by simp [DV.ments, hb])
      · exact .inr (by simp [DV.ments, hb])
    · simp at e
  | .nilfn, s, s', x', e => by simp [imp] at e; obtain ⟨_, rfl⟩ := e; exact fun _ h => .inl h
  | .iface t v, s, s', x', e => by
    simp only [imp, Option.map_eq_some_iff, Prod.mk.injEq] at e
    obtain ⟨⟨v', s1⟩, h1, _, rfl⟩ := e
    simpa [DV.ments] using imp_exts v h1
  | .niliface, s, s', x', e => by simp [imp] at e; obtain ⟨_, rfl⟩ := e; exact fun _ h => .inl h
  | .map b, s, s', x', e => by
    simp only [imp, Option.some.injEq, Prod.mk.injEq] at e; obtain ⟨_, rfl⟩ := e
    intro c hc
    unfold Imp.ext at hc
    split at hc
    · exact .inl hc
    · rcases List.mem_append.1 hc with hc | hc
      · exact .inl hc
      · simp at hc; subst hc; exact .inr (by simp [DV.ments])
  | .nilmap, s, s', x', e => by simp [imp] at e; obtain ⟨_, rfl⟩ := e; exact fun _ h => .inl h
  | .agg cs, s, s', x', e => by
    simp only [imp, Option.map_eq_some_iff, Prod.mk.injEq] at e
    obtain ⟨⟨v', s1⟩, h1, _, rfl⟩ := e
    simpa [DV.ments] using impL_exts cs h1
  | .tup cs, s, s', x', e => by
    simp only [imp, Option.map_eq_some_iff, Prod.mk.injEq] at e
    obtain ⟨⟨v', s1⟩, h1, _, rfl⟩ := e
    simpa [DV.ments] using impL_exts cs h1
theorem impL_exts {base : Nat} : ∀ (l : List DV) {s s' : Imp} {l' : List DV}, impL h base l s = some (l', s') -> ∀ b ∈ s'.exts, b ∈ s.exts \/ b ∈ mentsL l
  | [], s, s', l', e => by simp [impL] at e; obtain ⟨_, rfl⟩ := e; exact fun _ h => .inl h
  | x :: l, s, s', l', e => by
    simp only [impL] at e
    split at e
    · rename_i v' s1 h1
      simp only [Option.map_eq_some_iff, Prod.mk.injEq] at e
      obtain ⟨⟨c', s2⟩, h2, _, rfl⟩ := e
      intro b hb
      rcases impL_exts l h2 b hb with hb | hb
      · rcases imp_exts x h1 b hb with hb | hb
        · exact .inl hb
        · exact .inr (by simp [mentsL, hb])
      · exact .inr (by simp [mentsL, hb])
    · simp at e
end
def deepMents (h : Heap) (l : List Nat) : List Nat := l ++ l.flatMap fun b => boxMents (hget h b)
theorem callIn_frame {g : Nat} {xs : List DV} (hx : ∀ b ∈ deepMents h (mentsL xs), hget h b = hget h' b) : callIn C h g xs = callIn C h' g xs := by
  have h1 : ∀ b ∈ mentsL xs, hget h b = hget h' b := fun b hb => hx b (List.mem_append_left _ hb)
  unfold callIn
  rw [← impL_frame xs {} h1]
  cases hi : impL h (baseOf C g) xs {} with
  | none => rfl
  | some p =>
    have he := impL_exts xs hi
    simp only
    rw [outB_frame p.2.exts fun b hb => ?_]
    have hb' : b ∈ mentsL xs := by simpa using he b hb
    exact ⟨h1 b hb', fun b' hb'' => hx b' (List.mem_append_right _ (List.mem_flatMap.2 ⟨b, hb', hb''⟩))⟩
theorem callOut_frame {g : Nat} {dst : Option Nat} {xs : List DV} {r : DV} {ex' : List Blk} (hx : ∀ b ∈ deepMents h (mentsL xs), hget h b = hget h' b) : callOut C h dst g xs r ex' = callOut C h' dst g xs r ex' := by
  have h1 : ∀ b ∈ mentsL xs, hget h b = hget h' b := fun b hb => hx b (List.mem_append_left _ hb)
  unfold callOut callOp
  rw [← impL_frame xs {} h1]
  cases hi : impL h (baseOf C g) xs {} with
  | none => rfl
  | some p =>
    have he := impL_exts xs hi
    simp only
    rw [outB_frame p.2.exts fun b hb => ?_]
    have hb' : b ∈ mentsL xs := by simpa using he b hb
    exact ⟨h1 b hb', fun b' hb'' => hx b' (List.mem_append_right _ (List.mem_flatMap.2 ⟨b, hb', hb''⟩))⟩
end
end Go.Det
end

section
namespace Go.Det
mutual
theorem forget_id (φ : List Nat) : ∀ (x : DV), (∀ b ∈ x.ments, b ∉ φ) -> x.forget φ = x
  | .any, _ => rfl
  | .unk, _ => rfl
  | .bool _, _ => rfl
  | .int _ _, _ => rfl
  | .str _, _ => rfl
  | .nilptr, _ => rfl
  | .ptr b n i off, h => by have := h b (by simp [DV.ments]); simp [DV.forget, this]
  | .eptr .., _ => rfl
  | .gptr .., _ => rfl
  | .nilsl, _ => rfl
  | .rsl b n off len, h => by have := h b (by simp [DV.ments]); simp [DV.forget, this]
  | .psl .., _ => rfl
  | .fn f a c, h => by simp only [DV.forget]; rw [forgetL_id φ a fun b hb => h b (by simp [DV.ments, hb]), forgetL_id φ c fun b hb => h b (by simp [DV.ments, hb])]
  | .nilfn, _ => rfl
  | .iface t v, h => by simp only [DV.forget]; rw [forget_id φ v (by simpa [DV.ments] using h)]
  | .niliface, _ => rfl
  | .map b, h => by have := h b (by simp [DV.ments]); simp [DV.forget, this]
  | .nilmap, _ => rfl
  | .agg cs, h => by simp only [DV.forget]; rw [forgetL_id φ cs (by simpa [DV.ments] using h)]
  | .tup cs, h => by simp only [DV.forget]; rw [forgetL_id φ cs (by simpa [DV.ments] using h)]
theorem forgetL_id (φ : List Nat) : ∀ (l : List DV), (∀ b ∈ mentsL l, b ∉ φ) -> forgetL φ l = l
  | [], _ => rfl
  | x :: l, h => by simp only [forgetL]; rw [forget_id φ x fun b hb => h b (by simp [mentsL, hb]), forgetL_id φ l fun b hb => h b (by simp [mentsL, hb])]
end
def outMents (o : Out) : List Nat := o.v.ments ++ o.δ.flatMap fun x => boxMents x.2
theorem Blk.forget_id (φ : List Nat) (b : Blk) (h : ∀ c ∈ boxMents (some b), c ∉ φ) : b.forget φ = b := by
  cases b with
  | box cs => simp only [Blk.forget]; rw [forgetL_id φ cs h]
  | row n es => rfl
  | iter s p => rfl
mutual
def DV.clean : DV -> Bool
  | .any => false
  | .fn _ a c => cleanL a && cleanL c
  | .iface _ v => v.clean
  | .agg cs => cleanL cs
  | .tup vs => cleanL vs
  | _ => true
def cleanL : List DV -> Bool
  | [] => true
  | v :: l => v.clean && cleanL l
end
def blkClean : Option Blk -> Bool
  | some (.box cs) => cleanL cs
  | _ => true
mutual
theorem clean_forget (φ : List Nat) : ∀ (x : DV), (x.forget φ).clean = true -> x.forget φ = x
  | .any, h => by simp [DV.forget, DV.clean] at h
  | .unk, _ => rfl
  | .bool _, _ => rfl
  | .int _ _, _ => rfl
  | .str _, _ => rfl
  | .nilptr, _ => rfl
  | .ptr b n i off, h => by
    simp only [DV.forget] at h ⊢
    split at h
    · simp [DV.clean] at h
    · rename_i hb; rw [if_neg hb]
  | .eptr .., _ => rfl
  | .gptr .., _ => rfl
  | .nilsl, _ => rfl
  | .rsl b n off len, h => by
    simp only [DV.forget] at h ⊢
    split at h
    · simp [DV.clean] at h
    · rename_i hb; rw [if_neg hb]
  | .psl .., _ => rfl
  | .fn f a c, h => by
    simp only [DV.forget, DV.clean, Bool.and_eq_true] at h ⊢
    rw [clean_forgetL φ a h.1, clean_forgetL φ c h.2]
  | .nilfn, _ => rfl
  | .iface t v, h => by simp only [DV.forget, DV.clean] at h ⊢; rw [clean_forget φ v h]
  | .niliface, _ => rfl
  | .map b, h => by
    simp only [DV.forget] at h ⊢
    split at h
    · simp [DV.clean] at h
    · rename_i hb; rw [if_neg hb]
  | .nilmap, _ => rfl
  | .agg cs, h => by simp only [DV.forget, DV.clean] at h ⊢; rw [clean_forgetL φ cs h]
  | .tup cs, h => by simp only [DV.forget, DV.clean] at h ⊢; rw [clean_forgetL φ cs h]
theorem clean_forgetL (φ : List Nat) : ∀ (l : List DV), cleanL (forgetL φ l) = true -> forgetL φ l = l
  | [], _ => rfl
  | x :: l, h => by
    simp only [forgetL, cleanL, Bool.and_eq_true] at h ⊢
    rw [clean_forget φ x h.1, clean_forgetL φ l h.2]
end
theorem blkClean_forget (φ : List Nat) (x : Option Blk) (h : blkClean (x.map (Blk.forget φ)) = true) : x.map (Blk.forget φ) = x := by
  cases x with
  | none => rfl
  | some b => cases b with
    | box cs => simp only [Option.map_some, Blk.forget, blkClean] at h ⊢; rw [clean_forgetL φ cs h]
    | row n es => rfl
    | iter s p => rfl
mutual
theorem forget_comm (φ ψ : List Nat) : ∀ (x : DV), (x.forget φ).forget ψ = (x.forget ψ).forget φ
  | .any => rfl
  | .unk => rfl
  | .bool _ => rfl
  | .int _ _ => rfl
  | .str _ => rfl
  | .nilptr => rfl
  | .ptr b n i off => by simp only [DV.forget]; by_cases h1 : φ.contains b <;> by_cases h2 : ψ.contains b <;> simp only [h1, h2, if_true, if_false, DV.forget, Bool.false_eq_true]
  | .eptr .. => rfl
  | .gptr .. => rfl
  | .nilsl => rfl
  | .rsl b n off len => by simp only [DV.forget]; by_cases h1 : φ.contains b <;> by_cases h2 : ψ.contains b <;> simp only [h1, h2, if_true, if_false, DV.forget, Bool.false_eq_true]
  | .psl .. => rfl
  | .fn f a c => by simp only [DV.forget]; rw [forgetL_comm φ ψ a, forgetL_comm φ ψ c]
  | .nilfn => rfl
  | .iface t v => by simp only [DV.forget]; rw [forget_comm φ ψ v]
  | .niliface => rfl
  | .map b => by simp only [DV.forget]; by_cases h1 : φ.contains b <;> by_cases h2 : ψ.contains b <;> simp only [h1, h2, if_true, if_false, DV.forget, Bool.false_eq_true]
  | .nilmap => rfl
  | .agg cs => by simp only [DV.forget]; rw [forgetL_comm φ ψ cs]
  | .tup cs => by simp only [DV.forget]; rw [forgetL_comm φ ψ cs]
theorem forgetL_comm (φ ψ : List Nat) : ∀ (l : List DV), forgetL ψ (forgetL φ l) = forgetL φ (forgetL ψ l)
  | [] => rfl
  | x :: l => by simp only [forgetL]; rw [forget_comm φ ψ x, forgetL_comm φ ψ l]
end
theorem forgetH_comm (φ ψ : List Nat) (h : Heap) : forgetH ψ (forgetH φ h) = forgetH φ (forgetH ψ h) := by
  unfold forgetH
  rw [List.map_map, List.map_map]
  apply List.map_congr_left
  intro x _
  cases x with
  | none => rfl
  | some b => cases b with
    | box cs => simp [Blk.forget, forgetL_comm φ ψ cs]
    | row n es => rfl
    | iter s p => rfl
theorem forgetL_eq_map (φ : List Nat) : ∀ l : List DV, forgetL φ l = l.map (DV.forget φ)
  | [] => rfl
  | x :: l => by simp [forgetL, forgetL_eq_map φ l]
theorem forgetL_set (φ : List Nat) (l : List DV) (d : Nat) (v : DV) : forgetL φ (l.set d v) = (forgetL φ l).set d (v.forget φ) := by
  rw [forgetL_eq_map, forgetL_eq_map, List.map_set]
theorem forgetL_len (φ : List Nat) (l : List DV) : (forgetL φ l).length = l.length := by simp [forgetL_eq_map]
theorem sget_forget (φ : List Nat) (l : List DV) (s : Nat) : sget (forgetL φ l) s = (sget l s).forget φ := by
  unfold sget
  rw [forgetL_eq_map, List.getD_eq_getElem?_getD, List.getD_eq_getElem?_getD, List.getElem?_map]
  cases l[s]? <;> rfl
theorem forgetH_setAll (φ : List Nat) : ∀ (δ : List (Nat × Option Blk)) (h : Heap), (∀ b ∈ δ.flatMap (fun x => boxMents x.2), b ∉ φ) -> forgetH φ (setAll h δ) = setAll (forgetH φ h) δ
  | [], h, _ => rfl
  | (c, y) :: δ, h, hb => by
    simp only [setAll]
    rw [forgetH_setAll φ δ _ fun b hb' => hb b (by simp only [List.flatMap_cons, List.mem_append]; exact .inr hb')]
    have hy : y.map (Blk.forget φ) = y := by
      cases y with
      | none => rfl
      | some z => simp only [Option.map_some]; rw [Blk.forget_id φ z fun c' hc => hb c' (by simp only [List.flatMap_cons, List.mem_append]; exact .inl hc)]
    have : forgetH φ (h.set c y) = (forgetH φ h).set c y := by
      unfold forgetH
      rw [List.map_set, hy]
    rw [this]
def foldSel (sel : Nat -> Bool) : Nat -> List (Oper × Out) -> St -> St
  | _, [], st => st
  | k, (o, out) :: l, st => foldSel sel (k + 1) l (if sel k then apply st o.dst out else st)
def ids (o : Out) : List Nat := o.δ.map (·.1)
theorem sget_set (t : List DV) (d : Nat) (v : DV) (s : Nat) (h : s ≠ d) : sget (t.set d v) s = sget t s := by
  unfold sget
  rw [List.getD_eq_getElem?_getD, List.getD_eq_getElem?_getD, List.getElem?_set_ne (Ne.symm h)]
theorem sget_set' (t t' : List DV) (d : Nat) (v : DV) (h : t.length = t'.length) : sget (t.set d v) d = sget (t'.set d v) d := by
  unfold sget
  simp [List.getD_eq_getElem?_getD, List.getElem?_set, h]
theorem apply_len (st : St) (dst : Option Nat) (o : Out) : (apply st dst o).t.length = st.t.length /\ (apply st dst o).h.length = st.h.length := by
  rw [apply_eq]
  cases dst <;> simp [setAll_length, forgetL_len, forgetH_length]
structure Seen (α : Type) where
  see : St -> α
  len : St -> Nat
  writes : Oper -> Out -> Bool
  forget : List Nat -> α -> α
  clean : α -> Bool
  ments : α -> List Nat
  len_apply : ∀ st (dst : Option Nat) o, len (apply st dst o) = len st
  skip : ∀ st (o : Oper) out, writes o out = false -> see (apply st o.dst out) = forget out.φ (see st)
  put : ∀ st st' (o : Oper) out, len st = len st' -> writes o out = true -> see (apply st o.dst out) = see (apply st' o.dst out)
  nil : ∀ u, forget [] u = u
  keep : ∀ φ u, clean (forget φ u) = true -> forget φ u = u
  apart : ∀ φ u, (∀ b ∈ ments u, b ∉ φ) -> forget φ u = u
theorem Seen.noWriter {α : Type} (S : Seen α) {sel : Nat -> Bool} : ∀ (l : List (Oper × Out)) (k : Nat) (st : St), (∀ j o out, l[j]? = some (o, out) -> sel (k + j) = true -> S.writes o out = false) -> 
    S.clean (S.see (foldSel sel k l st)) = true -> S.see (foldSel sel k l st) = S.see st
  | [], _, _, _, _ => rfl
  | (o, out) :: l, k, st, hw, hc => by
    simp only [foldSel] at hc ⊢
    have ih := S.noWriter l (k + 1) (if sel k then apply st o.dst out else st) (fun j o' out' hj hs => hw (j + 1) o' out' (by simpa using hj) (by rw [show k + (j + 1) = k + 1 + j by omega]; exact hs)) hc
    rw [ih]
    by_cases hs : sel k = true
    · rw [if_pos hs]
      rw [ih, if_pos hs] at hc
      have hwf := hw 0 o out rfl (by simpa using hs)
      rw [S.skip st o out hwf] at hc ⊢
      exact S.keep _ _ hc
    · rw [if_neg hs]
theorem Seen.same {α : Type} (S : Seen α) {sel sel' : Nat -> Bool} : ∀ (l : List (Oper × Out)) (k : Nat) (st st' : St), S.len st = S.len st' -> 
    (S.see st = S.see st' \/ ∃ (j : Nat) (o : Oper) (out : Out), l[j]? = some (o, out) /\ sel' (k + j) = true /\ S.writes o out = true) -> 
    (∀ j o out, l[j]? = some (o, out) -> S.writes o out = true -> sel (k + j) = sel' (k + j)) -> 
    (∀ j o out, l[j]? = some (o, out) -> sel (k + j) ≠ sel' (k + j) -> out.φ = [] \/ (S.clean (S.see (foldSel sel' k l st')) = true /\ ∀ b ∈ S.ments (S.see (foldSel sel' k l st')), b ∉ out.φ)) -> 
    S.see (foldSel sel k l st) = S.see (foldSel sel' k l st')
  | [], _, _, _, _, h, _, _ => by
    rcases h with h | ⟨j, o, out, h, _⟩
    · exact h
    · simp at h
  | (o, out) :: l, k, st, st', hl, h, hside, hdiff => by
    have e1 : ∀ j, k + (j + 1) = k + 1 + j := fun j => by omega
    simp only [foldSel] at hdiff ⊢
    have hside' : ∀ j o' out', l[j]? = some (o', out') -> S.writes o' out' = true -> sel (k + 1 + j) = sel' (k + 1 + j) := fun j o' out' hj hw => by
      have := hside (j + 1) o' out' (by simpa using hj) hw; rwa [e1] at this
    have hdiff' : ∀ j o' out', l[j]? = some (o', out') -> sel (k + 1 + j) ≠ sel' (k + 1 + j) -> out'.φ = [] \/ _ := fun j o' out' hj hd =>
      hdiff (j + 1) o' out' (by simpa using hj) (by rw [e1]; exact hd)
    have hl' : S.len (if sel k then apply st o.dst out else st) = S.len (if sel' k then apply st' o.dst out else st') := by
      split <;> split <;> simp only [S.len_apply, hl]
    refine S.same l (k + 1) _ _ hl' ?_ hside' hdiff'
    -- a writer behind?
    by_cases hwr : ∃ (j : Nat) (o' : Oper) (out' : Out), l[j]? = some (o', out') /\ sel' (k + 1 + j) = true /\ S.writes o' out' = true
    · exact .inr hwr
    · refine .inl ?_
      have hnw : ∀ j o' out', l[j]? = some (o', out') -> sel' (k + 1 + j) = true -> S.writes o' out' = false := fun j o' out' hj hs => by
        cases hw : S.writes o' out' with
        | false => rfl
        | true => exact absurd ⟨j, o', out', hj, hs, hw⟩ hwr
      cases hw : S.writes o out with
      | true =>
        have hs := hside 0 o out rfl hw
        simp only [Nat.add_zero] at hs
        rw [hs]
        cases hk : sel' k with
        | true => simp only [if_true]; exact S.put _ _ _ _ hl hw
        | false =>
          simp only [Bool.false_eq_true, if_false]
          rcases h with h | ⟨j, o', out', h1, h2, h3⟩
          · exact h
          · cases j with
            | zero => simp only [Nat.add_zero] at h2; rw [hk] at h2; cases h2
            | succ j => exact absurd ⟨j, o', out', by simpa using h1, by rw [← e1]; exact h2, h3⟩ hwr
      | false =>
        have heq : S.see st = S.see st' := by
          rcases h with h | ⟨j, o', out', h1, h2, h3⟩
          · exact h
          · cases j with
            | zero =>
              simp only [List.getElem?_cons_zero, Option.some.injEq, Prod.mk.injEq] at h1
              obtain ⟨rfl, rfl⟩ := h1
              rw [hw] at h3; cases h3
            | succ j => exact absurd ⟨j, o', out', by simpa using h1, by rw [← e1]; exact h2, h3⟩ hwr
        by_cases hs : sel k = sel' k
        · rw [hs]
          cases sel' k with
          | true => simp only [if_true]; rw [S.skip _ _ _ hw, S.skip _ _ _ hw, heq]
          | false => simpa using heq
        · have hd := hdiff 0 o out rfl (by simpa using hs)
          rcases hd with hd | ⟨hc, hm⟩
          · have e2 : ∀ st, S.see (apply st o.dst out) = S.see st := fun st => by rw [S.skip _ _ _ hw, hd, S.nil]
            split <;> split <;> simp only [e2, heq]
          · have hfin := S.noWriter l (k + 1) _ hnw hc
            rw [hfin] at hc hm
            cases hk' : sel' k with
            | true =>
              have hk : sel k = false := by cases hk : sel k with | false => rfl | true => exact absurd (hk.trans hk'.symm) hs
              rw [hk'] at hc
              simp only [if_true] at hc
              simp only [hk, if_true, Bool.false_eq_true, if_false]
              rw [S.skip _ _ _ hw] at hc ⊢
              rw [S.keep _ _ hc, heq]
            | false =>
              have hk : sel k = true := by cases hk : sel k with | true => rfl | false => exact absurd (hk.trans hk'.symm) hs
              rw [hk'] at hm
              simp only [Bool.false_eq_true, if_false] at hm
              simp only [hk, if_true, Bool.false_eq_true, if_false]
              rw [S.skip _ _ _ hw, heq]
              exact S.apart _ _ hm
def seenSlot (s : Nat) : Seen DV where
  see st := sget st.t s
  len st := st.t.length
  writes o _ := o.dst == some s
  forget φ u := u.forget φ
  clean := DV.clean
  ments := DV.ments
  len_apply st dst o := (apply_len st dst o).1
  skip st o out h := by
    have hd : o.dst ≠ some s := by simpa using h
    rw [apply_eq]
    cases hd' : o.dst with
    | none => exact sget_forget _ _ _
    | some d =>
      simp only
      rw [sget_set _ _ _ _ (fun e => hd (by rw [hd', e])), sget_forget]
  put st st' o out hl h := by
    have hd : o.dst = some s := by simpa using h
    rw [apply_eq, apply_eq, hd]
    exact sget_set' _ _ _ _ (by simpa [forgetL_len] using hl)
  nil u := by
    have := forgetL_nil [u]
    simpa [forgetL] using this
  keep φ u h := clean_forget φ u h
  apart φ u h := forget_id φ u h
theorem setAll_get_mem : ∀ (δ : List (Nat × Option Blk)) (h h' : Heap) (b : Nat), h.length = h'.length -> (hget h b = hget h' b \/ b ∈ δ.map (·.1)) -> hget (setAll h δ) b = hget (setAll h' δ) b
  | [], h, h', b, _, hb => by simpa [setAll] using hb
  | (c, x) :: δ, h, h', b, hl, hb => by
    simp only [setAll]
    apply setAll_get_mem δ _ _ _ (by simpa using hl)
    rw [hget_set, hget_set]
    by_cases hbc : b = c
    · subst hbc; simp [hl]
    · rcases hb with hb | hb
      · simp [hbc, hb]
      · simp [hbc] at hb ⊢; exact .inr hb
def seenBlk (b : Nat) : Seen (Option Blk) where
  see st := hget st.h b
  len st := st.h.length
  writes _ out := (ids out).contains b
  forget φ u := u.map (Blk.forget φ)
  clean := blkClean
  ments := boxMents
  len_apply st dst o := (apply_len st dst o).2
  skip st o out h := by
    have hd : b ∉ ids out := by simpa using h
    rw [apply_eq]
    simp only
    rw [setAll_get _ _ _ fun x hx e => hd (List.mem_map.2 ⟨x, hx, e⟩), hget_forget]
  put st st' o out hl h := by
    have hd : b ∈ ids out := by simpa using h
    rw [apply_eq, apply_eq]
    simp only
    exact setAll_get_mem _ _ _ _ (by simpa [forgetH_length] using hl) (.inr hd)
  nil u := by
    cases u with
    | none => rfl
    | some x => cases x <;> simp [Blk.forget, forgetL_nil]
  keep φ u h := blkClean_forget φ u h
  apart φ u h := by
    cases u with
    | none => rfl
    | some x => simp only [Option.map_some]; rw [Blk.forget_id φ x h]
theorem setAll_set_comm : ∀ (δ : List (Nat × Option Blk)) (h : Heap) (b : Nat) (x : Option Blk), b ∉ δ.map (·.1) -> setAll (h.set b x) δ = (setAll h δ).set b x
  | [], h, b, x, _ => rfl
  | (c, y) :: δ, h, b, x, hb => by
    simp only [setAll]
    simp at hb
    rw [List.set_comm _ _ (hb.1), setAll_set_comm δ _ b x (by simpa using hb.2)]
theorem setAll_comm : ∀ (δ δ' : List (Nat × Option Blk)) (h : Heap), (∀ b ∈ δ.map (·.1), b ∉ δ'.map (·.1)) -> setAll (setAll h δ) δ' = setAll (setAll h δ') δ
  | [], δ', h, _ => rfl
  | (c, y) :: δ, δ', h, hb => by
    simp only [setAll]
    rw [setAll_comm δ δ' _ fun b hb' => hb b (by simp at hb' ⊢; exact .inr hb'), setAll_set_comm δ' h c y (hb c (by simp))]
structure CommB (o : Oper) (out : Out) (o' : Oper) (out' : Out) : Prop where
  dst : ∀ d, o.dst = some d -> o'.dst ≠ some d
  blk : ∀ b ∈ ids out, b ∉ ids out'
  f1 : ∀ b ∈ outMents out, b ∉ out'.φ
  f2 : ∀ b ∈ outMents out', b ∉ out.φ
theorem apply_comm {st : St} {o o' : Oper} {out out' : Out} (h : CommB o out o' out') : apply (apply st o.dst out) o'.dst out' = apply (apply st o'.dst out') o.dst out := by
  have v1 : out.v.forget out'.φ = out.v := forget_id _ _ fun b hb => h.f1 b (List.mem_append_left _ hb)
  have v2 : out'.v.forget out.φ = out'.v := forget_id _ _ fun b hb => h.f2 b (List.mem_append_left _ hb)
  rw [apply_eq, apply_eq, apply_eq, apply_eq]
  simp only
  rw [forgetH_setAll _ _ _ fun b hb => h.f1 b (List.mem_append_right _ hb), forgetH_setAll _ _ _ fun b hb => h.f2 b (List.mem_append_right _ hb), setAll_comm _ _ _ h.blk, forgetH_comm]
  simp only [St.mk.injEq, and_true]
  cases hd : o.dst with
  | none =>
    cases o'.dst with
    | none => exact forgetL_comm _ _ _
    | some d' => simp only; rw [forgetL_set, v2, forgetL_comm]
  | some d =>
    cases hd' : o'.dst with
    | none => simp only; rw [forgetL_set, v1, forgetL_comm]
    | some d' =>
      simp only
      rw [forgetL_set, forgetL_set, v1, v2, forgetL_comm]
      exact List.set_comm _ _ (fun e => h.dst d hd (by rw [hd', e]))
theorem foldSel_push {sel : Nat -> Bool} {oi : Oper} {outi : Out} : ∀ (l : List (Oper × Out)) (k : Nat) (st : St), (∀ j o out, l[j]? = some (o, out) -> sel (k + j) = true -> CommB oi outi o out) -> 
    foldSel sel k l (apply st oi.dst outi) = apply (foldSel sel k l st) oi.dst outi
  | [], _, _, _ => rfl
  | (o, out) :: l, k, st, h => by
    simp only [foldSel]
    have hr : ∀ j o' out', l[j]? = some (o', out') -> sel (k + 1 + j) = true -> CommB oi outi o' out' := fun j o' out' hj hs =>
      h (j + 1) o' out' (by simpa using hj) (by rw [show k + (j + 1) = k + 1 + j by omega]; exact hs)
    by_cases hs : sel k = true
    · simp only [hs, if_true]
      rw [apply_comm (h 0 o out rfl (by simpa using hs))]
      exact foldSel_push l (k + 1) _ hr
    · simp only [hs]
      exact foldSel_push l (k + 1) _ hr
theorem foldSel_insert {sel sel' : Nat -> Bool} {i : Nat} {oi : Oper} {outi : Out} : ∀ (l : List (Oper × Out)) (k : Nat) (st : St), k <= i -> l[i - k]? = some (oi, outi) -> sel i = false -> 
    (∀ j, sel' j = (sel j || j == i)) -> (∀ j o out, l[j]? = some (o, out) -> i < k + j -> sel (k + j) = true -> CommB oi outi o out) -> 
    foldSel sel' k l st = apply (foldSel sel k l st) oi.dst outi
  | [], k, st, _, hi, _, _, _ => by simp at hi
  | (o, out) :: l, k, st, hk, hi, hs, hs', h => by
    have hr : ∀ j o' out', l[j]? = some (o', out') -> i < k + 1 + j -> sel (k + 1 + j) = true -> CommB oi outi o' out' := fun j o' out' hj hij hs =>
      h (j + 1) o' out' (by simpa using hj) (by omega) (by rw [show k + (j + 1) = k + 1 + j by omega]; exact hs)
    simp only [foldSel]
    by_cases hki : k = i
    · subst hki
      simp at hi
      obtain ⟨rfl, rfl⟩ := hi
      rw [hs' k, hs]
      simp only [beq_self_eq_true, Bool.or_true, if_true, Bool.false_eq_true, if_false]
      rw [show foldSel sel' (k + 1) l (apply st o.dst out) = foldSel sel (k + 1) l (apply st o.dst out) from ?_]
      · exact foldSel_push l (k + 1) st fun j o' out' hj hs => hr j o' out' hj (by omega) hs
      · have key : ∀ (l : List (Oper × Out)) (q : Nat) (st : St), k < q -> foldSel sel' q l st = foldSel sel q l st := by
          intro l
          induction l with
          | nil => intro q st _; rfl
          | cons x l ih =>
            intro q st hq
            obtain ⟨o', out'⟩ := x
            simp only [foldSel]
            have : sel' q = sel q := by rw [hs' q]; have : (q == k) = false := by simp; omega
                                        rw [this, Bool.or_false]
            rw [this]
            exact ih _ _ (by omega)
        exact key l (k + 1) _ (by omega)
    · have : sel' k = sel k := by rw [hs' k]; have : (k == i) = false := by simpa using hki
                                  rw [this, Bool.or_false]
      rw [this]
      have hi' : l[i - (k + 1)]? = some (oi, outi) := by
        rw [show i - k = (i - (k + 1)) + 1 by omega] at hi
        simpa using hi
      exact foldSel_insert l (k + 1) _ (by omega) hi' hs hs' hr
end Go.Det
end
