/- TextMovesCardSaid: part 5 of the texts behind it: Det7, Det8, Det9, Det11, Det12. No premise of its own. -/
import Derived.Test.YtpfjeinhmmmhkaaGreatDoorD4
import Derived.IntWalk
set_option linter.all false
section
namespace Go.Det
def pickP (c a b : DV) (k : DV -> Prop) : Prop :=
  match c with
  | .bool c => brB c (k a) (k b)
  | _ => False
def appendP (C : Cfg) (h : Heap) (dst t : Nat) (s x : DV) (k : Out -> Prop) : Prop :=
  match s with
  | .rsl b n off len =>
    match C.T t with
    | some ti => match ti.d with
      | .sl e => match C.T e with
        | some te =>
          if te.size = 0 \/ te.zero.length ≠ te.size then False else
          match elems h te.size x, hget h b with
          | some xs, some (.row m es) =>
            if n = te.size /\ m = n then
              obB (decide (off + len <= es.length)) (obB (roomy te.bytes (len + xs.length))
                (k { v := .rsl dst n 0 (len + xs.length), δ := [(b, none), (dst, some (.row n ((es.drop off).take len ++ xs)))], φ := [b, dst] }))
            else False
          | _, _ => False
        | none => False
      | _ => False
    | none => False
  | s => onS (appendOp C h dst t s x) k
theorem appendP_ok {C : Cfg} {h : Heap} {dst t : Nat} {s x : DV} {k : Out -> Prop} (hh : appendP C h dst t s x k) : ∃ out, appendOp C h dst t s x = some out /\ k out := by
  unfold appendP at hh
  split at hh
  · split at hh
    · rename_i ti hti
      split at hh
      · rename_i e hd
        split at hh
        · rename_i te hte
          split at hh
          · exact hh.elim
          · rename_i hz
            split at hh
            · rename_i xs m es hxs hrow
              split at hh
              · rename_i hn
                obtain ⟨h1, h2⟩ := obB_ok hh
                obtain ⟨h3, h4⟩ := obB_ok h2
                have h1 := of_decide_eq_true h1
                refine ⟨_, ?_, h4⟩
                unfold appendOp
                simp only [hti, hd, hte, if_neg hz, hxs, hrow]
                rw [if_pos ⟨hn.1, hn.2, h1, h3⟩]
              · exact hh.elim
            · exact hh.elim
        · exact hh.elim
      · exact hh.elim
    · exact hh.elim
  · exact onS_ok hh
def storeP (C : Cfg) (h : Heap) (t : Nat) (a v : DV) (k : Out -> Prop) : Prop :=
  match a with
  | .ptr b n i off => match hget h b with
    | some (.row m es) => match C.T t with
      | some ti => if v.cells.length = ti.size /\ ti.size ≠ 0 /\ n = m /\ off = 0 /\ ti.size = n /\ v.pure = true then
          obB (decide (i < es.length)) (k { v := .tup [], δ := [(b, some (.row m (es.set i v)))] }) else onS (storeOp C h t (.ptr b n i off) v) k
      | none => False
    | _ => onS (storeOp C h t a v) k
  | a => onS (storeOp C h t a v) k
theorem storeP_ok {C : Cfg} {h : Heap} {t : Nat} {a v : DV} {k : Out -> Prop} (hh : storeP C h t a v k) : ∃ out, storeOp C h t a v = some out /\ k out := by
  unfold storeP at hh
  split at hh
  · split at hh
    · rename_i m es hrow
      split at hh
      · rename_i ti hti
        split at hh
        · rename_i hc
          obtain ⟨c1, c2, c3, c4, c5, c6⟩ := hc
          obtain ⟨h1, h2⟩ := obB_ok hh
          have h1 := of_decide_eq_true h1
          refine ⟨_, ?_, h2⟩
          unfold storeOp
          simp only [hti, hrow]
          rw [if_neg (by simp [c1, c2]), if_pos ⟨c3, c6⟩, List.getElem?_eq_getElem h1]
          simp only
          rw [if_pos ⟨c4, c5⟩]
        · exact onS_ok hh
      · exact hh.elim
    · exact onS_ok hh
  · exact onS_ok hh
def quietP (c : Option Bool) (ex : Bool) (C : Cfg) (f : Nat) (an : Nat -> Option DV) (t : List DV) (h : Heap) (dst : Option Nat) (op : Op) (k : DV -> Prop) : Option Prop :=
  match op with
  | .move x => some (k (opnd t x))
  | .assign x => some (k (opnd t x))
  | .load ty a => some (loadP c C h (dst.bind an) ty (opnd t a) k)
  | .binOp op ty x y _ => some (if nilPair (opnd t x) (opnd t y) && !(isC x || isC y) then False else binP c ex C.T op ty (opnd t x) (opnd t y) k)
  | .slice ty x lo hi none => some (sliceP c C.T ty (opnd t x) (lo.map (opnd t)) (hi.map (opnd t)) k)
  | .indexAddr ty x i => some (indexAddrP c C.T ty (opnd t x) (opnd t i) k)
  | .index ty x i => some (indexP c C.T ty (opnd t x) (opnd t i) k)
  | .unOp op _ x => some (onS (unOp op (opnd t x)) k)
  | .fieldAddr ty x fi => some (onS (fieldAddrOp C.T ty (opnd t x) fi) k)
  | .field ty x fi => some (onS (fieldOp C.T ty (opnd t x) fi) k)
  | .build ty ps => some (onS (buildOp C.T ty (parts t ps)) k)
  | .extract x ix => some (match opnd t x with | .tup vs => onS vs[ix]? k | _ => False)
  | .nilCheck x => some (match opnd t x with
    | .ptr b n i off => k (.ptr b n i off)
    | .eptr n es i off => k (.eptr n es i off)
    | _ => False)
  | .call { callee := .builtin .len, args := as1, argTypes := ts } => some (match as1.toList, ts.toList with
    | [x], ty :: _ => onS (lenOp C.T ty (opnd t x)) k
    | _, _ => False)
  | _ => none
theorem quietP_ok {c : Option Bool} {ex : Bool} {C : Cfg} {f : Nat} {an : Nat -> Option DV} {t : List DV} {h : Heap} {dst : Option Nat} {op : Op} {k : DV -> Prop} {p : Prop} (hq : quietP c ex C f an t h dst op k = some p) (hh : p) :
    ∃ v, (OnC c -> act C f t h dst op = some { v := v }) /\ k v := by
  unfold quietP at hq
  split at hq
  · simp only [Option.some.injEq] at hq; subst hq; exact ⟨_, fun _ => rfl, hh⟩
  · simp only [Option.some.injEq] at hq; subst hq; exact ⟨_, fun _ => rfl, hh⟩
  · simp only [Option.some.injEq] at hq; subst hq
    obtain ⟨v, h1, h2⟩ := loadP_ok hh
    exact ⟨v, fun hc => by simp only [act, h1 hc, pv, Option.map_some], h2⟩
  · simp only [Option.some.injEq] at hq; subst hq
    split at hh
    · exact hh.elim
    · rename_i hn
      obtain ⟨v, h1, h2⟩ := binP_ok hh
      exact ⟨_, fun hc => by simp only [act]; rw [if_neg hn, h1 hc]; rfl, h2⟩
  · simp only [Option.some.injEq] at hq; subst hq
    obtain ⟨v, h1, h2⟩ := sliceP_ok hh
    exact ⟨_, fun hc => by simp only [act, h1 hc, pv, Option.map_some], h2⟩
  · simp only [Option.some.injEq] at hq; subst hq
    obtain ⟨v, h1, h2⟩ := indexAddrP_ok hh
    exact ⟨_, fun hc => by simp only [act, h1 hc, pv, Option.map_some], h2⟩
  · simp only [Option.some.injEq] at hq; subst hq
    obtain ⟨v, h1, h2⟩ := indexP_ok hh
    exact ⟨_, fun hc => by simp only [act, h1 hc, pv, Option.map_some], h2⟩
  · simp only [Option.some.injEq] at hq; subst hq
    obtain ⟨v, h1, h2⟩ := onS_ok hh
    exact ⟨_, fun hc => by simp only [act, h1, pv, Option.map_some], h2⟩
  · simp only [Option.some.injEq] at hq; subst hq
    obtain ⟨v, h1, h2⟩ := onS_ok hh
    exact ⟨_, fun hc => by simp only [act, h1, pv, Option.map_some], h2⟩
  · simp only [Option.some.injEq] at hq; subst hq
    obtain ⟨v, h1, h2⟩ := onS_ok hh
    exact ⟨_, fun hc => by simp only [act, h1, pv, Option.map_some], h2⟩
  · simp only [Option.some.injEq] at hq; subst hq
    obtain ⟨v, h1, h2⟩ := onS_ok hh
    exact ⟨_, fun hc => by simp only [act, h1, pv, Option.map_some], h2⟩
  · simp only [Option.some.injEq] at hq; subst hq
    split at hh
    · rename_i vs hx
      obtain ⟨v, h1, h2⟩ := onS_ok hh
      exact ⟨_, fun hc => by simp only [act, hx, h1, pv, Option.map_some], h2⟩
    · exact hh.elim
  · simp only [Option.some.injEq] at hq; subst hq
    split at hh
    · rename_i hx; exact ⟨_, fun hc => by simp only [act, hx], hh⟩
    · rename_i hx; exact ⟨_, fun hc => by simp only [act, hx], hh⟩
    · exact hh.elim
  · simp only [Option.some.injEq] at hq; subst hq
    split at hh
    · rename_i x ty l has hts
      obtain ⟨v, h1, h2⟩ := onS_ok hh
      exact ⟨_, fun hc => by simp only [act, has, hts, h1, pv, Option.map_some], h2⟩
    · exact hh.elim
  · simp at hq
def nextP (an : Option DV) (h : Heap) (it : DV) (k : Out -> Prop) : Prop :=
  match it with
  | .ptr b 0 0 0 => match hget h b with
    | some (.iter s pos) => match an with
      | some (.ptr c w 0 0) => brB (decide (pos < s.length)) (Utf8.decode ⟨s.toArray⟩ pos = (c, w) /\ k { v := .tup [.bool true, .int .i64 pos, .int .i32 c], δ := [(b, some (.iter s (pos + w)))] }) (k { v := .tup [.bool false] })
      | _ => False
    | _ => False
  | _ => False
theorem nextP_ok {C : Cfg} {f : Nat} {t : List DV} {an : Option DV} {h : Heap} {dst : Option Nat} {it : Operand} {k : Out -> Prop} (hh : nextP an h (opnd t it) k) : ∃ out, act C f t h dst (.next it true) = some out /\ k out := by
  unfold nextP at hh
  split at hh
  · rename_i b hb
    split at hh
    · rename_i s pos hr
      split at hh
      · rename_i c w
        rcases brB_ok hh with ⟨h1, h2, h3⟩ | ⟨h1, h2⟩
        · have h1 := of_decide_eq_true h1
          refine ⟨_, ?_, h3⟩
          simp only [act, hb, hr, if_pos h1, h2]
        · have h1 := of_decide_eq_false h1
          refine ⟨_, ?_, h2⟩
          simp only [act, hb, hr, if_neg h1]
      · exact hh.elim
    · exact hh.elim
  · exact hh.elim
def actP (ex : Bool) (C : Cfg) (f : Nat) (an : Nat -> Option DV) (t : List DV) (h : Heap) (dst : Option Nat) (op : Op) (k : Out -> Prop) : Prop :=
  match quietP none ex C f an t h dst op (fun v => k { v := v }) with
  | some p => p
  | none => match op with
    | .pick c a b => pickP (opnd t c) (opnd t a) (opnd t b) fun v => k { v := v }
    | .store ty a v => storeP C h ty (opnd t a) (opnd t v) k
    | .call { callee := .builtin .append, args := as1, argTypes := ts } =>
      match as1.toList, ts.toList, dst with
      | [s, x], [ty, tx], some d => (match C.T tx with | some ux => (match ux.d with | .sl _ => appendP C h d ty (opnd t s) (opnd t x) k | .str => appendP C h d ty (opnd t s) (opnd t x) k | _ => False) | _ => False)
      | _, _, _ => False
    | .next it true => match dst with
      | some d => (match an d with
        | some a => nextP (some a) h (opnd t it) k
        | none => onS (act C f t h dst (.next it true)) k)
      | none => onS (act C f t h dst (.next it true)) k
    | op => onS (act C f t h dst op) k
theorem actP_ok {ex : Bool} {C : Cfg} {f : Nat} {an : Nat -> Option DV} {t : List DV} {h : Heap} {dst : Option Nat} {op : Op} {k : Out -> Prop} (hh : actP ex C f an t h dst op k) : ∃ out, act C f t h dst op = some out /\ k out := by
  unfold actP at hh
  split at hh
  · rename_i p hq
    obtain ⟨v, h1, h2⟩ := quietP_ok hq hh
    exact ⟨_, h1 trivial, h2⟩
  · rename_i hqn
    clear hqn
    split at hh
    · rename_i c a b
      unfold pickP at hh
      split at hh
      · rename_i c' hc
        rcases brB_ok hh with ⟨h1, h2⟩ | ⟨h1, h2⟩
        · exact ⟨_, by simp only [act, hc, h1]; rfl, h2⟩
        · exact ⟨_, by simp only [act, hc, h1]; rfl, h2⟩
      · exact hh.elim
    · obtain ⟨v, h1, h2⟩ := storeP_ok hh
      exact ⟨_, by simp only [act, h1], h2⟩
    · split at hh
      · rename_i s x ty tx d has hts
        split at hh
        · rename_i ux hux
          split at hh
          · rename_i e hd
            obtain ⟨v, h1, h2⟩ := appendP_ok hh
            exact ⟨_, by simp only [act, has, hts, hux, hd, h1], h2⟩
          · rename_i hd
            obtain ⟨v, h1, h2⟩ := appendP_ok hh
            exact ⟨_, by simp only [act, has, hts, hux, hd, h1], h2⟩
          · exact hh.elim
        · exact hh.elim
      · exact hh.elim
    · split at hh
      · split at hh
        · exact nextP_ok hh
        · exact onS_ok hh
      · exact onS_ok hh
    · exact onS_ok hh
def viewP (h : Heap) (b n off len : Nat) (k : DV -> Prop) : Prop :=
  match hget h b with
  | some (.row m es) => if m = n then obB (decide (off + len <= es.length)) (k (.psl n ((es.drop off).take len))) else False
  | _ => False
theorem viewP_ok {h : Heap} {b n off len : Nat} {k : DV -> Prop} (hh : viewP h b n off len k) : ∃ v, viewRow h b n off len = some v /\ k v := by
  unfold viewP at hh
  split at hh
  · rename_i m es hr
    split at hh
    · rename_i hm
      obtain ⟨h1, h2⟩ := obB_ok hh
      exact ⟨_, by unfold viewRow; rw [hr]; simp only; rw [if_pos ⟨hm, of_decide_eq_true h1⟩], h2⟩
    · exact hh.elim
  · exact hh.elim
mutual
def sealVP (h : Heap) : DV -> (DV -> Prop) -> Prop
  | .rsl b n off len, k => viewP h b n off len k
  | .ptr .., _ => False
  | .map _, _ => False
  | .any, _ => False
  | .unk, _ => False
  | .fn f a c, k => sealLP h a fun a' => sealLP h c fun c' => k (.fn f a' c')
  | .iface t v, k => sealVP h v fun v' => k (.iface t v')
  | .agg cs, k => sealLP h cs fun cs' => k (.agg cs')
  | .tup vs, k => sealLP h vs fun vs' => k (.tup vs')
  | v, k => k v
def sealLP (h : Heap) : List DV -> (List DV -> Prop) -> Prop
  | [], k => k []
  | v :: l, k => sealVP h v fun v' => sealLP h l fun l' => k (v' :: l')
end
mutual
theorem sealVP_ok {h : Heap} : ∀ {v : DV} {k : DV -> Prop}, sealVP h v k -> ∃ v', sealV h v = some v' /\ k v'
  | .rsl b n off len, k, hh => viewP_ok hh
  | .ptr .., _, hh => hh.elim
  | .map _, _, hh => hh.elim
  | .any, _, hh => hh.elim
  | .unk, _, hh => hh.elim
  | .fn f a c, k, hh => by
    obtain ⟨a', h1, h2⟩ := sealLP_ok (v := a) hh
    obtain ⟨c', h3, h4⟩ := sealLP_ok (v := c) h2
    exact ⟨_, by simp only [sealV, h1, h3], h4⟩
  | .iface t v, k, hh => by
    obtain ⟨v', h1, h2⟩ := sealVP_ok (v := v) hh
    exact ⟨_, by simp only [sealV, h1, Option.map_some], h2⟩
  | .agg cs, k, hh => by
    obtain ⟨v', h1, h2⟩ := sealLP_ok (v := cs) hh
    exact ⟨_, by simp only [sealV, h1, Option.map_some], h2⟩
  | .tup cs, k, hh => by
    obtain ⟨v', h1, h2⟩ := sealLP_ok (v := cs) hh
    exact ⟨_, by simp only [sealV, h1, Option.map_some], h2⟩
  | .bool _, k, hh => ⟨_, rfl, hh⟩
  | .int _ _, k, hh => ⟨_, rfl, hh⟩
  | .str _, k, hh => ⟨_, rfl, hh⟩
  | .nilptr, k, hh => ⟨_, rfl, hh⟩
  | .eptr .., k, hh => ⟨_, rfl, hh⟩
  | .gptr .., k, hh => ⟨_, rfl, hh⟩
  | .nilsl, k, hh => ⟨_, rfl, hh⟩
  | .psl .., k, hh => ⟨_, rfl, hh⟩
  | .nilfn, k, hh => ⟨_, rfl, hh⟩
  | .niliface, k, hh => ⟨_, rfl, hh⟩
  | .nilmap, k, hh => ⟨_, rfl, hh⟩
theorem sealLP_ok {h : Heap} : ∀ {v : List DV} {k : List DV -> Prop}, sealLP h v k -> ∃ v', sealL h v = some v' /\ k v'
  | [], k, hh => ⟨[], rfl, hh⟩
  | v :: l, k, hh => by
    obtain ⟨v', h1, h2⟩ := sealVP_ok (v := v) hh
    obtain ⟨l', h3, h4⟩ := sealLP_ok (v := l) h2
    exact ⟨_, by simp only [sealL, h1, h3], h4⟩
end
def sealBP (h : Heap) : Blk -> (Blk -> Prop) -> Prop
  | .box cs, k => sealLP h cs fun cs' => k (.box cs')
  | b, k => k b
theorem sealBP_ok {h : Heap} {b : Blk} {k : Blk -> Prop} (hh : sealBP h b k) : ∃ b', sealB h b = some b' /\ k b' := by
  cases b with
  | box cs =>
    obtain ⟨v', h1, h2⟩ := sealLP_ok (v := cs) hh
    exact ⟨_, by simp only [sealB, h1, Option.map_some], h2⟩
  | row n es => exact ⟨_, rfl, hh⟩
  | iter s p => exact ⟨_, rfl, hh⟩
def sealBsP (h : Heap) : List (Option Blk) -> (List Blk -> Prop) -> Prop
  | [], k => k []
  | some b :: l, k => sealBP h b fun b' => sealBsP h l fun l' => k (b' :: l')
  | none :: _, _ => False
theorem sealBsP_ok {h : Heap} : ∀ {l : List (Option Blk)} {k : List Blk -> Prop}, sealBsP h l k -> ∃ l', sealBs h l = some l' /\ k l'
  | [], k, hh => ⟨[], rfl, hh⟩
  | some b :: l, k, hh => by
    obtain ⟨v', h1, h2⟩ := sealBP_ok hh
    obtain ⟨l', h3, h4⟩ := sealBsP_ok (l := l) h2
    exact ⟨_, by simp only [sealBs, h1, h3], h4⟩
  | none :: _, _, hh => hh.elim
mutual
def impP (h : Heap) (base : Nat) : DV -> Imp -> (DV -> Imp -> Prop) -> Prop
  | .ptr b n i off, s, k => if i = 0 /\ off = 0 then k (.ptr (base + (s.ext b).1) n 0 0) (s.ext b).2 else False
  | .map b, s, k => k (.map (base + (s.ext b).1)) (s.ext b).2
  | .rsl b n off len, s, k => viewP h b n off len fun v => k v { s with views := b :: s.views }
  | .fn f a c, s, k => impLP h base a s fun a' s1 => impLP h base c s1 fun c' s2 => k (.fn f a' c') s2
  | .iface t v, s, k => impP h base v s fun v' s1 => k (.iface t v') s1
  | .agg cs, s, k => impLP h base cs s fun cs' s1 => k (.agg cs') s1
  | .tup vs, s, k => impLP h base vs s fun vs' s1 => k (.tup vs') s1
  | .any, _, _ => False
  | .unk, _, _ => False
  | v, s, k => k v s
def impLP (h : Heap) (base : Nat) : List DV -> Imp -> (List DV -> Imp -> Prop) -> Prop
  | [], s, k => k [] s
  | v :: l, s, k => impP h base v s fun v' s1 => impLP h base l s1 fun l' s2 => k (v' :: l') s2
end
mutual
theorem impP_ok {h : Heap} {base : Nat} : ∀ {v : DV} {s : Imp} {k : DV -> Imp -> Prop}, impP h base v s k -> ∃ v' s', imp h base v s = some (v', s') /\ k v' s'
  | .ptr b n i off, s, k, hh => by
    unfold impP at hh
    split at hh
    · rename_i hc; exact ⟨_, _, by unfold imp; rw [if_pos hc], hh⟩
    · exact hh.elim
  | .map b, s, k, hh => ⟨_, _, rfl, hh⟩
  | .rsl b n off len, s, k, hh => by
    obtain ⟨v, h1, h2⟩ := viewP_ok (h := h) (b := b) (n := n) (off := off) (len := len) hh
    exact ⟨_, _, by simp only [imp, h1, Option.map_some], h2⟩
  | .fn f a c, s, k, hh => by
    obtain ⟨a', s1, h1, h2⟩ := impLP_ok (v := a) hh
    obtain ⟨c', s2, h3, h4⟩ := impLP_ok (v := c) h2
    exact ⟨_, _, by simp only [imp, h1, h3, Option.map_some], h4⟩
  | .iface t v, s, k, hh => by
    obtain ⟨v', s1, h1, h2⟩ := impP_ok (v := v) hh
    exact ⟨_, _, by simp only [imp, h1, Option.map_some], h2⟩
  | .agg cs, s, k, hh => by
    obtain ⟨v', s1, h1, h2⟩ := impLP_ok (v := cs) hh
    exact ⟨_, _, by simp only [imp, h1, Option.map_some], h2⟩
  | .tup cs, s, k, hh => by
    obtain ⟨v', s1, h1, h2⟩ := impLP_ok (v := cs) hh
    exact ⟨_, _, by simp only [imp, h1, Option.map_some], h2⟩
  | .any, _, _, hh => hh.elim
  | .unk, _, _, hh => hh.elim
  | .bool _, s, k, hh => ⟨_, _, rfl, hh⟩
  | .int _ _, s, k, hh => ⟨_, _, rfl, hh⟩
  | .str _, s, k, hh => ⟨_, _, rfl, hh⟩
  | .nilptr, s, k, hh => ⟨_, _, rfl, hh⟩
  | .eptr .., s, k, hh => ⟨_, _, rfl, hh⟩
  | .gptr .., s, k, hh => ⟨_, _, rfl, hh⟩
  | .nilsl, s, k, hh => ⟨_, _, rfl, hh⟩
  | .psl .., s, k, hh => ⟨_, _, rfl, hh⟩
  | .nilfn, s, k, hh => ⟨_, _, rfl, hh⟩
  | .niliface, s, k, hh => ⟨_, _, rfl, hh⟩
  | .nilmap, s, k, hh => ⟨_, _, rfl, hh⟩
theorem impLP_ok {h : Heap} {base : Nat} : ∀ {v : List DV} {s : Imp} {k : List DV -> Imp -> Prop}, impLP h base v s k -> ∃ v' s', impL h base v s = some (v', s') /\ k v' s'
  | [], s, k, hh => ⟨_, _, rfl, hh⟩
  | v :: l, s, k, hh => by
    obtain ⟨v', s1, h1, h2⟩ := impP_ok (v := v) hh
    obtain ⟨l', s2, h3, h4⟩ := impLP_ok (v := l) h2
    exact ⟨_, _, by simp only [impL, h1, h3, Option.map_some], h4⟩
end
def outBP (h : Heap) : List Nat -> (List Blk -> List Nat -> Prop) -> Prop
  | [], k => k [] []
  | b :: l, k =>
    match hget h b with
    | some (.box cs) => sealLP h cs fun cs' => outBP h l fun r vs => k (.box cs' :: r) (mentsL cs ++ vs)
    | _ => False
theorem outBP_ok {h : Heap} : ∀ {l : List Nat} {k : List Blk -> List Nat -> Prop}, outBP h l k -> ∃ r vs, outB h l = some (r, vs) /\ k r vs
  | [], k, hh => ⟨_, _, rfl, hh⟩
  | b :: l, k, hh => by
    unfold outBP at hh
    split at hh
    · rename_i cs hb
      obtain ⟨cs', h1, h2⟩ := sealLP_ok (v := cs) hh
      obtain ⟨r, vs, h3, h4⟩ := outBP_ok (l := l) h2
      exact ⟨_, _, by simp only [outB, hb, h1, h3], h4⟩
    · exact hh.elim
def callBack (C : Cfg) (g : Nat) (s : Imp) (vs : List Nat) (dst : Option Nat) (r : DV) (ex' : List Blk) : Option Out :=
    if ex'.length ≠ s.exts.length then none else
    if C.scal g then
      if r.noPsl /\ s.exts = [] then some { v := r } else none
    else
      let δ := (s.views ++ vs).map (fun b => (b, none)) ++ backs s.exts ex'
      if C.own g then
        if s.exts ≠ [] then none else
        match r, dst with
        | .psl n [], _ => some { v := .psl n [], δ := δ, φ := s.views ++ vs }
        | .psl n es, some d => some { v := .rsl d n 0 es.length, δ := δ ++ [(d, some (.row n es))], φ := d :: (s.views ++ vs) }
        | .nilsl, _ => some { v := .nilsl, δ := δ, φ := s.views ++ vs }
        | _, _ => none
      else some { v := r, δ := δ, φ := s.views ++ vs }
theorem callBack_eq {C : Cfg} {h : Heap} {g : Nat} {xs xs' : List DV} {dst : Option Nat} {s : Imp} {ex : List Blk} {vs : List Nat} (h1 : impL h (baseOf C g) xs {} = some (xs', s)) (h3 : outB h s.exts = some (ex, vs)) (r : DV) (ex' : List Blk) :
    callOut C h dst g xs r ex' = callBack C g s vs dst r ex' := by
  unfold callOut callOp
  rw [h1]
  simp only [h3]
  rfl
def callInP (C : Cfg) (h : Heap) (g : Nat) (xs : List DV) (k : List DV -> List Blk -> (DV -> List Blk -> Option Out) -> Prop) (dst : Option Nat) : Prop :=
  impLP h (baseOf C g) xs {} fun xs' s => outBP h s.exts fun ex vs => k xs' ex (callBack C g s vs dst)
theorem callInP_ok {C : Cfg} {h : Heap} {g : Nat} {xs : List DV} {dst : Option Nat} {k : List DV -> List Blk -> (DV -> List Blk -> Option Out) -> Prop} (hh : callInP C h g xs k dst) :
    ∃ xs' ex, callIn C h g xs = some (xs', ex) /\ k xs' ex (callOut C h dst g xs) := by
  obtain ⟨xs', s, h1, h2⟩ := impLP_ok (v := xs) hh
  obtain ⟨ex, vs, h3, h4⟩ := outBP_ok h2
  refine ⟨xs', ex, by simp only [callIn, h1, h3], ?_⟩
  rw [show callOut C h dst g xs = callBack C g s vs dst from funext fun r => funext fun ex' => callBack_eq h1 h3 r ex']
  exact h4
end Go.Det
end

section
namespace Go.Det
abbrev Spec := List DV -> List Blk -> (DV -> List Blk -> Prop) -> Prop
abbrev OSpec := List DV -> (DV -> Prop) -> Prop
abbrev LSpec := St -> (Ex -> St -> Prop) -> Prop
def SpecOK (C : Cfg) (Pr Ow : Nat -> List DV -> DV -> Prop) (g : Nat) (sp : Spec) : Prop := ∀ xs ex k, sp xs ex k -> GoC C Pr Ow g xs ex k
def OSpecOK (C : Cfg) (Ow : Nat -> List DV -> DV -> Prop) (g : Nat) (sp : OSpec) : Prop := ∀ xs k, sp xs k -> ∃ r, Ow g xs r /\ k r
def look {α : Type _} (n : Nat) : List (Nat × α) -> Option α
  | [] => none
  | (m, a) :: l => bif Nat.beq n m then some a else look n l
theorem look_mem {α : Type _} {n : Nat} : ∀ {l : List (Nat × α)} {a : α}, look n l = some a -> (n, a) ∈ l
  | [], _, h => by simp [look] at h
  | (m, b) :: l, a, h => by
    simp only [look] at h
    cases hb : Nat.beq n m with
    | true =>
      rw [hb] at h
      simp only [cond_true, Option.some.injEq] at h
      have := Nat.eq_of_beq_eq_true hb
      subst this h
      exact List.mem_cons_self
    | false =>
      rw [hb] at h
      exact List.mem_cons_of_mem _ (look_mem h)
structure Env where
  cs : List (Nat × Spec) := []
  ss : List (Nat × Nat × Spec) := []
  ow : List (Nat × OSpec) := []
  ls : List (Nat × LSpec) := []
  js : List (Nat × LSpec) := []
  an : List (Nat × DV) := []
  wr : List Nat := []
  sp : List Nat := []
  cu : List (Nat × LSpec) := []
  fd : List Nat := []
  pu : List Nat := []
def forceV (v : DV) {α : Sort _} (k : DV -> α) : α :=
  match v with
  | .bool b => k (.bool b)
  | .int q n => k (.int q n)
  | .str s => k (.str s)
  | .agg cs => k (.agg cs)
  | .tup vs => k (.tup vs)
  | .psl n es => k (.psl n es)
  | .rsl b n o l => k (.rsl b n o l)
  | .ptr b n i o => k (.ptr b n i o)
  | .eptr n es i o => k (.eptr n es i o)
  | .fn f a c => k (.fn f a c)
  | .iface t v => k (.iface t v)
  | .gptr g o => k (.gptr g o)
  | .map b => k (.map b)
  | v => k v
theorem forceV_eq (v : DV) {α : Sort _} (k : DV -> α) : forceV v k = k v := by cases v <;> rfl
def forceT {α : Sort _} : List DV -> (List DV -> α) -> α
  | [], k => k []
  | v :: l, k => forceV v fun v' => forceT l fun l' => k (v' :: l')
theorem forceT_eq {α : Sort _} : ∀ (l : List DV) (k : List DV -> α), forceT l k = k l
  | [], _ => rfl
  | v :: l, k => by simp only [forceT, forceV_eq, forceT_eq l]
def forceO (v : Option Blk) {α : Sort _} (k : Option Blk -> α) : α :=
  match v with
  | none => k none
  | some (.box cs) => forceT cs fun cs' => k (some (.box cs'))
  | some (.row n es) => k (some (.row n es))
  | some (.iter s p) => k (some (.iter s p))
theorem forceO_eq (v : Option Blk) {α : Sort _} (k : Option Blk -> α) : forceO v k = k v := by
  cases v with
  | none => rfl
  | some b => cases b <;> simp [forceO, forceT_eq]
def forceH {α : Sort _} : Heap -> (Heap -> α) -> α
  | [], k => k []
  | v :: l, k => forceO v fun v' => forceH l fun l' => k (v' :: l')
theorem forceH_eq {α : Sort _} : ∀ (l : Heap) (k : Heap -> α), forceH l k = k l
  | [], _ => rfl
  | v :: l, k => by simp only [forceH, forceO_eq, forceH_eq l]
def forceS (st : St) {α : Sort _} (k : St -> α) : α :=
  match st with
  | ⟨t, h⟩ => forceT t fun t' => forceH h fun h' => k ⟨t', h'⟩
theorem forceS_eq (st : St) {α : Sort _} (k : St -> α) : forceS st k = k st := by cases st; simp [forceS, forceT_eq, forceH_eq]
def forceN {α : Sort _} (v : DV) (k : DV -> α) : α :=
  match v with
  | .agg cs => forceT cs fun cs => k (.agg cs)
  | .tup cs => forceT cs fun cs => k (.tup cs)
  | v => k v
theorem forceN_eq {α : Sort _} (v : DV) (k : DV -> α) : forceN v k = k v := by cases v <;> simp [forceN, forceT_eq]
def forceOut {α : Sort _} (o : Out) (k : Out -> α) : α := match o with
  | ⟨v, δ, φ⟩ => forceN v fun v => k ⟨v, δ, φ⟩
theorem forceOut_eq {α : Sort _} (o : Out) (k : Out -> α) : forceOut o k = k o := by cases o; simp [forceOut, forceN_eq]
def forceNs {α : Sort _} : List DV -> (List DV -> α) -> α
  | [], k => k []
  | v :: l, k => forceN v fun v' => forceNs l fun l' => k (v' :: l')
theorem forceNs_eq {α : Sort _} : ∀ (l : List DV) (k : List DV -> α), forceNs l k = k l
  | [], _ => rfl
  | v :: l, k => by simp only [forceNs, forceN_eq, forceNs_eq l]
def forceLit {α : Sort _} (o : Out) (k : Out -> α) : α := match o with
  | ⟨.psl n es, δ, φ⟩ => forceNs es fun es => k ⟨.psl n es, δ, φ⟩
  | ⟨v, [(b, some (.row n es))], φ⟩ => forceNs es fun es => k ⟨v, [(b, some (.row n es))], φ⟩
  | o => k o
theorem forceLit_eq {α : Sort _} (o : Out) (k : Out -> α) : forceLit o k = k o := by
  unfold forceLit; split <;> simp [forceNs_eq]
def setK {α : Sort _} : List DV -> Nat -> DV -> (List DV -> α) -> α
  | [], _, _, k => k []
  | _ :: l, 0, v, k => k (v :: l)
  | x :: l, d + 1, v, k => setK l d v fun l' => k (x :: l')
theorem setK_eq {α : Sort _} : ∀ (l : List DV) (d : Nat) (v : DV) (k : List DV -> α), setK l d v k = k (l.set d v)
  | [], _, _, _ => rfl
  | _ :: l, 0, v, k => rfl
  | x :: l, d + 1, v, k => by simp only [setK, setK_eq l, List.set_cons_succ]
def applyK {α : Sort _} (st : St) (dst : Option Nat) (out : Out) (k : St -> α) : α :=
  match st, out with
  | ⟨t, h⟩, ⟨v, [], []⟩ => (match dst with
    | some d => forceV v fun v => setK t d v fun t' => k ⟨t', h⟩
    | none => k ⟨t, h⟩)
  | ⟨t, h⟩, out => forceS (apply ⟨t, h⟩ dst out) k
theorem applyK_eq {α : Sort _} (st : St) (dst : Option Nat) (out : Out) (k : St -> α) : applyK st dst out k = k (apply st dst out) := by
  unfold applyK
  split
  · cases dst with
    | none => simp [apply, setAll]
    | some d => simp [apply, setAll, setK_eq, forceV_eq]
  · rw [forceS_eq]
def forceNL {α : Sort _} : List Nat -> (List Nat -> α) -> α
  | [], k => k []
  | x :: l, k => forceNL l fun l' => k (x :: l')
theorem forceNL_eq {α : Sort _} : ∀ (l : List Nat) (k : List Nat -> α), forceNL l k = k l
  | [], _ => rfl
  | x :: l, k => by simp only [forceNL, forceNL_eq l]
def forceNLL {α : Sort _} : List (List Nat) -> (List (List Nat) -> α) -> α
  | [], k => k []
  | x :: l, k => forceNL x fun x => forceNLL l fun l' => k (x :: l')
theorem forceNLL_eq {α : Sort _} : ∀ (l : List (List Nat)) (k : List (List Nat) -> α), forceNLL l k = k l
  | [], _ => rfl
  | x :: l, k => by simp only [forceNLL, forceNL_eq, forceNLL_eq l]
def ancsK {α : Sort _} : List (List Nat) -> List Oper -> (List (List Nat) -> α) -> α
  | acc, [], k => k acc
  | acc, o :: l, k => forceNLL (acc ++ [(boundOn o).flatMap fun j => j :: acc.getD j []]) fun acc => ancsK acc l k
theorem ancsK_eq {α : Sort _} : ∀ (acc : List (List Nat)) (l : List Oper) (k : List (List Nat) -> α), ancsK acc l k = k (ancs acc l)
  | acc, [], k => rfl
  | acc, o :: l, k => by simp only [ancsK, forceNLL_eq, ancsK_eq _ l, ancs]
def forceB {α : Sort _} (b : Bool) (k : Bool -> α) : α := match b with
  | true => k true
  | false => k false
theorem forceB_eq {α : Sort _} (b : Bool) (k : Bool -> α) : forceB b k = k b := by cases b <;> rfl
def entsK {α : Sort _} (os : List Oper) (an : List (List Nat)) : Nat -> List Oper -> St -> List Out -> (List Ent -> α) -> α
  | n, o :: l, st, out :: outs, k => forceNL (slotsOf os o) fun sl => forceNL (touched st o) fun tc => forceNL (an.getD n []) fun ac => forceNL (lookMents os st o) fun dp => forceB (lookClean os st o) fun cl =>
      applyK st o.dst out fun st' => entsK os an (n + 1) l st' outs fun es => k ({ o := o, out := out, slots := sl, touch := tc, anc := ac, deep := dp, clean := cl } :: es)
  | _, _, _, _, k => k []
theorem entsK_eq {α : Sort _} (os : List Oper) (an : List (List Nat)) : ∀ (n : Nat) (l : List Oper) (st : St) (outs : List Out) (k : List Ent -> α), entsK os an n l st outs k = k (ents os an n l st outs)
  | n, o :: l, st, out :: outs, k => by simp only [entsK, forceNL_eq, forceB_eq, applyK_eq, entsK_eq os an (n + 1) l, ents]
  | n, [], st, outs, k => by simp only [entsK, ents]
  | n, _ :: _, st, [], k => by simp only [entsK, ents]
def pairsF (n : Nat) (before : List (Nat × Ent)) : List Ent -> Bool
  | [] => true
  | y :: l => (before.all fun p => y.anc.contains p.1 || apartB p.2 y) && pairsF (n + 1) ((n, y) :: before) l
theorem pairsF_ok : ∀ (l : List Ent) (k n : Nat) (bf : List (Nat × Ent)) (before : List Ent), n = before.length -> (∀ i x, before[i]? = some x -> (i, x) ∈ bf) -> pairsF n bf l = true -> pairsOK k before l = true
  | [], _, _, _, _, _, _, _ => rfl
  | y :: l, k, n, bf, before, hn, hb, h => by
    simp only [pairsF, Bool.and_eq_true, List.all_eq_true] at h
    simp only [pairsOK, Bool.and_eq_true, List.all_eq_true]
    refine ⟨fun i hi => ?_, pairsF_ok l (k + 1) (n + 1) ((n, y) :: bf) (before ++ [y]) (by simp [hn]) (fun i x hx => ?_) h.2⟩
    · cases hx : before[i]? with
      | none => rfl
      | some x => exact h.1 (i, x) (hb i x hx)
    · by_cases hi : i < before.length
      · rw [List.getElem?_append_left hi] at hx
        exact List.mem_cons_of_mem _ (hb i x hx)
      · have hlt := (List.getElem?_eq_some_iff.1 hx).1
        simp only [List.length_append, List.length_cons, List.length_nil] at hlt
        have : i = before.length := by omega
        subst this
        rw [List.getElem?_append_right (Nat.le_refl _)] at hx
        simp only [Nat.sub_self, List.getElem?_cons_zero, Option.some.injEq] at hx
        subst hx
        rw [hn]
        exact List.mem_cons_self
def drawF (os : List Oper) (st0 : St) (outs : List Out) : Bool := backwards os && ancsK [] os fun an => entsK os an 0 os st0 outs fun es => pairsF 0 [] es
theorem drawF_ok {os : List Oper} {st0 : St} {outs : List Out} (h : drawF os st0 outs = true) : drawOK os st0 outs = true := by
  unfold drawF at h
  rw [Bool.and_eq_true, ancsK_eq, entsK_eq] at h
  unfold drawOK
  simp only [Bool.and_eq_true]
  exact ⟨h.1, pairsF_ok _ 0 0 [] [] rfl (fun i x hx => by simp at hx) h.2⟩
def pureO (o : Out) : Bool := o.δ.isEmpty && o.φ.isEmpty
abbrev SEnt := Option Nat × List Nat × List Nat
def sents (os : List Oper) (an : List (List Nat)) : Nat -> List Oper -> List SEnt
  | _, [] => []
  | k, o :: l => (o.dst, slotsOf os o, an.getD k []) :: sents os an (k + 1) l
def sOf (x : Ent) : SEnt := (x.o.dst, x.slots, x.anc)
def apartS (x y : SEnt) : Bool :=
  (match x.1 with | some d => !y.2.1.contains d && y.1 != some d | none => true) &&
  (match y.1 with | some d => !x.2.1.contains d | none => true)
def pairsS (n : Nat) (before : List (Nat × SEnt)) : List SEnt -> Bool
  | [] => true
  | y :: l => (before.all fun p => y.2.2.contains p.1 || apartS p.2 y) && pairsS (n + 1) ((n, y) :: before) l
def drawP (os : List Oper) (outs : List Out) : Bool := outs.all pureO && (backwards os && pairsS 0 [] (sents os (ancs [] os) 0 os))
theorem apartB_pure {x y : Ent} (hx : pureO x.out = true) (hy : pureO y.out = true) (h : apartS (sOf x) (sOf y) = true) : apartB x y = true := by
  simp only [pureO, Bool.and_eq_true] at hx hy
  have ix : ids x.out = [] := by unfold ids; rw [List.isEmpty_iff.1 hx.1]; rfl
  have iy : ids y.out = [] := by unfold ids; rw [List.isEmpty_iff.1 hy.1]; rfl
  have px : phiB x y = true := by unfold phiB; rw [hx.2]; rfl
  have py : phiB y x = true := by unfold phiB; rw [hy.2]; rfl
  unfold apartB
  rw [ix, iy, px, py]
  unfold apartS sOf at h
  rw [Bool.and_eq_true] at h
  simp only [Bool.and_eq_true, disj, and_true]
  first
    | exact h
    | (refine ⟨?_, ?_⟩ <;> first | exact h.1 | exact h.2 | trivial | simp [disj])
    | (refine ⟨⟨h.1, h.2⟩, ?_⟩; simp [disj])
    | (simp [disj]; exact h)
theorem pairsS_ok : ∀ (l : List Ent) (L : List SEnt) (k n : Nat) (bf : List (Nat × SEnt)) (before : List Ent), n = before.length -> (∀ i x, before[i]? = some x -> (i, sOf x) ∈ bf) -> (∀ x ∈ before, pureO x.out = true) -> (∀ x ∈ l, pureO x.out = true) -> l.map sOf <+: L -> pairsS n bf L = true -> pairsOK k before l = true
  | [], _, _, _, _, _, _, _, _, _, _, _ => rfl
  | y :: l, L, k, n, bf, before, hn, hb, hp1, hp2, hL, h => by
    cases L with
    | nil => simp at hL
    | cons z L =>
      rw [List.map_cons, List.cons_prefix_cons] at hL
      obtain ⟨rfl, hL⟩ := hL
      simp only [pairsS, Bool.and_eq_true, List.all_eq_true] at h
      simp only [pairsOK, Bool.and_eq_true, List.all_eq_true]
      refine ⟨fun i hi => ?_, pairsS_ok l L (k + 1) (n + 1) _ (before ++ [y]) (by simp [hn]) (fun i x hx => ?_) (fun x hx => ?_) (fun x hx => hp2 x (by simp [hx])) hL h.2⟩
      · cases hx : before[i]? with
        | none => rfl
        | some x =>
          have := h.1 _ (hb i x hx)
          rw [Bool.or_eq_true] at this
          rw [Bool.or_eq_true]
          exact this.imp id (apartB_pure (hp1 x (List.mem_of_getElem? hx)) (hp2 y (by simp)))
      · by_cases hi : i < before.length
        · rw [List.getElem?_append_left hi] at hx
          exact List.mem_cons_of_mem _ (hb i x hx)
        · rw [List.getElem?_append_right (by omega)] at hx
          have : i - before.length = 0 := by
            have := (List.getElem?_eq_some_iff.1 hx).1
            simp at this; omega
          rw [this] at hx
          simp only [List.getElem?_cons_zero, Option.some.injEq] at hx
          subst hx
          have : i = n := by omega
          subst this
          exact List.mem_cons_self
      · rw [List.mem_append] at hx
        rcases hx with hx | hx
        · exact hp1 x hx
        · simp only [List.mem_cons, List.not_mem_nil, or_false] at hx
          subst hx; exact hp2 _ (by simp)
theorem ents_map {os : List Oper} {an : List (List Nat)} : ∀ (l : List Oper) (k : Nat) (st : St) (outs : List Out), (ents os an k l st outs).map sOf <+: sents os an k l /\ ∀ x ∈ ents os an k l st outs, x.out ∈ outs
  | [], k, st, outs => by simp [ents, sents]
  | o :: l, k, st, [] => by simp [ents]
  | o :: l, k, st, out :: outs => by
    obtain ⟨h1, h2⟩ := @ents_map os an l (k + 1) (apply st o.dst out) outs
    simp only [ents, sents, List.map_cons, List.cons_prefix_cons]
    refine ⟨⟨rfl, h1⟩, fun x hx => ?_⟩
    simp only [List.mem_cons] at hx ⊢
    rcases hx with rfl | hx
    · exact .inl rfl
    · exact .inr (h2 x hx)
theorem drawP_ok {os : List Oper} {st0 : St} {outs : List Out} (h : drawP os outs = true) : drawOK os st0 outs = true := by
  unfold drawP at h
  simp only [Bool.and_eq_true, List.all_eq_true] at h
  obtain ⟨h1, h2, h3⟩ := h
  unfold drawOK
  simp only [Bool.and_eq_true]
  obtain ⟨m1, m2⟩ := ents_map (os := os) (an := ancs [] os) os 0 st0 outs
  exact ⟨h2, pairsS_ok _ _ 0 0 [] [] rfl (fun i x hx => by simp at hx) (fun x hx => by simp at hx) (fun x hx => h1 _ (m2 x hx)) m1 h3⟩
def drawS (b : Bool) (os : List Oper) (st0 : St) (outs : List Out) : Bool := bif b then drawF os st0 outs else drawOK os st0 outs
theorem drawS_ok {b : Bool} {os : List Oper} {st0 : St} {outs : List Out} (h : drawS b os st0 outs = true) : drawOK os st0 outs = true := by
  cases b
  · exact h
  · exact drawF_ok h
def drawX (p b : Bool) (os : List Oper) (st0 : St) (outs : List Out) : Bool := bif p then drawP os outs else drawS b os st0 outs
theorem drawX_ok {p b : Bool} {os : List Oper} {st0 : St} {outs : List Out} (h : drawX p b os st0 outs = true) : drawOK os st0 outs = true := by
  cases p
  · exact drawS_ok h
  · exact drawP_ok h
section
variable (C : Cfg) (E : Env) (f nt : Nat)
def specAt (E : Env) (dst : Option Nat) (g : Nat) : Option Spec :=
  match dst with
  | some d => match look d E.ss with
    | some (g0, sp) => match Nat.beq g g0 with
      | true => some sp
      | false => none
    | none => look g E.cs
  | none => look g E.cs
def vcDo (st : St) (o : Oper) (k : Out -> Prop) : Prop :=
  match o.op with
  | .call ⟨.value x, as1, _⟩ =>
    match calleeOf (opnd st.t x) with
    | some (g, first, cap) =>
      callInP C st.h g (first ++ as1.toList.map (opnd st.t) ++ cap) (fun xs' ex back =>
        match C.own g with
        | true =>
          match C.scal g, look g E.ow with
          | false, some sp => sp xs' fun r => onS (back r []) fun out => obB (phiOK nt out) (k out)
          | _, _ => False
        | false =>
          match specAt E o.dst g with
          | some sp => sp xs' ex fun r ex' => onS (back r ex') fun out => obB (phiOK nt out) (k out)
          | none => False) o.dst
    | none => False
  | .buildSlice ty len ps => onS (act C f st.t st.h o.dst (.buildSlice ty len ps)) fun out => forceLit out fun out => obB (phiOK nt out) (k out)
  | op => actP (match o.dst with | some d => !E.wr.contains d | none => true) C f (fun d => look d E.an) st.t st.h o.dst op fun out => obB (phiOK nt out) (k out)
def setT (st : St) (d : Nat) (v : DV) : St := { t := st.t.set d v, h := st.h }
def vcOps (os : List Oper) : List Oper -> St -> (List Out -> St -> Prop) -> Prop
  | [], st, k => k [] st
  | o :: l, st, k =>
    match o.guard with
    | none => vcDo C E f nt st o fun out => forceOut out fun out => applyK st o.dst out fun st' => vcOps os l st' fun outs st2 => k (out :: outs) st2
    | some (j, want) =>
      match (os[j]?).bind (·.dst) with
      | some d =>
        match sget st.t d with
        | .bool b => match want with
          | true => brB b
            (vcDo C E f nt (setT st d (.bool true)) o fun out => forceOut out fun out => applyK (setT st d (.bool true)) o.dst out fun st' => vcOps os l st' fun outs st2 => k (out :: outs) st2)
            (applyK (setT st d (.bool false)) o.dst { v := .tup [] } fun st' => vcOps os l st' fun outs st2 => k ({ v := .tup [] } :: outs) st2)
          | false => brB b
            (applyK (setT st d (.bool true)) o.dst { v := .tup [] } fun st' => vcOps os l st' fun outs st2 => k ({ v := .tup [] } :: outs) st2)
            (vcDo C E f nt (setT st d (.bool false)) o fun out => forceOut out fun out => applyK (setT st d (.bool false)) o.dst out fun st' => vcOps os l st' fun outs st2 => k (out :: outs) st2)
        | .tup [] => applyK st o.dst { v := .tup [] } fun st' => vcOps os l st' fun outs st2 => k ({ v := .tup [] } :: outs) st2
        | _ => False
      | none => False
abbrev Chain := List (Nat × Bool)
def chOf (ch : List (Nat × Chain)) (s : Nat) : Chain := match look s ch with
  | some c => c
  | none => []
def litOf (v : DV) (want : Bool) : Bool := match v with
  | .bool b => (match want with
    | true => b
    | false => !b)
  | _ => false
def condOf (t : List DV) : Chain -> Bool
  | [] => true
  | (d, w) :: l => condOf t l && litOf (sget t d) w
def litP (v : DV) (w : Bool) (k : Bool -> Prop) : Prop := match v with
  | .bool b => (match w with
    | true => k b
    | false => k (!b))
  | _ => k false
def condP (t : List DV) : Chain -> (Bool -> Prop) -> Prop
  | [], k => k true
  | [(d, w)], k => litP (sget t d) w k
  | (d, w) :: p :: l, k => condP t (p :: l) fun c => litP (sget t d) w fun b => k (c && b)
theorem litP_eq (v : DV) (w : Bool) (k : Bool -> Prop) : litP v w k = k (litOf v w) := by
  cases v <;> first | rfl | (cases w <;> rfl)
theorem condP_eq (t : List DV) : ∀ (c : Chain) (k : Bool -> Prop), condP t c k = k (condOf t c)
  | [], k => rfl
  | [(d, w)], k => by simp only [condP, litP_eq, condOf, Bool.true_and]
  | (d, w) :: p :: l, k => by
    simp only [condP, condP_eq t (p :: l), litP_eq]
    rfl
def chEq : Chain -> Chain -> Bool
  | [], [] => true
  | (a, x) :: l, (b, y) :: m => Nat.beq a b && (x == y) && chEq l m
  | _, _ => false
def sufB (a : Chain) : Chain -> Bool
  | [] => chEq a []
  | p :: c => chEq a (p :: c) || sufB a c
def guardOf (os : List Oper) (ch : List (Nat × Chain)) (t : List DV) (o : Oper) : Option Chain :=
  match o.guard with
  | none => some []
  | some (j, w) => match (os[j]?).bind (·.dst) with
    | some d => (match sget t d with
      | .bool _ => some ((d, w) :: chOf ch d)
      | _ => none)
    | none => none
def freeOf (d : Nat) (c : Chain) : Bool := c.all fun p => !Nat.beq p.1 d
def freeAll (d : Nat) : List (Nat × Chain) -> Bool
  | [] => true
  | (_, c) :: l => freeOf d c && freeAll d l
def dropC : List (Nat × Chain) -> List DV -> List DV
  | [], l => l
  | (_, []) :: ch, l => dropC ch l
  | (s, _ :: _) :: ch, l => dropC ch (l.set s .unk)
def dropK {α : Sort _} : List (Nat × Chain) -> List DV -> (List DV -> α) -> α
  | [], l, k => k l
  | (_, []) :: ch, l, k => dropK ch l k
  | (s, _ :: _) :: ch, l, k => setK l s .unk fun l => dropK ch l k
theorem dropK_eq {α : Sort _} : ∀ (ch : List (Nat × Chain)) (l : List DV) (k : List DV -> α), dropK ch l k = k (dropC ch l)
  | [], l, k => rfl
  | (_, []) :: ch, l, k => by simp only [dropK, dropC, dropK_eq ch]
  | (s, _ :: _) :: ch, l, k => by simp only [dropK, dropC, setK_eq, dropK_eq ch]
def pickM (t : List DV) (x a b : Operand) (k : DV -> Prop) : Prop :=
  match opnd t x with
  | .bool p =>
    match a, b with
    | a, .const (.bool false) => (match opnd t a with
      | .bool u => k (.bool (p && u))
      | _ => False)
    | .const (.bool true), b => (match opnd t b with
      | .bool v => k (.bool (p || v))
      | _ => False)
    | a, b => (match opnd t a, opnd t b with
      | .bool u, .bool v => k (.bool (bif p then u else v))
      | .int q u, .int q' v => onS (if q = q' then some () else none) fun _ => k (.int q (bif p then u else v))
      | .str u, .str v => k (.str (bif p then u else v))
      | _, _ => False)
  | _ => False
def slotsOK (ch : List (Nat × Chain)) (c : Chain) (x : Operand) : Bool := match x with
  | .tmp s => sufB (chOf ch s) c
  | _ => true
def pickOK (ch : List (Nat × Chain)) (c : Chain) (x a b : Operand) : Bool := match x with
  | .tmp s => slotsOK ch c (.tmp s) && (slotsOK ch c a || slotsOK ch ((s, true) :: chOf ch s) a) && (slotsOK ch c b || slotsOK ch ((s, false) :: chOf ch s) b)
  | _ => false
def putT (st : St) (dst : Option Nat) (v : DV) : St := match dst with
  | some d => { t := st.t.set d v, h := st.h }
  | none => st
def putK {α : Sort _} (st : St) (dst : Option Nat) (v : DV) (k : St -> α) : α := match st, dst with
  | ⟨t, h⟩, some d => forceV v fun v => setK t d v fun t' => k ⟨t', h⟩
  | ⟨t, h⟩, none => k ⟨t, h⟩
theorem putK_eq {α : Sort _} (st : St) (dst : Option Nat) (v : DV) (k : St -> α) : putK st dst v k = k (putT st dst v) := by
  cases st; cases dst <;> simp [putK, putT, setK_eq, forceV_eq]
def putC (ch : List (Nat × Chain)) (dst : Option Nat) (c : Chain) : List (Nat × Chain) := match dst with
  | some d => (match c with
    | [] => (match look d ch with
      | none => ch
      | some _ => (d, []) :: ch)
    | p :: c => (d, p :: c) :: ch)
  | none => ch
def dstOK (ch : List (Nat × Chain)) (c : Chain) (dst : Option Nat) : Bool := match dst with
  | some d => freeAll d ch && freeOf d c
  | none => true
def vcM (os : List Oper) : List Oper -> St -> List (Nat × Chain) -> (St -> Prop) -> Prop
  | [], sh, ch, k => dropK ch sh.t fun t => k { t := t, h := sh.h }
  | o :: l, sh, ch, k =>
    match guardOf os ch sh.t o with
    | none => False
    | some c => obB (dstOK ch c o.dst) <|
      match o.op with
      | .pick x a b => obB (pickOK ch c x a b) (pickM sh.t x a b fun v => putK sh o.dst v fun sh' => vcM os l sh' (putC ch o.dst c) k)
      | op =>
        condP sh.t c fun cnd => match quietP (match c with | [] => none | _ :: _ => some cnd) (match o.dst with | some d => !E.wr.contains d | none => true) C f (fun d => look d E.an) sh.t sh.h o.dst op (fun v => forceN v fun v => putK sh o.dst v fun sh' => vcM os l sh' (putC ch o.dst c) k) with
        | some p => obB (op.operands.toList.all (slotsOK ch c)) p
        | none => match c with
          | [] => obB (op.operands.toList.all (slotsOK ch [])) (vcDo C E f nt sh o fun out => forceOut out fun out => applyK sh o.dst out fun sh' => vcM os l sh' (putC ch o.dst []) k)
          | _ :: _ => False
def cutAt (E : Env) : Code -> Option LSpec
  | .region id _ _ => look id E.cu
  | _ => none
def vc (bid : Nat) : Code -> St -> (Ex -> St -> Prop) -> Prop
  | .skip, st, k => k .normal st
  | .label _, st, k => k .normal st
  | .region id ops draw, st, k => match draw || E.sp.contains id || ops.toList.all (fun o => o.guard.isNone) with
    | true => vcOps C E f nt ops.toList ops.toList st fun outs st' => bif draw then obB (drawX (E.pu.contains id) (E.fd.contains id) ops.toList st outs) (k .normal st') else k .normal st'
    | false => vcM C E f nt ops.toList ops.toList st [] fun st' => k .normal st'
  | .seq x y, st, k => match cutAt E x with
    | some sp => sp st k
    | none => vc bid x st (Ex.on k fun st1 => vc bid y st1 k)
  | .cond c x y, st, k => match opnd st.t c with
    | .bool b => brB b (vc bid x st k) (vc bid y st k)
    | _ => False
  | .block id c, st, k => vc id c st (Ex.blocked id k)
  | .loop _, st, k => match look bid E.ls with
    | some sp => sp st k
    | none => False
  | .exit id, st, k => k (.exit id) st
  | .goto l, st, k => k (.goto l) st
  | .ret, st, k => k .ret st
  | .scope c, st, k => vc bid c st (Ex.scopedX c k fun _ st1 => False)
  | .rangeFunc .., _, _ => False
  | .refuse _, _, _ => False
end
def loops : Nat -> Code -> List (Nat × Code)
  | b, .seq x y => loops b x ++ loops b y
  | b, .cond _ x y => loops b x ++ loops b y
  | _, .block id c => loops id c
  | b, .loop c => [(b, c)]
  | b, .scope c => loops b c
  | _, _ => []
def rests : Code -> List (Nat × Code)
  | .seq x y => (match x with
    | .region id o d => [(id, .seq (.region id o d) y)]
    | _ => []) ++ (rests x ++ rests y)
  | .cond _ x y => rests x ++ rests y
  | .block _ c => rests c
  | .scope c => rests c
  | _ => []
structure EnvOK (C : Cfg) (Pr Ow : Nat -> List DV -> DV -> Prop) (E : Env) : Prop where
  cs : ∀ g sp, look g E.cs = some sp -> SpecOK C Pr Ow g sp
  ss : ∀ d g sp, look d E.ss = some (g, sp) -> SpecOK C Pr Ow g sp
  ow : ∀ g sp, look g E.ow = some sp -> OSpecOK C Ow g sp
def LoopsOK (C : Cfg) (Pr Ow : Nat -> List DV -> DV -> Prop) (E : Env) (f nt : Nat) (L : List (Nat × Code)) : Prop :=
  ∀ b c sp, (b, c) ∈ L -> look b E.ls = some sp -> ∀ st k, sp st k -> GoL C Pr Ow f nt c st k
def CutsOK (C : Cfg) (Pr Ow : Nat -> List DV -> DV -> Prop) (E : Env) (f nt : Nat) (L : List (Nat × Code)) : Prop :=
  ∀ b c sp, (b, c) ∈ L -> look b E.cu = some sp -> ∀ st k, sp st k -> GoX C Pr Ow f nt c st k
theorem noCuts {C : Cfg} {Pr Ow : Nat -> List DV -> DV -> Prop} {E : Env} {f nt : Nat} {L : List (Nat × Code)} (h : E.cu = []) : CutsOK C Pr Ow E f nt L := by
  intro b c sp _ hl; rw [h] at hl; simp [look] at hl
section
variable {C : Cfg} {Pr Ow : Nat -> List DV -> DV -> Prop} {E : Env} {f nt : Nat}
theorem specAt_ok (H : EnvOK C Pr Ow E) {dst : Option Nat} {g : Nat} {sp : Spec} (h : specAt E dst g = some sp) : SpecOK C Pr Ow g sp := by
  unfold specAt at h
  split at h
  · split at h
    · rename_i hl
      split at h
      · rename_i hg
        simp only [Option.some.injEq] at h; subst h
        have := Nat.eq_of_beq_eq_true hg; subst this
        exact H.ss _ _ _ hl
      · simp at h
    · exact H.cs _ _ h
  · exact H.cs _ _ h
theorem vcDo_at (H : EnvOK C Pr Ow E) {st st2 : St} {os l : List Oper} {o : Oper} {K : List Out -> St -> Prop} (hop : ∀ x ∈ o.op.operands.toList, opnd st2.t x = opnd st.t x) (hh : st2.h = st.h)
    (hw : wants os st2.t o = some true) {k : Out -> Prop} (hk : ∀ out, k out -> GoO C Pr Ow f nt os l (apply st2 o.dst out) fun outs st' => K (out :: outs) st')
    (h : vcDo C E f nt st o k) : GoO C Pr Ow f nt os (o :: l) st2 K := by
  have hact : ∀ {out : Out}, act C f st.t st.h o.dst o.op = some out -> act C f st2.t st2.h o.dst o.op = some out := by
    intro out ho
    rw [act_frame hop fun x _ b _ => by rw [hh]]
    exact ho
  unfold vcDo at h
  split at h
  · rename_i x as1 ts ho
    have hin : ∀ y ∈ as1.toList, y ∈ o.op.operands.toList := fun y hy => by rw [ho]; simp [Op.operands, Call.operands]; exact .inr (by simpa using hy)
    have hinx : x ∈ o.op.operands.toList := by rw [ho]; simp [Op.operands, Call.operands]
    have hargs : as1.toList.map (opnd st2.t) = as1.toList.map (opnd st.t) := List.map_congr_left fun y hy => hop y (hin y hy)
    split at h
    · rename_i g first cap hx
      have hx2 : calleeOf (opnd st2.t x) = some (g, first, cap) := by rw [hop x hinx]; exact hx
      obtain ⟨xs', ex, e1, h⟩ := callInP_ok h
      rw [← hargs, ← hh] at e1 h
      split at h
      · rename_i hown
        split at h
        · rename_i sp hsc hl
          obtain ⟨r, hr, h2⟩ := H.ow g sp hl _ _ h
          obtain ⟨out, h3, h4⟩ := onS_ok h2
          obtain ⟨h5, h6⟩ := obB_ok h4
          exact go_callOwn hw ho hx2 rfl e1 hown hsc hr h3 h5 rfl (hk _ h6)
        · exact h.elim
      · rename_i hown
        split at h
        · rename_i sp hl
          refine go_call hw ho hx2 rfl e1 hown (specAt_ok H hl _ _ _ h) fun r ex' h2 => ?_
          obtain ⟨out, h3, h4⟩ := onS_ok h2
          obtain ⟨h5, h6⟩ := obB_ok h4
          exact ⟨out, h3, h5, hk _ h6⟩
        · exact h.elim
    · exact h.elim
  · rename_i ty len ps ho
    obtain ⟨out, h1, h2⟩ := onS_ok h
    rw [forceLit_eq] at h2
    obtain ⟨h3, h4⟩ := obB_ok h2
    exact go_act hw (hact (by rw [ho]; exact h1)) h3 rfl (hk _ h4)
  · obtain ⟨out, h1, h2⟩ := actP_ok h
    obtain ⟨h3, h4⟩ := obB_ok h2
    exact go_act hw (hact h1) h3 rfl (hk _ h4)
theorem vcDo_ok (H : EnvOK C Pr Ow E) {st : St} {os l : List Oper} {o : Oper} {K : List Out -> St -> Prop} (hw : wants os st.t o = some true) {k : Out -> Prop} (hk : ∀ out, k out -> GoO C Pr Ow f nt os l (apply st o.dst out) fun outs st' => K (out :: outs) st')
    (h : vcDo C E f nt st o k) : GoO C Pr Ow f nt os (o :: l) st K := vcDo_at H (fun _ _ => rfl) rfl hw hk h
theorem setT_same {st : St} {d : Nat} {v : DV} (h : sget st.t d = v) (hv : v ≠ .tup []) : setT st d v = st := by
  unfold setT
  have : d < st.t.length := by
    rcases Nat.lt_or_ge d st.t.length with q | q
    · exact q
    · unfold sget at h
      rw [List.getD_eq_getElem?_getD, List.getElem?_eq_none_iff.2 q] at h
      exact absurd h.symm hv
  have hs : st.t.set d v = st.t := by
    apply List.ext_getElem?
    intro i
    rw [List.getElem?_set]
    split
    · rename_i hi; subst hi
      unfold sget at h
      rw [List.getD_eq_getElem?_getD, List.getElem?_eq_getElem this] at h
      simp at h
      simp [this, h]
    · rfl
  rw [hs]
theorem vcOps_ok (H : EnvOK C Pr Ow E) {os : List Oper} : ∀ {l : List Oper} {st : St} {K : List Out -> St -> Prop}, vcOps C E f nt os l st K -> GoO C Pr Ow f nt os l st K
  | [], st, K, h => go_nil h
  | o :: l, st, K, h => by
    simp only [vcOps] at h
    split at h
    · rename_i hg
      refine vcDo_ok H (by unfold wants; rw [hg]) (fun out ho => ?_) h
      rw [forceOut_eq, applyK_eq] at ho
      exact vcOps_ok H ho
    · rename_i j want hg
      split at h
      · rename_i d hd
        split at h
        · rename_i b hb
          split at h
          · rcases brB_ok h with ⟨h1, h2⟩ | ⟨h1, h2⟩
            · subst h1
              rw [setT_same hb (by simp)] at h2
              refine vcDo_ok H (by unfold wants; simp only [hg, hd, hb, beq_self_eq_true]) (fun out ho => ?_) h2
              rw [forceOut_eq, applyK_eq] at ho
              exact vcOps_ok H ho
            · subst h1
              rw [setT_same hb (by simp), applyK_eq] at h2
              refine go_pass (by unfold wants; simp only [hg, hd, hb]; rfl) rfl (vcOps_ok H h2)
          · rcases brB_ok h with ⟨h1, h2⟩ | ⟨h1, h2⟩
            · subst h1
              rw [setT_same hb (by simp), applyK_eq] at h2
              refine go_pass (by unfold wants; simp only [hg, hd, hb]; rfl) rfl (vcOps_ok H h2)
            · subst h1
              rw [setT_same hb (by simp)] at h2
              refine vcDo_ok H (by unfold wants; simp only [hg, hd, hb, beq_self_eq_true]) (fun out ho => ?_) h2
              rw [forceOut_eq, applyK_eq] at ho
              exact vcOps_ok H ho
        · rename_i hb
          rw [applyK_eq] at h
          exact go_pass (by unfold wants; simp only [hg, hd, hb]) rfl (vcOps_ok H h)
        · exact h.elim
      · exact h.elim
structure MInv (st sh : St) (ch : List (Nat × Chain)) : Prop where
  h : st.h = sh.h
  len : st.t.length = sh.t.length
  on : ∀ i, condOf sh.t (chOf ch i) = true -> sget st.t i = sget sh.t i
  off : ∀ i, condOf sh.t (chOf ch i) = false -> sget st.t i = .tup []
theorem chEq_ok : ∀ {a b : Chain}, chEq a b = true -> a = b
  | [], [], _ => rfl
  | (a, x) :: l, (b, y) :: m, h => by
    simp only [chEq, Bool.and_eq_true, beq_iff_eq] at h
    have := Nat.eq_of_beq_eq_true h.1.1
    rw [this, h.1.2, chEq_ok h.2]
  | [], _ :: _, h => by simp [chEq] at h
  | _ :: _, [], h => by simp [chEq] at h
theorem sufB_cond {t : List DV} {a : Chain} : ∀ {c : Chain}, sufB a c = true -> condOf t c = true -> condOf t a = true
  | [], h, hc => by rw [chEq_ok h]; rfl
  | p :: c, h, hc => by
    simp only [sufB, Bool.or_eq_true] at h
    rcases h with h | h
    · rw [chEq_ok h]; exact hc
    · obtain ⟨d, w⟩ := p
      simp only [condOf, Bool.and_eq_true] at hc
      exact sufB_cond h hc.1
theorem condOf_set {t : List DV} {d : Nat} {v : DV} : ∀ {c : Chain}, freeOf d c = true -> condOf (t.set d v) c = condOf t c
  | [], _ => rfl
  | (e, w) :: c, h => by
    simp only [freeOf, List.all_cons, Bool.and_eq_true] at h
    simp only [condOf]
    rw [condOf_set (c := c) (by simpa [freeOf] using h.2), sget_set]
    intro e'
    subst e'
    simp at h
theorem litOf_forget (φ : List Nat) (v : DV) (w : Bool) : litOf (v.forget φ) w = litOf v w := by
  cases v with
  | ptr => simp only [DV.forget]; split <;> rfl
  | rsl => simp only [DV.forget]; split <;> rfl
  | map => simp only [DV.forget]; split <;> rfl
  | _ => rfl
theorem condOf_forget (φ : List Nat) {t : List DV} : ∀ (c : Chain), condOf (forgetL φ t) c = condOf t c
  | [] => rfl
  | (e, w) :: c => by simp only [condOf]; rw [condOf_forget φ c, sget_forget, litOf_forget]
theorem freeAll_ok {d : Nat} : ∀ {ch : List (Nat × Chain)} {i : Nat}, freeAll d ch = true -> freeOf d (chOf ch i) = true
  | [], _, _ => rfl
  | (n, c) :: ch, i, h => by
    simp only [freeAll, Bool.and_eq_true] at h
    have ih := freeAll_ok (i := i) h.2
    unfold chOf at ih ⊢
    simp only [look]
    cases Nat.beq i n with
    | true => exact h.1
    | false => exact ih
theorem chOf_cons {ch : List (Nat × Chain)} {d i : Nat} {c : Chain} : chOf ((d, c) :: ch) i = if i = d then c else chOf ch i := by
  unfold chOf
  simp only [look]
  by_cases h : i = d
  · subst h; simp
  · have : Nat.beq i d = false := by
      cases hb : Nat.beq i d with
      | false => rfl
      | true => exact absurd (Nat.eq_of_beq_eq_true hb) h
    simp [this, h]
theorem chOf_putC {ch : List (Nat × Chain)} {d i : Nat} {c : Chain} : chOf (putC ch (some d) c) i = if i = d then c else chOf ch i := by
  unfold putC
  simp only
  split
  · split
    · rename_i hl
      by_cases h : i = d
      · subst h; rw [if_pos rfl]; unfold chOf; rw [hl]
      · rw [if_neg h]
    · exact chOf_cons
  · exact chOf_cons
theorem sget_set_same {t : List DV} {d : Nat} {v : DV} (h : d < t.length) : sget (t.set d v) d = v := by
  unfold sget; simp [List.getD_eq_getElem?_getD, h]
theorem sget_out {t : List DV} {d : Nat} (h : ¬ d < t.length) : sget t d = .tup [] := by
  unfold sget; simp [List.getD_eq_getElem?_getD, List.getElem?_eq_none_iff.2 (Nat.le_of_not_lt h)]
theorem MInv.slot {st sh : St} {ch : List (Nat × Chain)} (m : MInv st sh ch) {c : Chain} (hc : condOf sh.t c = true) {x : Operand} (hx : slotsOK ch c x = true) : opnd st.t x = opnd sh.t x := by
  cases x with
  | tmp s => exact m.on s (sufB_cond hx hc)
  | const v => rfl
  | global g => rfl
  | func f => rfl
theorem MInv.put {st sh : St} {ch : List (Nat × Chain)} (m : MInv st sh ch) {c : Chain} {dst : Option Nat} (hd : dstOK ch c dst = true) (v u : DV) (hon : condOf sh.t c = true -> u = v) (hoff : condOf sh.t c = false -> u = .tup []) :
    MInv (apply st dst { v := u }) (putT sh dst v) (putC ch dst c) := by
  rw [apply_eq]
  simp only [forgetL_nil, forgetH_nil, setAll]
  cases dst with
  | none => exact ⟨m.h, m.len, m.on, m.off⟩
  | some d =>
    simp only [dstOK, Bool.and_eq_true] at hd
    simp only [putT]
    have e1 : ∀ i, freeOf d (chOf (putC ch (some d) c) i) = true := by
      intro i; rw [chOf_putC]; split
      · exact hd.2
      · exact freeAll_ok hd.1
    refine ⟨m.h, by simpa using m.len, fun i => ?_, fun i => ?_⟩
    · rw [condOf_set (e1 i), chOf_putC]
      by_cases hi : i = d
      · subst hi
        rw [if_pos rfl]
        intro hc
        by_cases hl : i < st.t.length
        · rw [sget_set_same hl, sget_set_same (by rw [← m.len]; exact hl), hon hc]
        · rw [sget_out (by simpa using hl), sget_out (by rw [m.len] at hl; simpa using hl)]
      · rw [if_neg hi, sget_set _ _ _ _ hi, sget_set _ _ _ _ hi]; exact m.on i
    · rw [condOf_set (e1 i), chOf_putC]
      by_cases hi : i = d
      · subst hi
        rw [if_pos rfl]
        intro hc
        by_cases hl : i < st.t.length
        · rw [sget_set_same hl, hoff hc]
        · rw [sget_out (by simpa using hl)]
      · rw [if_neg hi, sget_set _ _ _ _ hi]; exact m.off i
theorem dropC_get : ∀ (ch : List (Nat × Chain)) (l : List DV) (j : Nat) (x : DV), (dropC ch l)[j]? = some x -> x = .unk \/ (l[j]? = some x /\ ∀ p ∈ ch, p.1 = j -> p.2 = [])
  | [], l, j, x, h => .inr ⟨h, by simp⟩
  | (s, []) :: ch, l, j, x, h => by
    rcases dropC_get ch l j x h with h | ⟨h1, h2⟩
    · exact .inl h
    · refine .inr ⟨h1, fun p hp hj => ?_⟩
      rcases List.mem_cons.1 hp with rfl | hp
      · rfl
      · exact h2 p hp hj
  | (s, q :: c) :: ch, l, j, x, h => by
    rcases dropC_get ch _ j x h with h | ⟨h1, h2⟩
    · exact .inl h
    · rw [List.getElem?_set] at h1
      by_cases hs : s = j
      · rw [if_pos hs] at h1
        split at h1
        · simp only [Option.some.injEq] at h1; exact .inl h1.symm
        · simp at h1
      · rw [if_neg hs] at h1
        refine .inr ⟨h1, fun p hp hj => ?_⟩
        rcases List.mem_cons.1 hp with rfl | hp
        · exact absurd hj hs
        · exact h2 p hp hj
theorem dropC_len : ∀ (ch : List (Nat × Chain)) (l : List DV), (dropC ch l).length = l.length
  | [], _ => rfl
  | (_, []) :: ch, l => by simp only [dropC, dropC_len ch]
  | (s, _ :: _) :: ch, l => by simp only [dropC, dropC_len ch, List.length_set]
theorem MInv.weaker {st sh : St} {ch : List (Nat × Chain)} (m : MInv st sh ch) : Weaker st { t := dropC ch sh.t, h := sh.h } := by
  refine ⟨by rw [dropC_len]; exact m.len.symm, fun i x h => ?_, fun b x h => by rw [m.h]; exact h⟩
  rcases dropC_get ch sh.t i x h with h | ⟨h2, h1⟩
  · exact .inl h
  · have h1 : chOf ch i = [] := by
      unfold chOf
      cases hl : look i ch with
      | none => rfl
      | some c => exact h1 _ (look_mem hl) rfl
    have hi : i < sh.t.length := (List.getElem?_eq_some_iff.1 h2).1
    have hs := m.on i (by rw [h1]; rfl)
    refine .inr ⟨x, ?_, .inl rfl⟩
    unfold sget at hs
    rw [List.getD_eq_getElem?_getD, List.getD_eq_getElem?_getD, h2, List.getElem?_eq_getElem (by rw [m.len]; exact hi)] at hs
    rw [List.getElem?_eq_getElem (by rw [m.len]; exact hi)]
    simpa using hs
theorem MInv.wants {os : List Oper} {st sh : St} {ch : List (Nat × Chain)} (m : MInv st sh ch) {o : Oper} {c : Chain} (hg : guardOf os ch sh.t o = some c) : Det.wants os st.t o = some (condOf sh.t c) := by
  unfold guardOf at hg
  unfold Det.wants
  split at hg
  · rename_i hgo; rw [hgo]
    simp only [Option.some.injEq] at hg; subst hg; rfl
  · rename_i j w hgo
    rw [hgo]
    simp only
    split at hg
    · rename_i d hd
      rw [hd]
      simp only
      split at hg
      · rename_i b hb
        simp only [Option.some.injEq] at hg; subst hg
        simp only [condOf, hb, litOf]
        cases hc : condOf sh.t (chOf ch d) with
        | true =>
          rw [m.on d hc, hb]
          cases b <;> cases w <;> rfl
        | false => rw [m.off d hc]; rfl
      · simp at hg
    · simp at hg
theorem pickM_ok {t : List DV} {x a b : Operand} {k : DV -> Prop} (h : pickM t x a b k) : ∃ p v, opnd t x = .bool p /\ k v /\ (p = true -> v = opnd t a) /\ (p = false -> v = opnd t b) := by
  unfold pickM at h
  split at h
  · rename_i p hp
    refine ⟨p, ?_⟩
    split at h
    · split at h
      · rename_i u hu
        exact ⟨_, hp, h, fun e => by subst e; rw [hu]; rfl, fun e => by subst e; rfl⟩
      · exact h.elim
    · split at h
      · rename_i u hu
        exact ⟨_, hp, h, fun e => by subst e; rfl, fun e => by subst e; rw [hu]; rfl⟩
      · exact h.elim
    · split at h
      · rename_i hu hv
        exact ⟨_, hp, h, fun e => by subst e; rw [hu]; rfl, fun e => by subst e; rw [hv]; rfl⟩
      · rename_i q u q' v hu hv
        obtain ⟨_, h1, h2⟩ := onS_ok h
        have hq : q = q' := by
          by_cases hq : q = q'
          · exact hq
          · rw [if_neg hq] at h1; simp at h1
        subst hq
        exact ⟨_, hp, h2, fun e => by subst e; rw [hu]; rfl, fun e => by subst e; rw [hv]; rfl⟩
      · rename_i hu hv
        exact ⟨_, hp, h, fun e => by subst e; rw [hu]; rfl, fun e => by subst e; rw [hv]; rfl⟩
      · exact h.elim
  · exact h.elim
theorem MInv.apply {st sh : St} {ch : List (Nat × Chain)} (m : MInv st sh ch) {dst : Option Nat} (hd : dstOK ch [] dst = true) (out : Out) : MInv (Det.apply st dst out) (Det.apply sh dst out) (putC ch dst []) := by
  rw [apply_eq, apply_eq]
  have base : ∀ i, (condOf sh.t (chOf ch i) = true -> sget (forgetL out.φ st.t) i = sget (forgetL out.φ sh.t) i) /\ (condOf sh.t (chOf ch i) = false -> sget (forgetL out.φ st.t) i = .tup []) := by
    intro i
    refine ⟨fun h => ?_, fun h => ?_⟩
    · rw [sget_forget, sget_forget, m.on i h]
    · rw [sget_forget, m.off i h]; rfl
  cases dst with
  | none =>
    refine ⟨by simp [m.h], by simpa [forgetL_len] using m.len, fun i h => ?_, fun i h => ?_⟩
    · simp only [putC] at h
      rw [condOf_forget] at h
      exact (base i).1 h
    · simp only [putC] at h
      rw [condOf_forget] at h
      exact (base i).2 h
  | some d =>
    simp only [dstOK, Bool.and_eq_true] at hd
    have e1 : ∀ i, freeOf d (chOf (putC ch (some d) []) i) = true := by
      intro i; rw [chOf_putC]; split
      · rfl
      · exact freeAll_ok hd.1
    refine ⟨by simp [m.h], by simpa [forgetL_len] using m.len, fun i => ?_, fun i => ?_⟩
    · rw [condOf_set (e1 i), condOf_forget, chOf_putC]
      by_cases hi : i = d
      · subst hi
        intro _
        by_cases hl : i < st.t.length
        · rw [sget_set_same (by simpa [forgetL_len] using hl), sget_set_same (by rw [forgetL_len, ← m.len]; exact hl)]
        · rw [sget_out (by simpa [forgetL_len] using hl), sget_out (by rw [m.len] at hl; simpa [forgetL_len] using hl)]
      · rw [if_neg hi, sget_set _ _ _ _ hi, sget_set _ _ _ _ hi]; exact (base i).1
    · rw [condOf_set (e1 i), condOf_forget, chOf_putC]
      by_cases hi : i = d
      · subst hi
        rw [if_pos rfl]; intro h; simp [condOf] at h
      · rw [if_neg hi, sget_set _ _ _ _ hi]; exact (base i).2
theorem slot_opSlots {ch : List (Nat × Chain)} {c : Chain} {op : Op} (h : op.operands.toList.all (slotsOK ch c) = true) : ∀ x ∈ op.operands.toList, slotsOK ch c x = true := fun x hx => List.all_eq_true.1 h x hx
theorem vcM_ok (H : EnvOK C Pr Ow E) {os : List Oper} : ∀ {l : List Oper} {st sh : St} {ch : List (Nat × Chain)} {k : St -> Prop}, MInv st sh ch -> vcM C E f nt os l sh ch k -> GoO C Pr Ow f nt os l st fun _ st' => ∃ st2, Weaker st' st2 /\ k st2
  | [], st, sh, ch, k, m, h => by
    simp only [vcM, dropK_eq] at h
    exact go_nil ⟨_, m.weaker, h⟩
  | o :: l, st, sh, ch, k, m, h => by
    simp only [vcM] at h
    split at h
    · exact h.elim
    · rename_i c hg
      have hw := m.wants hg
      obtain ⟨hd, h⟩ := obB_ok h
      split at h
      · rename_i x a b hop
        obtain ⟨hp, h⟩ := obB_ok h
        obtain ⟨p, v, hx, hfin, hv1, hv2⟩ := pickM_ok h
        rw [putK_eq] at hfin
        cases hc : condOf sh.t c with
        | false =>
          rw [hc] at hw
          exact go_pass hw rfl (vcM_ok H (m.put hd v (.tup []) (fun e => by rw [hc] at e; cases e) (fun _ => rfl)) hfin)
        | true =>
          rw [hc] at hw
          cases x with
          | const _ => simp [pickOK] at hp
          | global _ => simp [pickOK] at hp
          | func _ => simp [pickOK] at hp
          | tmp s =>
            simp only [pickOK, Bool.and_eq_true, Bool.or_eq_true] at hp
            obtain ⟨⟨p1, p2⟩, p3⟩ := hp
            have hxs : opnd st.t (.tmp s) = .bool p := (m.slot hc p1).trans hx
            have hcs : condOf sh.t (chOf ch s) = true := sufB_cond p1 hc
            have hact : act C f st.t st.h o.dst o.op = some { v := v } := by
              rw [hop]
              simp only [act, hxs]
              cases p with
              | true =>
                have : opnd st.t a = opnd sh.t a := by
                  rcases p2 with p2 | p2
                  · exact m.slot hc p2
                  · refine m.slot (c := (s, true) :: chOf ch s) ?_ p2
                    simp only [condOf, hcs, Bool.true_and]
                    have : sget sh.t s = .bool true := hx
                    rw [this]; rfl
                rw [hv1 rfl, ← this]; rfl
              | false =>
                have : opnd st.t b = opnd sh.t b := by
                  rcases p3 with p3 | p3
                  · exact m.slot hc p3
                  · refine m.slot (c := (s, false) :: chOf ch s) ?_ p3
                    simp only [condOf, hcs, Bool.true_and]
                    have : sget sh.t s = .bool false := hx
                    rw [this]; rfl
                rw [hv2 rfl, ← this]; rfl
            exact go_act hw hact (by simp [phiOK]) rfl (vcM_ok H (m.put hd v v (fun _ => rfl) (fun e => by rw [hc] at e; cases e)) hfin)
      · rename_i hnp
        rw [condP_eq] at h
        split at h
        · rename_i p hq
          obtain ⟨hs, h⟩ := obB_ok h
          obtain ⟨v, hv, h⟩ := quietP_ok hq h
          rw [forceN_eq, putK_eq] at h
          cases hc : condOf sh.t c with
          | false =>
            rw [hc] at hw
            exact go_pass hw rfl (vcM_ok H (m.put hd v (.tup []) (fun e => by rw [hc] at e; cases e) (fun _ => rfl)) h)
          | true =>
            rw [hc] at hw
            have hact : act C f st.t st.h o.dst o.op = some { v := v } := by
              rw [act_frame (t := sh.t) (h := sh.h) (fun x hx => m.slot hc (slot_opSlots hs x hx)) fun _ _ b _ => by rw [m.h]]
              exact hv (by cases c with | nil => trivial | cons _ _ => exact hc)
            exact go_act hw hact (by simp [phiOK]) rfl (vcM_ok H (m.put hd v v (fun _ => rfl) (fun e => by rw [hc] at e; cases e)) h)
        · split at h
          · obtain ⟨hs, h⟩ := obB_ok h
            refine vcDo_at H (st := sh) (st2 := st) (fun x hx => m.slot (c := []) rfl (slot_opSlots hs x hx)) m.h (by rw [hw]; rfl) (fun out ho => ?_) h
            rw [forceOut_eq, applyK_eq] at ho
            exact vcM_ok H (m.apply hd out) ho
          · exact h.elim
theorem vc_ok (H : EnvOK C Pr Ow E) : ∀ {c : Code} {bid : Nat} {st : St} {K : Ex -> St -> Prop}, LoopsOK C Pr Ow E f nt (loops bid c) -> CutsOK C Pr Ow E f nt (rests c) -> vc C E f nt bid c st K -> GoX C Pr Ow f nt c st K := by
  intro c
  induction c with
  | skip => intro bid st K hL hC h; exact go_skip h
  | label l => intro bid st K hL hC h; exact go_label h
  | region id ops draw =>
    intro bid st K hL hC h
    simp only [vc] at h
    split at h
    · have := vcOps_ok H h
      cases draw with
      | false => exact go_region this
      | true =>
        refine go_draw ?_
        obtain ⟨outs, st', a, b⟩ := this
        exact ⟨outs, st', a, drawX_ok (obB_ok b).1, (obB_ok b).2⟩
    · rename_i hm
      cases draw with
      | true => simp at hm
      | false =>
        refine go_weakEnd (go_region ?_)
        exact vcM_ok (k := fun st2 => K .normal st2) H ⟨rfl, rfl, fun _ _ => rfl, fun i hi => by simp [chOf, look, condOf] at hi⟩ h
  | seq x y ihx ihy =>
    intro bid st K hL hC h
    simp only [vc] at h
    split at h
    · rename_i sp hcut
      cases x with
      | region id o d => exact hC id _ sp (by simp [rests]) hcut st K h
      | _ => simp [cutAt] at hcut
    have h1 := ihx (fun b c sp hm => hL b c sp (by simp only [loops]; exact List.mem_append_left _ hm)) (fun b c sp hm => hC b c sp (by simp only [rests]; exact List.mem_append_right _ (List.mem_append_left _ hm))) h
    refine go_seq (h1.mono fun e st' hq => ?_)
    cases e with
    | normal => exact ihy (fun b c sp hm => hL b c sp (by simp only [loops]; exact List.mem_append_right _ hm)) (fun b c sp hm => hC b c sp (by simp only [rests]; exact List.mem_append_right _ (List.mem_append_right _ hm))) hq
    | exit id => exact hq
    | goto l => exact hq
    | ret => exact hq
  | cond c x y ihx ihy =>
    intro bid st K hL hC h
    simp only [vc] at h
    split at h
    · rename_i b hb
      rcases brB_ok h with ⟨h1, h2⟩ | ⟨h1, h2⟩
      · subst h1
        exact go_condT hb (ihx (fun b c sp hm => hL b c sp (by simp only [loops]; exact List.mem_append_left _ hm)) (fun b c sp hm => hC b c sp (by simp only [rests]; exact List.mem_append_left _ hm)) h2)
      · subst h1
        exact go_condF hb (ihy (fun b c sp hm => hL b c sp (by simp only [loops]; exact List.mem_append_right _ hm)) (fun b c sp hm => hC b c sp (by simp only [rests]; exact List.mem_append_right _ hm)) h2)
    · exact h.elim
  | block id c ih =>
    intro bid st K hL hC h
    exact go_block (ih hL hC h)
  | loop c ih =>
    intro bid st K hL hC h
    simp only [vc] at h
    split at h
    · rename_i sp hl
      exact go_loop (hL bid c sp (by simp [loops]) hl st K h)
    · exact h.elim
  | exit id => intro bid st K hL hC h; exact go_exit h
  | goto l => intro bid st K hL hC h; exact go_goto h
  | ret => intro bid st K hL hC h; exact go_ret h
  | scope c ih =>
    intro bid st K hL hC h
    refine go_scope ((ih hL hC h).mono fun e st' hq => ?_)
    cases e with
    | normal => exact hq
    | exit id => exact hq
    | ret => exact hq
    | goto l =>
      simp only [Ex.scopedX] at hq ⊢
      split at hq
      · exact hq.elim
      · exact hq
  | rangeFunc => intro bid st K hL hC h; exact h.elim
  | refuse => intro bid st K hL hC h; exact h.elim
end
end Go.Det
end

section
namespace Go.Det
def deepN {α : Sort _} (n : Nat) (k : Nat -> α) : α := match n with
  | 0 => k 0
  | m + 1 => k (m + 1)
theorem deepN_eq {α : Sort _} (n : Nat) (k : Nat -> α) : deepN n k = k n := by cases n <;> rfl
def deepI {α : Sort _} (n : Int) (k : Int -> α) : α := match n with
  | .ofNat m => deepN m fun m => k (.ofNat m)
  | .negSucc m => deepN m fun m => k (.negSucc m)
theorem deepI_eq {α : Sort _} (n : Int) (k : Int -> α) : deepI n k = k n := by cases n <;> simp [deepI, deepN_eq]
def deepL {α : Sort _} {β : Type _} : List β -> (List β -> α) -> α
  | [], k => k []
  | c :: l, k => deepL l fun l' => k (c :: l')
theorem deepL_eq {α : Sort _} {β : Type _} : ∀ (l : List β) (k : List β -> α), deepL l k = k l
  | [], _ => rfl
  | v :: l, k => by simp only [deepL, deepL_eq l]
def deep0 {α : Sort _} (v : DV) (k : DV -> α) : α := match v with
  | .int q n => deepI n fun n => k (.int q n)
  | .bool true => k (.bool true)
  | .bool false => k (.bool false)
  | .str s => deepL s fun s => k (.str s)
  | .rsl b n o l => deepN o fun o => deepN l fun l => k (.rsl b n o l)
  | .ptr b n i o => deepN i fun i => deepN o fun o => k (.ptr b n i o)
  | .eptr n es i o => deepN i fun i => deepN o fun o => k (.eptr n es i o)
  | v => k v
theorem deep0_eq {α : Sort _} (v : DV) (k : DV -> α) : deep0 v k = k v := by
  cases v with
  | bool b => cases b <;> rfl
  | int q n => simp [deep0, deepI_eq]
  | str s => simp [deep0, deepL_eq]
  | rsl => simp [deep0, deepN_eq]
  | ptr => simp [deep0, deepN_eq]
  | eptr => simp [deep0, deepN_eq]
  | _ => rfl
def deepT {α : Sort _} : List DV -> (List DV -> α) -> α
  | [], k => k []
  | v :: l, k => deep0 v fun v' => deepT l fun l' => k (v' :: l')
theorem deepT_eq {α : Sort _} : ∀ (l : List DV) (k : List DV -> α), deepT l k = k l
  | [], _ => rfl
  | v :: l, k => by simp only [deepT, deep0_eq, deepT_eq l]
def deep1 {α : Sort _} (v : DV) (k : DV -> α) : α := match v with
  | .agg cs => deepT cs fun cs => k (.agg cs)
  | .tup cs => deepT cs fun cs => k (.tup cs)
  | .psl n cs => deepT cs fun cs => k (.psl n cs)
  | v => deep0 v k
theorem deep1_eq {α : Sort _} (v : DV) (k : DV -> α) : deep1 v k = k v := by
  cases v with
  | agg => simp [deep1, deepT_eq]
  | tup => simp [deep1, deepT_eq]
  | psl => simp [deep1, deepT_eq]
  | _ => simp only [deep1]; exact deep0_eq _ _
def deepO {α : Sort _} (v : Option Blk) (k : Option Blk -> α) : α :=
  match v with
  | none => k none
  | some (.box cs) => deepT cs fun cs' => k (some (.box cs'))
  | some (.row n es) => deepT es fun es => k (some (.row n es))
  | some (.iter s p) => deepN p fun p => k (some (.iter s p))
theorem deepO_eq {α : Sort _} (v : Option Blk) (k : Option Blk -> α) : deepO v k = k v := by
  cases v with
  | none => rfl
  | some b => cases b <;> simp [deepO, deepT_eq, deepN_eq]
def deepD {α : Sort _} : List (Nat × Option Blk) -> (List (Nat × Option Blk) -> α) -> α
  | [], k => k []
  | (b, v) :: l, k => deepO v fun v' => deepD l fun l' => k ((b, v') :: l')
theorem deepD_eq {α : Sort _} : ∀ (l : List (Nat × Option Blk)) (k : List (Nat × Option Blk) -> α), deepD l k = k l
  | [], _ => rfl
  | (b, v) :: l, k => by simp only [deepD, deepO_eq, deepD_eq l]
def deepOut {α : Sort _} (o : Out) (k : Out -> α) : α := match o with
  | ⟨v, δ, φ⟩ => deep1 v fun v => deepD δ fun δ => k ⟨v, δ, φ⟩
theorem deepOut_eq {α : Sort _} (o : Out) (k : Out -> α) : deepOut o k = k o := by cases o; simp [deepOut, deep1_eq, deepD_eq]
section
variable (C : Cfg) (call : CallF) (f nt : Nat)
end
section
variable {C : Cfg} {Pr Ow : Nat -> List DV -> DV -> Prop} {call : CallF} {f nt : Nat}
end
end Go.Det
end

section
namespace Go.Det
def endsP (C : Cfg) (fi : Fi) (ex : List Blk) (Φ : DV -> List Blk -> Prop) (e : Ex) (st : St) : Prop :=
  obB e.ends (onS (resL C st fi.res) fun vs => sealLP st.h vs fun vs' => sealBsP st.h (st.h.drop fi.nt) fun ex' =>
    obB (Nat.beq ex'.length ex.length) (obB (ex'.all Blk.isBox) (Φ (one vs') ex')))
def vcF (C : Cfg) (E : Env) (g : Nat) (xs : List DV) (ex : List Blk) (Φ : DV -> List Blk -> Prop) : Prop :=
  match C.F g with
  | some fi => vc C E g fi.nt 0 fi.code (enterD fi xs ex) (endsP C fi ex Φ)
  | none => False
def codeOf (C : Cfg) (g : Nat) : Code := match C.F g with
  | some fi => fi.code
  | none => .skip
def ntOf (C : Cfg) (g : Nat) : Nat := match C.F g with
  | some fi => fi.nt
  | none => 0
def bodyOf (C : Cfg) (g b : Nat) : Code := match look b (loops 0 (codeOf C g)) with
  | some c => c
  | none => .skip
def nodupK : List (Nat × Code) -> Bool
  | [] => true
  | p :: l => (look p.1 l).isNone && nodupK l
def bodyK (L : St -> Prop) (ks bs ks2 bs2 : List Nat) (nt : Nat) (K : Ex -> St -> Prop) (e : Ex) (st : St) : Prop :=
  match e with
  | .normal => L (keepT ks bs nt st)
  | e => K e (keepT ks2 bs2 nt st)
def loopS (ks bs : List Nat) (nt : Nat) (L : St -> Prop) (F : (Ex -> St -> Prop) -> Prop) : LSpec := fun st k => L (keepT ks bs nt st) /\ F k
def vcB (C : Cfg) (E : Env) (g b : Nat) (st : St) (K : Ex -> St -> Prop) : Prop := vc C E g (ntOf C g) b (bodyOf C g b) st K
def callS (xs0 : List DV) (r : DV) : Spec := fun xs ex k => match ex with
  | [] => xs = xs0 /\ k r []
  | _ :: _ => False
def innerOf (C : Cfg) (g b1 b : Nat) : Code := match look b (loops b1 (bodyOf C g b1)) with
  | some c => c
  | none => .skip
def vcI (C : Cfg) (E : Env) (g b1 b : Nat) (st : St) (K : Ex -> St -> Prop) : Prop := vc C E g (ntOf C g) b (innerOf C g b1 b) st K
def callG (c : Prop) (xs0 : List DV) (r : DV) : Spec := fun xs ex k => match ex with
  | [] => c /\ xs = xs0 /\ k r []
  | _ :: _ => False
section
variable {C : Cfg} {Pr Ow : Nat -> List DV -> DV -> Prop} {E : Env}
theorem endsP_ok {fi : Fi} {ex : List Blk} {Φ : DV -> List Blk -> Prop} {e : Ex} {st : St} (h : endsP C fi ex Φ e st) : Leaves C fi ex Φ e st := by
  unfold endsP at h
  obtain ⟨h1, h⟩ := obB_ok h
  obtain ⟨vs, h2, h⟩ := onS_ok h
  obtain ⟨vs', h3, h⟩ := sealLP_ok h
  obtain ⟨ex', h4, h⟩ := sealBsP_ok h
  obtain ⟨h5, h⟩ := obB_ok h
  obtain ⟨h6, h⟩ := obB_ok h
  exact ⟨h1, vs, vs', ex', h2, h3, h4, Nat.eq_of_beq_eq_true h5, h6, h⟩
theorem vcF_ok (H : EnvOK C Pr Ow E) {g : Nat} (hL : LoopsOK C Pr Ow E g (ntOf C g) (loops 0 (codeOf C g))) (hC : CutsOK C Pr Ow E g (ntOf C g) (rests (codeOf C g))) {xs : List DV} {ex : List Blk} {Φ : DV -> List Blk -> Prop} (h : vcF C E g xs ex Φ) : GoC C Pr Ow g xs ex Φ := by
  unfold vcF at h
  split at h
  · rename_i fi hf
    unfold ntOf codeOf at hL hC
    rw [hf] at hL hC
    exact go_body hf ((vc_ok H hL hC h).mono fun e st hq => endsP_ok hq)
  · exact h.elim
theorem noLoops {E : Env} {f nt : Nat} {L : List (Nat × Code)} (h : E.ls = []) : LoopsOK C Pr Ow E f nt L := by
  intro b c sp _ hl; rw [h] at hl; simp [look] at hl
theorem look_of_nodup : ∀ {l : List (Nat × Code)} {b : Nat} {c : Code}, nodupK l = true -> (b, c) ∈ l -> look b l = some c
  | [], _, _, _, h => by simp at h
  | (n, x) :: l, b, c, hn, h => by
    simp only [nodupK, Bool.and_eq_true] at hn
    simp only [look]
    rcases List.mem_cons.1 h with h | h
    · cases h
      simp
    · have ih := look_of_nodup hn.2 h
      cases hb : Nat.beq b n with
      | true =>
        have := Nat.eq_of_beq_eq_true hb
        subst this
        rw [ih] at hn; simp at hn
      | false => simpa using ih
theorem loopsOf {E : Env} {g : Nat} (hn : nodupK (loops 0 (codeOf C g)) = true) (h : ∀ b sp, look b E.ls = some sp -> ∀ st k, sp st k -> GoL C Pr Ow g (ntOf C g) (bodyOf C g b) st k) :
    LoopsOK C Pr Ow E g (ntOf C g) (loops 0 (codeOf C g)) := by
  intro b c sp hm hl st k hs
  have := h b sp hl st k hs
  unfold bodyOf at this
  rwa [look_of_nodup hn hm] at this
theorem loopS_ok {f nt : Nat} {c : Code} {ks bs : List Nat} {L : St -> Prop} {F : (Ex -> St -> Prop) -> Prop} (h : ∀ st, L st -> ∀ k, F k -> GoL C Pr Ow f nt c st k) {st : St} {k : Ex -> St -> Prop} (hs : loopS ks bs nt L F st k) : GoL C Pr Ow f nt c st k :=
  go_weakL (keepT_weaker ks bs nt st) (h _ hs.1 k hs.2)
theorem round_go (H : EnvOK C Pr Ow E) {f nt b : Nat} {c : Code} (hL : LoopsOK C Pr Ow E f nt (loops b c)) (hcu : E.cu = []) {L : St -> Prop} {ks bs ks2 bs2 : List Nat} {K : Ex -> St -> Prop} {st : St}
    (h : vc C E f nt b c st (bodyK L ks bs ks2 bs2 nt K)) (hn : ∀ st, L st -> GoL C Pr Ow f nt c st K) : GoL C Pr Ow f nt c st K := by
  refine go_weakEndL (go_round ((vc_ok H hL (noCuts hcu) h).mono fun e st' hq => ?_))
  have hx : ∀ e, e ≠ .normal -> K e (keepT ks2 bs2 nt st') -> ∃ st2, Weaker st' st2 /\ K e st2 := fun e _ hk => ⟨_, keepT_weaker ks2 bs2 nt st', hk⟩
  cases e with
  | normal => exact go_weakL (keepT_weaker ks bs nt st') ((hn _ hq).mono fun e st2 hk => ⟨st2, Weaker.refl _, hk⟩)
  | exit id => exact hx _ (by simp) hq
  | goto id => exact hx _ (by simp) hq
  | ret => exact hx _ (by simp) hq
theorem count_loop {g b nt n : Nat} {E : Nat -> Env} {hd : Nat -> St} {ks bs ks2 bs2 : List Nat} {K : Ex -> St -> Prop} (hnt : ntOf C g = nt) (H : ∀ i, i <= n -> EnvOK C Pr Ow (E i)) (hE : ∀ i, (E i).ls = [] /\ (E i).cu = [])
    (step : ∀ i, i <= n -> ∀ L : St -> Prop, (i < n -> L (hd (i + 1))) -> vcB C (E i) g b (hd i) (bodyK L ks bs ks2 bs2 nt K)) : ∀ i, i <= n -> GoL C Pr Ow g nt (bodyOf C g b) (hd i) K := by
  have key : ∀ d i, i + d = n -> GoL C Pr Ow g nt (bodyOf C g b) (hd i) K := by
    subst hnt
    intro d
    induction d with
    | zero =>
      intro i hi
      exact round_go (H i (by omega)) (noLoops (hE i).1) (hE i).2 (step i (by omega) (fun _ => False) (fun h => by omega)) (fun _ h => h.elim)
    | succ d ih =>
      intro i hi
      refine round_go (H i (by omega)) (noLoops (hE i).1) (hE i).2 (step i (by omega) (fun st => st = hd (i + 1)) (fun _ => rfl)) ?_
      rintro _ rfl
      exact ih (i + 1) (by omega)
  intro i hi
  exact key (n - i) i (by omega)
theorem obB_iff {b : Bool} {k : Prop} : obB b k ↔ b = true /\ k := ⟨obB_ok, fun h => obB_of h.1 h.2⟩
theorem brB_iff {b : Bool} {x y : Prop} : brB b x y ↔ (b = true -> x) /\ (b = false -> y) := by
  cases b <;> simp [brB]
theorem inR64 {n : Int} (h : -9223372036854775808 <= n /\ n <= 9223372036854775807) : inR .i64 n = true := by
  unfold inR; rw [Go.IntWalk.i64_in n h]; exact beq_self_eq_true n
theorem roomy_of {b n : Nat} (h1 : n <= 4294967296) (h2 : b * n <= 4294967296) : roomy b n = true := by
  unfold roomy; simp [h1, h2]
theorem round_of (H : EnvOK C Pr Ow E) {g b nt : Nat} (hnt : ntOf C g = nt) (hL : E.ls = []) {L : St -> Prop} {ks bs ks2 bs2 : List Nat} {K : Ex -> St -> Prop} {st : St}
    (h : vcB C E g b st (bodyK L ks bs ks2 bs2 nt K)) (hn : ∀ st, L st -> GoL C Pr Ow g nt (bodyOf C g b) st K) (hcu : E.cu = [] := by rfl) : GoL C Pr Ow g nt (bodyOf C g b) st K := by
  subst hnt; exact round_go H (noLoops hL) hcu h hn
theorem fn_of (H : EnvOK C Pr Ow E) {g nt : Nat} (hnt : ntOf C g = nt) (hk : nodupK (loops 0 (codeOf C g)) = true) (hL : ∀ b sp, look b E.ls = some sp -> ∀ st k, sp st k -> GoL C Pr Ow g nt (bodyOf C g b) st k)
    {xs : List DV} {ex : List Blk} {Φ : DV -> List Blk -> Prop} (h : vcF C E g xs ex Φ) (hcu : E.cu = [] := by rfl) : GoC C Pr Ow g xs ex Φ := by
  subst hnt; exact vcF_ok H (loopsOf hk hL) (noCuts hcu) h
theorem fn_of0 (H : EnvOK C Pr Ow E) {g : Nat} (hL : E.ls = []) {xs : List DV} {ex : List Blk} {Φ : DV -> List Blk -> Prop} (h : vcF C E g xs ex Φ) (hcu : E.cu = [] := by rfl) : GoC C Pr Ow g xs ex Φ := vcF_ok H (noLoops hL) (noCuts hcu) h
def AllOK (C : Cfg) (Pr Ow : Nat -> List DV -> DV -> Prop) : List (Nat × Spec) -> Prop
  | [] => True
  | p :: l => SpecOK C Pr Ow p.1 p.2 /\ AllOK C Pr Ow l
theorem AllOK.mem : ∀ {l : List (Nat × Spec)} {p : Nat × Spec}, AllOK C Pr Ow l -> p ∈ l -> SpecOK C Pr Ow p.1 p.2
  | [], _, _, h => by simp at h
  | q :: l, p, ha, h => by
    rcases List.mem_cons.1 h with rfl | h
    · exact ha.1
    · exact ha.2.mem h
def SitesOK (C : Cfg) (Pr Ow : Nat -> List DV -> DV -> Prop) : List (Nat × Nat × Spec) -> Prop
  | [] => True
  | p :: l => SpecOK C Pr Ow p.2.1 p.2.2 /\ SitesOK C Pr Ow l
theorem SitesOK.mem : ∀ {l : List (Nat × Nat × Spec)} {p : Nat × Nat × Spec}, SitesOK C Pr Ow l -> p ∈ l -> SpecOK C Pr Ow p.2.1 p.2.2
  | [], _, _, h => by simp at h
  | q :: l, p, ha, h => by
    rcases List.mem_cons.1 h with rfl | h
    · exact ha.1
    · exact ha.2.mem h
def OwnsOK (C : Cfg) (Ow : Nat -> List DV -> DV -> Prop) : List (Nat × OSpec) -> Prop
  | [] => True
  | p :: l => OSpecOK C Ow p.1 p.2 /\ OwnsOK C Ow l
theorem OwnsOK.mem : ∀ {l : List (Nat × OSpec)} {p : Nat × OSpec}, OwnsOK C Ow l -> p ∈ l -> OSpecOK C Ow p.1 p.2
  | [], _, h => by
    intro h2; simp at h2
  | q :: l, p, ha => by
    intro h
    rcases List.mem_cons.1 h with rfl | h
    · exact ha.1
    · exact ha.2.mem h
theorem envOK {E : Env} (h1 : AllOK C Pr Ow E.cs) (h2 : SitesOK C Pr Ow E.ss) (h3 : OwnsOK C Ow E.ow) : EnvOK C Pr Ow E :=
  ⟨fun _ _ h => h1.mem (look_mem h), fun _ _ _ h => h2.mem (look_mem h), fun _ _ h => h3.mem (look_mem h)⟩
theorem callS_ok {g : Nat} {xs : List DV} {r : DV} (h : ∀ Φ : DV -> List Blk -> Prop, Φ r [] -> GoC C Pr Ow g xs [] Φ) : SpecOK C Pr Ow g (callS xs r) := by
  intro xs' ex k hk
  cases ex with
  | nil =>
    obtain ⟨rfl, hk⟩ := hk
    exact h k hk
  | cons _ _ => exact hk.elim
theorem callG_ok {g : Nat} {c : Prop} {xs : List DV} {r : DV} (h : c -> ∀ Φ : DV -> List Blk -> Prop, Φ r [] -> GoC C Pr Ow g xs [] Φ) : SpecOK C Pr Ow g (callG c xs r) := by
  intro xs' ex k hk
  cases ex with
  | nil =>
    obtain ⟨hc, rfl, hk⟩ := hk
    exact h hc k hk
  | cons _ _ => exact hk.elim
theorem innerLoops {E : Env} {g nt b1 : Nat} (hnt : ntOf C g = nt) (hn : nodupK (loops b1 (bodyOf C g b1)) = true) (h : ∀ b sp, look b E.ls = some sp -> ∀ st k, sp st k -> GoL C Pr Ow g nt (innerOf C g b1 b) st k) :
    LoopsOK C Pr Ow E g nt (loops b1 (bodyOf C g b1)) := by
  subst hnt
  intro b c sp hm hl st k hs
  have := h b sp hl st k hs
  unfold innerOf at this
  rwa [look_of_nodup hn hm] at this
theorem round_in (H : EnvOK C Pr Ow E) {g b1 b nt : Nat} (hnt : ntOf C g = nt) (hL : E.ls = []) {L : St -> Prop} {ks bs ks2 bs2 : List Nat} {K : Ex -> St -> Prop} {st : St}
    (h : vcI C E g b1 b st (bodyK L ks bs ks2 bs2 nt K)) (hn : ∀ st, L st -> GoL C Pr Ow g nt (innerOf C g b1 b) st K) (hcu : E.cu = [] := by rfl) : GoL C Pr Ow g nt (innerOf C g b1 b) st K := by
  subst hnt; exact round_go H (noLoops hL) hcu h hn
theorem round_out (H : EnvOK C Pr Ow E) {g b nt : Nat} (hnt : ntOf C g = nt) (hL : LoopsOK C Pr Ow E g nt (loops b (bodyOf C g b))) {L : St -> Prop} {ks bs ks2 bs2 : List Nat} {K : Ex -> St -> Prop} {st : St}
    (h : vcB C E g b st (bodyK L ks bs ks2 bs2 nt K)) (hn : ∀ st, L st -> GoL C Pr Ow g nt (bodyOf C g b) st K) (hcu : E.cu = [] := by rfl) : GoL C Pr Ow g nt (bodyOf C g b) st K := by
  subst hnt; exact round_go H hL hcu h hn
end
end Go.Det
end

section
namespace Go.Det
section
variable {P : Program} {C : Cfg} {Pr Ow : Nat -> List DV -> DV -> Prop}
theorem BR.row_rho {ρ ρ' : Rho} {m : Ro} {w : World} {p : Loc} {n : Nat} {es : List DV} (h : BR ρ m w p (.row n es)) : BR ρ' m w p (.row n es) := by
  simp only [BR] at h ⊢
  obtain ⟨c, el, fr, h1, h2, h3, h4, h5, h6, h7⟩ := h
  exact ⟨c, el, fr, h1, h2, h3, h4, h5, h6, VRE.rho es (fun b hb => by rw [h6] at hb; cases hb) h7⟩
theorem own_ok (K0 : CfgOK P C Pr Ow) {g : Nat} {fi : Fi} {xs : List DV} {e : Ex} {st : St} {b n : Nat} {x : DV} {es : List DV} (hf : C.F g = some fi)
    (hrun : Run C Pr Ow (.code g fi.nt fi.code (enterD fi xs []) e st)) (he : e.ends = true) (hr : resL C st fi.res = some [.rsl b n 0 (x :: es).length])
    (hb : hget st.h b = some (.row n (x :: es))) : Callable P g /\ OwnOK P C g xs (.psl n (x :: es)) := by
  have hsay := Run.sound K0 hrun
  obtain ⟨fn, c1, c2, c3, c4, c5⟩ := K0.fn g fi hf
  refine ⟨⟨fn, c1, by simp [c2], c5⟩, rfl, ?_⟩
  intro ρ m w vals hG hro hx
  have hlen := hx.length
  simp only [Array.length_toList] at hlen
  have r : RelX fi.nt ρ w [] m (enterD fi xs []) { tmps := vals ++ Array.replicate (fn.ntmps - vals.size) undef, defers := [] } w ρ m := by
    have hno : ∀ (b : Nat) (x : Blk), hget (enterD fi xs []).h b = some x -> False := by
      intro b x hb
      obtain ⟨j, _, hj⟩ := hget_enter hb
      simp at hj
    refine ⟨⟨?_, Marks.nil _ _, ⟨fun b x hb => (hno b x hb).elim, fun b b' x x' p p' hb _ _ _ _ => (hno b x hb).elim, hro.1, hro.2⟩, Evo.refl _ _, Grows.refl _ _⟩, fun _ _ => rfl⟩
    simp only [enterD, Array.toList_append, Array.toList_replicate, c3, hlen]
    exact hx.append (VRL.undef ρ m _)
  refine calls_of_rel he (fun k x hk => (Array.getElem?_eq_some_iff.1 (hro.2 k x hk).1).1) c1 c2 (hsay ρ w [] m _ w ρ m hG r) ?_
  intro a' w' ρ' m' r'
  have final : ∃ v, (results fn a'.tmps).run P w' = .ok v w' /\ (∃ v' m', Ending.returned v = .returned v' /\ RoOK m' w' /\ Grows w.heap.size m m' /\ Evo [] w w' /\
      ∃ p cap, (x :: es).length <= cap /\ p.base + cap * n <= p.size /\ v' = .slice (some ⟨p.blk, p.base, none⟩) (x :: es).length cap /\ BR ρ m' w' p (.row n (x :: es)) /\ m' p.blk = none /\ w.heap.size <= p.blk) := by
    obtain ⟨us, hres, u2⟩ := results_ok K0.ty c4 r'.toRel hG hr
    refine ⟨_, hres, ?_⟩
    simp only [VRL] at u2
    obtain ⟨v, rest, hus, hv, rfl⟩ := u2
    subst hus
    simp only [VR] at hv
    obtain ⟨p, cap, hp, hcap, hsz, hv⟩ := hv
    obtain ⟨p', hp', hB, hm, hL, hN⟩ := r'.inv.blk b _ hb
    rw [hp] at hp'; cases hp'
    refine ⟨_, m', rfl, ⟨r'.inv.ro, r'.inv.oth⟩, r'.sub, r'.evo, p, cap, hcap, by simpa using hsz, ?_, hB.row_rho, hm, hN rfl⟩
    simp [hv]
  exact final
def ownP (C : Cfg) (fi : Fi) (R : DV -> Option Blk -> Prop) (e : Ex) (st : St) : Prop :=
  obB e.ends (onS (resL C st fi.res) fun vs => match vs with
    | [.rsl b n off len] => R (.rsl b n off len) (hget st.h b)
    | _ => False)
def vcO (C : Cfg) (E : Env) (g : Nat) (xs : List DV) (R : DV -> Option Blk -> Prop) : Prop :=
  match C.F g with
  | some fi => vc C E g fi.nt 0 fi.code (enterD fi xs []) (ownP C fi R)
  | none => False
theorem own_fn (K0 : CfgOK P C Pr Ow) {E : Env} (H : EnvOK C Pr Ow E) {g : Nat} {xs : List DV} {n : Nat} {x : DV} {es : List DV} (hL : E.ls = []) (hC : E.cu = [])
    (h : vcO C E g xs fun v b => (∃ i, v = .rsl i n 0 (x :: es).length) /\ b = some (.row n (x :: es))) : Callable P g /\ OwnOK P C g xs (.psl n (x :: es)) := by
  unfold vcO at h
  split at h
  · rename_i fi hf
    obtain ⟨e, st, a, hq⟩ := vc_ok H (noLoops hL) (noCuts hC) h
    unfold ownP at hq
    obtain ⟨he, hq⟩ := obB_ok hq
    obtain ⟨vs, hr, hq⟩ := onS_ok hq
    split at hq
    · rename_i b n' off len
      obtain ⟨⟨i, hi⟩, hb⟩ := hq
      cases hi
      exact own_ok K0 hf a he hr hb
    · exact hq.elim
  · exact h.elim
end
end Go.Det
end
