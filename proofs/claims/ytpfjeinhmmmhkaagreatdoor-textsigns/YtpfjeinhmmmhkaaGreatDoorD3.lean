/- TextSigns: whatever three signs come in, the law answers true and its input reads as it did (the tied card): part 3 of the texts behind it: Det8, Det9, Det11, Det12, Sea1, Tre1, Fn1, Own1, Own2, Top1, Fn2, Fn3, Tre2, Fn4, Fn5. No premise of its own. -/
import Derived.Test.YtpfjeinhmmmhkaaGreatDoorD2
import Derived.IntWalk
import Derived.Test.YtpfjeinhmmmhkaaGreatDoorProg
import Derived.Deep.LoopGhost
import Derived.WalkKit
import Derived.Lib.Walk
import Derived.Lib.SliceRun
import Derived.Shelf.RegionOpenPlain
import Derived.ChangeArms
import Derived.ChangeReads
import Derived.Deep.Slices
import Derived.DataReads
set_option linter.all false
section
set_option linter.unusedVariables false
set_option linter.unusedSimpArgs false
namespace Go.Det

/-! What is owed for a run, told from the front. -/
abbrev Spec := List DV → List Blk → (DV → List Blk → Prop) → Prop
abbrev OSpec := List DV → (DV → Prop) → Prop
abbrev LSpec := St → (Ex → St → Prop) → Prop

def SpecOK (C : Cfg) (Pr Ow : Nat → List DV → DV → Prop) (g : Nat) (sp : Spec) : Prop := ∀ xs ex k, sp xs ex k → GoC C Pr Ow g xs ex k
def OSpecOK (C : Cfg) (Ow : Nat → List DV → DV → Prop) (g : Nat) (sp : OSpec) : Prop := ∀ xs k, sp xs k → ∃ r, Ow g xs r ∧ k r

def look {α : Type _} (n : Nat) : List (Nat × α) → Option α
  | [] => none
  | (m, a) :: l => bif Nat.beq n m then some a else look n l
theorem look_mem {α : Type _} {n : Nat} : ∀ {l : List (Nat × α)} {a : α}, look n l = some a → (n, a) ∈ l
  | [], _, h => by simp [look] at h
  | (m, b) :: l, a, h => by
    simp only [look] at h
    cases hb : Nat.beq n m with
    | true =>
      rw [hb] at h
      simp only [cond_true, Option.some.injEq] at h
      have := Nat.eq_of_beq_eq_true hb
      subst this h
      exact List.mem_cons_self
    | false =>
      rw [hb] at h
      exact List.mem_cons_of_mem _ (look_mem h)

structure Env where
  cs : List (Nat × Spec) := []
  ss : List (Nat × Nat × Spec) := []
  ow : List (Nat × OSpec) := []
  ls : List (Nat × LSpec) := []
  js : List (Nat × LSpec) := []
  an : List (Nat × DV) := []
  wr : List Nat := []
  sp : List Nat := []
  cu : List (Nat × LSpec) := []
  fd : List Nat := []

/-! Force: the spine of a state is made plain. -/
def forceV (v : DV) {α : Sort _} (k : DV → α) : α :=
  match v with
  | .bool b => k (.bool b)
  | .int q n => k (.int q n)
  | .str s => k (.str s)
  | .agg cs => k (.agg cs)
  | .tup vs => k (.tup vs)
  | .psl n es => k (.psl n es)
  | .rsl b n o l => k (.rsl b n o l)
  | .ptr b n i o => k (.ptr b n i o)
  | .eptr n es i o => k (.eptr n es i o)
  | .fn f a c => k (.fn f a c)
  | .iface t v => k (.iface t v)
  | .gptr g o => k (.gptr g o)
  | .map b => k (.map b)
  | v => k v
theorem forceV_eq (v : DV) {α : Sort _} (k : DV → α) : forceV v k = k v := by cases v <;> rfl
def forceT {α : Sort _} : List DV → (List DV → α) → α
  | [], k => k []
  | v :: l, k => forceV v fun v' => forceT l fun l' => k (v' :: l')
theorem forceT_eq {α : Sort _} : ∀ (l : List DV) (k : List DV → α), forceT l k = k l
  | [], _ => rfl
  | v :: l, k => by simp only [forceT, forceV_eq, forceT_eq l]
def forceO (v : Option Blk) {α : Sort _} (k : Option Blk → α) : α :=
  match v with
  | none => k none
  | some (.box cs) => forceT cs fun cs' => k (some (.box cs'))
  | some (.row n es) => k (some (.row n es))
  | some (.iter s p) => k (some (.iter s p))
theorem forceO_eq (v : Option Blk) {α : Sort _} (k : Option Blk → α) : forceO v k = k v := by
  cases v with
  | none => rfl
  | some b => cases b <;> simp [forceO, forceT_eq]
def forceH {α : Sort _} : Heap → (Heap → α) → α
  | [], k => k []
  | v :: l, k => forceO v fun v' => forceH l fun l' => k (v' :: l')
theorem forceH_eq {α : Sort _} : ∀ (l : Heap) (k : Heap → α), forceH l k = k l
  | [], _ => rfl
  | v :: l, k => by simp only [forceH, forceO_eq, forceH_eq l]
def forceS (st : St) {α : Sort _} (k : St → α) : α :=
  match st with
  | ⟨t, h⟩ => forceT t fun t' => forceH h fun h' => k ⟨t', h'⟩
theorem forceS_eq (st : St) {α : Sort _} (k : St → α) : forceS st k = k st := by cases st; simp [forceS, forceT_eq, forceH_eq]

/-- A new value: its parts are made plain. -/
def forceN {α : Sort _} (v : DV) (k : DV → α) : α :=
  match v with
  | .agg cs => forceT cs fun cs => k (.agg cs)
  | .tup cs => forceT cs fun cs => k (.tup cs)
  | v => k v
theorem forceN_eq {α : Sort _} (v : DV) (k : DV → α) : forceN v k = k v := by cases v <;> simp [forceN, forceT_eq]
def forceOut {α : Sort _} (o : Out) (k : Out → α) : α := match o with
  | ⟨v, δ, φ⟩ => forceN v fun v => k ⟨v, δ, φ⟩
theorem forceOut_eq {α : Sort _} (o : Out) (k : Out → α) : forceOut o k = k o := by cases o; simp [forceOut, forceN_eq]
def forceNs {α : Sort _} : List DV → (List DV → α) → α
  | [], k => k []
  | v :: l, k => forceN v fun v' => forceNs l fun l' => k (v' :: l')
theorem forceNs_eq {α : Sort _} : ∀ (l : List DV) (k : List DV → α), forceNs l k = k l
  | [], _ => rfl
  | v :: l, k => by simp only [forceNs, forceN_eq, forceNs_eq l]
/-- A literal slice: all is plain. -/
def forceLit {α : Sort _} (o : Out) (k : Out → α) : α := match o with
  | ⟨.psl n es, δ, φ⟩ => forceNs es fun es => k ⟨.psl n es, δ, φ⟩
  | ⟨v, [(b, some (.row n es))], φ⟩ => forceNs es fun es => k ⟨v, [(b, some (.row n es))], φ⟩
  | o => k o
theorem forceLit_eq {α : Sort _} (o : Out) (k : Out → α) : forceLit o k = k o := by
  unfold forceLit; split <;> simp [forceNs_eq]

def setK {α : Sort _} : List DV → Nat → DV → (List DV → α) → α
  | [], _, _, k => k []
  | _ :: l, 0, v, k => k (v :: l)
  | x :: l, d + 1, v, k => setK l d v fun l' => k (x :: l')
theorem setK_eq {α : Sort _} : ∀ (l : List DV) (d : Nat) (v : DV) (k : List DV → α), setK l d v k = k (l.set d v)
  | [], _, _, _ => rfl
  | _ :: l, 0, v, k => rfl
  | x :: l, d + 1, v, k => by simp only [setK, setK_eq l, List.set_cons_succ]
def applyK {α : Sort _} (st : St) (dst : Option Nat) (out : Out) (k : St → α) : α :=
  match st, out with
  | ⟨t, h⟩, ⟨v, [], []⟩ => (match dst with
    | some d => forceV v fun v => setK t d v fun t' => k ⟨t', h⟩
    | none => k ⟨t, h⟩)
  | ⟨t, h⟩, out => forceS (apply ⟨t, h⟩ dst out) k
theorem applyK_eq {α : Sort _} (st : St) (dst : Option Nat) (out : Out) (k : St → α) : applyK st dst out k = k (apply st dst out) := by
  unfold applyK
  split
  · cases dst with
    | none => simp [apply, setAll]
    | some d => simp [apply, setAll, setK_eq, forceV_eq]
  · rw [forceS_eq]

/-! The check of an open order, worked out step by step. -/
def forceNL {α : Sort _} : List Nat → (List Nat → α) → α
  | [], k => k []
  | x :: l, k => forceNL l fun l' => k (x :: l')
theorem forceNL_eq {α : Sort _} : ∀ (l : List Nat) (k : List Nat → α), forceNL l k = k l
  | [], _ => rfl
  | x :: l, k => by simp only [forceNL, forceNL_eq l]
def forceNLL {α : Sort _} : List (List Nat) → (List (List Nat) → α) → α
  | [], k => k []
  | x :: l, k => forceNL x fun x => forceNLL l fun l' => k (x :: l')
theorem forceNLL_eq {α : Sort _} : ∀ (l : List (List Nat)) (k : List (List Nat) → α), forceNLL l k = k l
  | [], _ => rfl
  | x :: l, k => by simp only [forceNLL, forceNL_eq, forceNLL_eq l]
def ancsK {α : Sort _} : List (List Nat) → List Oper → (List (List Nat) → α) → α
  | acc, [], k => k acc
  | acc, o :: l, k => forceNLL (acc ++ [(boundOn o).flatMap fun j => j :: acc.getD j []]) fun acc => ancsK acc l k
theorem ancsK_eq {α : Sort _} : ∀ (acc : List (List Nat)) (l : List Oper) (k : List (List Nat) → α), ancsK acc l k = k (ancs acc l)
  | acc, [], k => rfl
  | acc, o :: l, k => by simp only [ancsK, forceNLL_eq, ancsK_eq _ l, ancs]
def forceB {α : Sort _} (b : Bool) (k : Bool → α) : α := match b with
  | true => k true
  | false => k false
theorem forceB_eq {α : Sort _} (b : Bool) (k : Bool → α) : forceB b k = k b := by cases b <;> rfl
def entsK {α : Sort _} (os : List Oper) (an : List (List Nat)) : Nat → List Oper → St → List Out → (List Ent → α) → α
  | n, o :: l, st, out :: outs, k => forceNL (slotsOf os o) fun sl => forceNL (touched st o) fun tc => forceNL (an.getD n []) fun ac => forceNL (lookMents os st o) fun dp => forceB (lookClean os st o) fun cl =>
      applyK st o.dst out fun st' => entsK os an (n + 1) l st' outs fun es => k ({ o := o, out := out, slots := sl, touch := tc, anc := ac, deep := dp, clean := cl } :: es)
  | _, _, _, _, k => k []
theorem entsK_eq {α : Sort _} (os : List Oper) (an : List (List Nat)) : ∀ (n : Nat) (l : List Oper) (st : St) (outs : List Out) (k : List Ent → α), entsK os an n l st outs k = k (ents os an n l st outs)
  | n, o :: l, st, out :: outs, k => by simp only [entsK, forceNL_eq, forceB_eq, applyK_eq, entsK_eq os an (n + 1) l, ents]
  | n, [], st, outs, k => by simp only [entsK, ents]
  | n, _ :: _, st, [], k => by simp only [entsK, ents]
def pairsF (n : Nat) (before : List (Nat × Ent)) : List Ent → Bool
  | [] => true
  | y :: l => (before.all fun p => y.anc.contains p.1 || apartB p.2 y) && pairsF (n + 1) ((n, y) :: before) l
theorem pairsF_ok : ∀ (l : List Ent) (k n : Nat) (bf : List (Nat × Ent)) (before : List Ent), n = before.length → (∀ i x, before[i]? = some x → (i, x) ∈ bf) → pairsF n bf l = true → pairsOK k before l = true
  | [], _, _, _, _, _, _, _ => rfl
  | y :: l, k, n, bf, before, hn, hb, h => by
    simp only [pairsF, Bool.and_eq_true, List.all_eq_true] at h
    simp only [pairsOK, Bool.and_eq_true, List.all_eq_true]
    refine ⟨fun i hi => ?_, pairsF_ok l (k + 1) (n + 1) ((n, y) :: bf) (before ++ [y]) (by simp [hn]) (fun i x hx => ?_) h.2⟩
    · cases hx : before[i]? with
      | none => rfl
      | some x => exact h.1 (i, x) (hb i x hx)
    · by_cases hi : i < before.length
      · rw [List.getElem?_append_left hi] at hx
        exact List.mem_cons_of_mem _ (hb i x hx)
      · have hlt := (List.getElem?_eq_some_iff.1 hx).1
        simp only [List.length_append, List.length_cons, List.length_nil] at hlt
        have : i = before.length := by omega
        subst this
        rw [List.getElem?_append_right (Nat.le_refl _)] at hx
        simp only [Nat.sub_self, List.getElem?_cons_zero, Option.some.injEq] at hx
        subst hx
        rw [hn]
        exact List.mem_cons_self
def drawF (os : List Oper) (st0 : St) (outs : List Out) : Bool := backwards os && ancsK [] os fun an => entsK os an 0 os st0 outs fun es => pairsF 0 [] es
theorem drawF_ok {os : List Oper} {st0 : St} {outs : List Out} (h : drawF os st0 outs = true) : drawOK os st0 outs = true := by
  unfold drawF at h
  rw [Bool.and_eq_true, ancsK_eq, entsK_eq] at h
  unfold drawOK
  simp only [Bool.and_eq_true]
  exact ⟨h.1, pairsF_ok _ 0 0 [] [] rfl (fun i x hx => by simp at hx) h.2⟩

/-- The check, in one of two ways. -/
def drawS (b : Bool) (os : List Oper) (st0 : St) (outs : List Out) : Bool := bif b then drawF os st0 outs else drawOK os st0 outs
theorem drawS_ok {b : Bool} {os : List Oper} {st0 : St} {outs : List Out} (h : drawS b os st0 outs = true) : drawOK os st0 outs = true := by
  cases b
  · exact h
  · exact drawF_ok h

section
variable (C : Cfg) (E : Env) (f nt : Nat)

/-- What is known of a call: at its place, else of the function. -/
def specAt (E : Env) (dst : Option Nat) (g : Nat) : Option Spec :=
  match dst with
  | some d => match look d E.ss with
    | some (g0, sp) => match Nat.beq g g0 with
      | true => some sp
      | false => none
    | none => look g E.cs
  | none => look g E.cs

def vcDo (st : St) (o : Oper) (k : Out → Prop) : Prop :=
  match o.op with
  | .call ⟨.value x, as1, _⟩ =>
    match calleeOf (opnd st.t x) with
    | some (g, first, cap) =>
      callInP C st.h g (first ++ as1.toList.map (opnd st.t) ++ cap) (fun xs' ex back =>
        match C.own g with
        | true =>
          match C.scal g, look g E.ow with
          | false, some sp => sp xs' fun r => onS (back r []) fun out => obB (phiOK nt out) (k out)
          | _, _ => False
        | false =>
          match specAt E o.dst g with
          | some sp => sp xs' ex fun r ex' => onS (back r ex') fun out => obB (phiOK nt out) (k out)
          | none => False) o.dst
    | none => False
  | .buildSlice ty len ps => onS (act C f st.t st.h o.dst (.buildSlice ty len ps)) fun out => forceLit out fun out => obB (phiOK nt out) (k out)
  | op => actP (match o.dst with | some d => !E.wr.contains d | none => true) C f (fun d => look d E.an) st.t st.h o.dst op fun out => obB (phiOK nt out) (k out)

def setT (st : St) (d : Nat) (v : DV) : St := { t := st.t.set d v, h := st.h }

def vcOps (os : List Oper) : List Oper → St → (List Out → St → Prop) → Prop
  | [], st, k => k [] st
  | o :: l, st, k =>
    match o.guard with
    | none => vcDo C E f nt st o fun out => forceOut out fun out => applyK st o.dst out fun st' => vcOps os l st' fun outs st2 => k (out :: outs) st2
    | some (j, want) =>
      match (os[j]?).bind (·.dst) with
      | some d =>
        match sget st.t d with
        | .bool b => match want with
          | true => brB b
            (vcDo C E f nt (setT st d (.bool true)) o fun out => forceOut out fun out => applyK (setT st d (.bool true)) o.dst out fun st' => vcOps os l st' fun outs st2 => k (out :: outs) st2)
            (applyK (setT st d (.bool false)) o.dst { v := .tup [] } fun st' => vcOps os l st' fun outs st2 => k ({ v := .tup [] } :: outs) st2)
          | false => brB b
            (applyK (setT st d (.bool true)) o.dst { v := .tup [] } fun st' => vcOps os l st' fun outs st2 => k ({ v := .tup [] } :: outs) st2)
            (vcDo C E f nt (setT st d (.bool false)) o fun out => forceOut out fun out => applyK (setT st d (.bool false)) o.dst out fun st' => vcOps os l st' fun outs st2 => k (out :: outs) st2)
        | .tup [] => applyK st o.dst { v := .tup [] } fun st' => vcOps os l st' fun outs st2 => k ({ v := .tup [] } :: outs) st2
        | _ => False
      | none => False

/-! Conditions within a region, not parted: a shadow of the state, in which all guarded operations are carried out. -/
abbrev Chain := List (Nat × Bool)
def chOf (ch : List (Nat × Chain)) (s : Nat) : Chain := match look s ch with
  | some c => c
  | none => []
def litOf (v : DV) (want : Bool) : Bool := match v with
  | .bool b => (match want with
    | true => b
    | false => !b)
  | _ => false
def condOf (t : List DV) : Chain → Bool
  | [] => true
  | (d, w) :: l => condOf t l && litOf (sget t d) w
def litP (v : DV) (w : Bool) (k : Bool → Prop) : Prop := match v with
  | .bool b => (match w with
    | true => k b
    | false => k (!b))
  | _ => k false
def condP (t : List DV) : Chain → (Bool → Prop) → Prop
  | [], k => k true
  | [(d, w)], k => litP (sget t d) w k
  | (d, w) :: p :: l, k => condP t (p :: l) fun c => litP (sget t d) w fun b => k (c && b)
theorem litP_eq (v : DV) (w : Bool) (k : Bool → Prop) : litP v w k = k (litOf v w) := by
  cases v <;> first | rfl | (cases w <;> rfl)
theorem condP_eq (t : List DV) : ∀ (c : Chain) (k : Bool → Prop), condP t c k = k (condOf t c)
  | [], k => rfl
  | [(d, w)], k => by simp only [condP, litP_eq, condOf, Bool.true_and]
  | (d, w) :: p :: l, k => by
    simp only [condP, condP_eq t (p :: l), litP_eq]
    rfl
def chEq : Chain → Chain → Bool
  | [], [] => true
  | (a, x) :: l, (b, y) :: m => Nat.beq a b && (x == y) && chEq l m
  | _, _ => false
def sufB (a : Chain) : Chain → Bool
  | [] => chEq a []
  | p :: c => chEq a (p :: c) || sufB a c
def guardOf (os : List Oper) (ch : List (Nat × Chain)) (t : List DV) (o : Oper) : Option Chain :=
  match o.guard with
  | none => some []
  | some (j, w) => match (os[j]?).bind (·.dst) with
    | some d => (match sget t d with
      | .bool _ => some ((d, w) :: chOf ch d)
      | _ => none)
    | none => none
def freeOf (d : Nat) (c : Chain) : Bool := c.all fun p => !Nat.beq p.1 d
def freeAll (d : Nat) : List (Nat × Chain) → Bool
  | [] => true
  | (_, c) :: l => freeOf d c && freeAll d l
def dropC : List (Nat × Chain) → List DV → List DV
  | [], l => l
  | (_, []) :: ch, l => dropC ch l
  | (s, _ :: _) :: ch, l => dropC ch (l.set s .unk)
def dropK {α : Sort _} : List (Nat × Chain) → List DV → (List DV → α) → α
  | [], l, k => k l
  | (_, []) :: ch, l, k => dropK ch l k
  | (s, _ :: _) :: ch, l, k => setK l s .unk fun l => dropK ch l k
theorem dropK_eq {α : Sort _} : ∀ (ch : List (Nat × Chain)) (l : List DV) (k : List DV → α), dropK ch l k = k (dropC ch l)
  | [], l, k => rfl
  | (_, []) :: ch, l, k => by simp only [dropK, dropC, dropK_eq ch]
  | (s, _ :: _) :: ch, l, k => by simp only [dropK, dropC, setK_eq, dropK_eq ch]
def opSlots (o : Oper) : List Nat := o.op.operands.toList.filterMap slotOf
def pickM (t : List DV) (x a b : Operand) (k : DV → Prop) : Prop :=
  match opnd t x with
  | .bool p =>
    match a, b with
    | a, .const (.bool false) => (match opnd t a with
      | .bool u => k (.bool (p && u))
      | _ => False)
    | .const (.bool true), b => (match opnd t b with
      | .bool v => k (.bool (p || v))
      | _ => False)
    | a, b => (match opnd t a, opnd t b with
      | .bool u, .bool v => k (.bool (bif p then u else v))
      | .int q u, .int q' v => onS (if q = q' then some () else none) fun _ => k (.int q (bif p then u else v))
      | .str u, .str v => k (.str (bif p then u else v))
      | _, _ => False)
  | _ => False
def slotsOK (ch : List (Nat × Chain)) (c : Chain) (x : Operand) : Bool := match x with
  | .tmp s => sufB (chOf ch s) c
  | _ => true
def pickOK (ch : List (Nat × Chain)) (c : Chain) (x a b : Operand) : Bool := match x with
  | .tmp s => slotsOK ch c (.tmp s) && (slotsOK ch c a || slotsOK ch ((s, true) :: chOf ch s) a) && (slotsOK ch c b || slotsOK ch ((s, false) :: chOf ch s) b)
  | _ => false
def putT (st : St) (dst : Option Nat) (v : DV) : St := match dst with
  | some d => { t := st.t.set d v, h := st.h }
  | none => st
def putK {α : Sort _} (st : St) (dst : Option Nat) (v : DV) (k : St → α) : α := match st, dst with
  | ⟨t, h⟩, some d => forceV v fun v => setK t d v fun t' => k ⟨t', h⟩
  | ⟨t, h⟩, none => k ⟨t, h⟩
theorem putK_eq {α : Sort _} (st : St) (dst : Option Nat) (v : DV) (k : St → α) : putK st dst v k = k (putT st dst v) := by
  cases st; cases dst <;> simp [putK, putT, setK_eq, forceV_eq]
def putC (ch : List (Nat × Chain)) (dst : Option Nat) (c : Chain) : List (Nat × Chain) := match dst with
  | some d => (match c with
    | [] => (match look d ch with
      | none => ch
      | some _ => (d, []) :: ch)
    | p :: c => (d, p :: c) :: ch)
  | none => ch
def dstOK (ch : List (Nat × Chain)) (c : Chain) (dst : Option Nat) : Bool := match dst with
  | some d => freeAll d ch && freeOf d c
  | none => true

def vcM (os : List Oper) : List Oper → St → List (Nat × Chain) → (St → Prop) → Prop
  | [], sh, ch, k => dropK ch sh.t fun t => k { t := t, h := sh.h }
  | o :: l, sh, ch, k =>
    match guardOf os ch sh.t o with
    | none => False
    | some c => obB (dstOK ch c o.dst) <|
      match o.op with
      | .pick x a b => obB (pickOK ch c x a b) (pickM sh.t x a b fun v => putK sh o.dst v fun sh' => vcM os l sh' (putC ch o.dst c) k)
      | op =>
        condP sh.t c fun cnd => match quietP (match c with | [] => none | _ :: _ => some cnd) (match o.dst with | some d => !E.wr.contains d | none => true) C f (fun d => look d E.an) sh.t sh.h o.dst op (fun v => forceN v fun v => putK sh o.dst v fun sh' => vcM os l sh' (putC ch o.dst c) k) with
        | some p => obB (op.operands.toList.all (slotsOK ch c)) p
        | none => match c with
          | [] => obB (op.operands.toList.all (slotsOK ch [])) (vcDo C E f nt sh o fun out => forceOut out fun out => applyK sh o.dst out fun sh' => vcM os l sh' (putC ch o.dst []) k)
          | _ :: _ => False

/-- A cut ahead of a region: what follows is known. -/
def cutAt (E : Env) : Code → Option LSpec
  | .region id _ _ => look id E.cu
  | _ => none
def vc (bid : Nat) : Code → St → (Ex → St → Prop) → Prop
  | .skip, st, k => k .normal st
  | .label _, st, k => k .normal st
  | .region id ops draw, st, k => match draw || E.sp.contains id || ops.toList.all (fun o => o.guard.isNone) with
    | true => vcOps C E f nt ops.toList ops.toList st fun outs st' => bif draw then obB (drawS (E.fd.contains id) ops.toList st outs) (k .normal st') else k .normal st'
    | false => vcM C E f nt ops.toList ops.toList st [] fun st' => k .normal st'
  | .seq x y, st, k => match cutAt E x with
    | some sp => sp st k
    | none => vc bid x st (Ex.on k fun st1 => vc bid y st1 k)
  | .cond c x y, st, k => match opnd st.t c with
    | .bool b => brB b (vc bid x st k) (vc bid y st k)
    | _ => False
  | .block id c, st, k => vc id c st (Ex.blocked id k)
  | .loop _, st, k => match look bid E.ls with
    | some sp => sp st k
    | none => False
  | .exit id, st, k => k (.exit id) st
  | .goto l, st, k => k (.goto l) st
  | .ret, st, k => k .ret st
  | .scope c, st, k => vc bid c st (Ex.scopedX c k fun _ st1 => False)
  | .rangeFunc .., _, _ => False
  | .refuse _, _, _ => False
end

/-- The loops, each with the block that it stands in. -/
def loops : Nat → Code → List (Nat × Code)
  | b, .seq x y => loops b x ++ loops b y
  | b, .cond _ x y => loops b x ++ loops b y
  | _, .block id c => loops id c
  | b, .loop c => [(b, c)]
  | b, .scope c => loops b c
  | _, _ => []

/-- What begins with a region. -/
def rests : Code → List (Nat × Code)
  | .seq x y => (match x with
    | .region id o d => [(id, .seq (.region id o d) y)]
    | _ => []) ++ (rests x ++ rests y)
  | .cond _ x y => rests x ++ rests y
  | .block _ c => rests c
  | .scope c => rests c
  | _ => []
structure EnvOK (C : Cfg) (Pr Ow : Nat → List DV → DV → Prop) (E : Env) : Prop where
  cs : ∀ g sp, look g E.cs = some sp → SpecOK C Pr Ow g sp
  ss : ∀ d g sp, look d E.ss = some (g, sp) → SpecOK C Pr Ow g sp
  ow : ∀ g sp, look g E.ow = some sp → OSpecOK C Ow g sp
def LoopsOK (C : Cfg) (Pr Ow : Nat → List DV → DV → Prop) (E : Env) (f nt : Nat) (L : List (Nat × Code)) : Prop :=
  ∀ b c sp, (b, c) ∈ L → look b E.ls = some sp → ∀ st k, sp st k → GoL C Pr Ow f nt c st k

def CutsOK (C : Cfg) (Pr Ow : Nat → List DV → DV → Prop) (E : Env) (f nt : Nat) (L : List (Nat × Code)) : Prop :=
  ∀ b c sp, (b, c) ∈ L → look b E.cu = some sp → ∀ st k, sp st k → GoX C Pr Ow f nt c st k
theorem noCuts {C : Cfg} {Pr Ow : Nat → List DV → DV → Prop} {E : Env} {f nt : Nat} {L : List (Nat × Code)} (h : E.cu = []) : CutsOK C Pr Ow E f nt L := by
  intro b c sp _ hl; rw [h] at hl; simp [look] at hl
section
variable {C : Cfg} {Pr Ow : Nat → List DV → DV → Prop} {E : Env} {f nt : Nat}

theorem specAt_ok (H : EnvOK C Pr Ow E) {dst : Option Nat} {g : Nat} {sp : Spec} (h : specAt E dst g = some sp) : SpecOK C Pr Ow g sp := by
  unfold specAt at h
  split at h
  · split at h
    · rename_i hl
      split at h
      · rename_i hg
        simp only [Option.some.injEq] at h; subst h
        have := Nat.eq_of_beq_eq_true hg; subst this
        exact H.ss _ _ _ hl
      · simp at h
    · exact H.cs _ _ h
  · exact H.cs _ _ h
theorem vcDo_at (H : EnvOK C Pr Ow E) {st st2 : St} {os l : List Oper} {o : Oper} {K : List Out → St → Prop} (hop : ∀ x ∈ o.op.operands.toList, opnd st2.t x = opnd st.t x) (hh : st2.h = st.h)
    (hw : wants os st2.t o = some true) {k : Out → Prop} (hk : ∀ out, k out → GoO C Pr Ow f nt os l (apply st2 o.dst out) fun outs st' => K (out :: outs) st')
    (h : vcDo C E f nt st o k) : GoO C Pr Ow f nt os (o :: l) st2 K := by
  have hact : ∀ {out : Out}, act C f st.t st.h o.dst o.op = some out → act C f st2.t st2.h o.dst o.op = some out := by
    intro out ho
    rw [act_frame hop fun x _ b _ => by rw [hh]]
    exact ho
  unfold vcDo at h
  split at h
  · rename_i x as1 ts ho
    have hin : ∀ y ∈ as1.toList, y ∈ o.op.operands.toList := fun y hy => by rw [ho]; simp [Op.operands, Call.operands]; exact .inr (by simpa using hy)
    have hinx : x ∈ o.op.operands.toList := by rw [ho]; simp [Op.operands, Call.operands]
    have hargs : as1.toList.map (opnd st2.t) = as1.toList.map (opnd st.t) := List.map_congr_left fun y hy => hop y (hin y hy)
    split at h
    · rename_i g first cap hx
      have hx2 : calleeOf (opnd st2.t x) = some (g, first, cap) := by rw [hop x hinx]; exact hx
      obtain ⟨xs', ex, e1, h⟩ := callInP_ok h
      rw [← hargs, ← hh] at e1 h
      split at h
      · rename_i hown
        split at h
        · rename_i sp hsc hl
          obtain ⟨r, hr, h2⟩ := H.ow g sp hl _ _ h
          obtain ⟨out, h3, h4⟩ := onS_ok h2
          obtain ⟨h5, h6⟩ := obB_ok h4
          exact go_callOwn hw ho hx2 rfl e1 hown hsc hr h3 h5 rfl (hk _ h6)
        · exact h.elim
      · rename_i hown
        split at h
        · rename_i sp hl
          refine go_call hw ho hx2 rfl e1 hown (specAt_ok H hl _ _ _ h) fun r ex' h2 => ?_
          obtain ⟨out, h3, h4⟩ := onS_ok h2
          obtain ⟨h5, h6⟩ := obB_ok h4
          exact ⟨out, h3, h5, hk _ h6⟩
        · exact h.elim
    · exact h.elim
  · rename_i ty len ps ho
    obtain ⟨out, h1, h2⟩ := onS_ok h
    rw [forceLit_eq] at h2
    obtain ⟨h3, h4⟩ := obB_ok h2
    exact go_act hw (hact (by rw [ho]; exact h1)) h3 rfl (hk _ h4)
  · obtain ⟨out, h1, h2⟩ := actP_ok h
    obtain ⟨h3, h4⟩ := obB_ok h2
    exact go_act hw (hact h1) h3 rfl (hk _ h4)
theorem vcDo_ok (H : EnvOK C Pr Ow E) {st : St} {os l : List Oper} {o : Oper} {K : List Out → St → Prop} (hw : wants os st.t o = some true) {k : Out → Prop} (hk : ∀ out, k out → GoO C Pr Ow f nt os l (apply st o.dst out) fun outs st' => K (out :: outs) st')
    (h : vcDo C E f nt st o k) : GoO C Pr Ow f nt os (o :: l) st K := vcDo_at H (fun _ _ => rfl) rfl hw hk h

theorem setT_same {st : St} {d : Nat} {v : DV} (h : sget st.t d = v) (hv : v ≠ .tup []) : setT st d v = st := by
  unfold setT
  have : d < st.t.length := by
    rcases Nat.lt_or_ge d st.t.length with q | q
    · exact q
    · unfold sget at h
      rw [List.getD_eq_getElem?_getD, List.getElem?_eq_none_iff.2 q] at h
      exact absurd h.symm hv
  have hs : st.t.set d v = st.t := by
    apply List.ext_getElem?
    intro i
    rw [List.getElem?_set]
    split
    · rename_i hi; subst hi
      unfold sget at h
      rw [List.getD_eq_getElem?_getD, List.getElem?_eq_getElem this] at h
      simp at h
      simp [this, h]
    · rfl
  rw [hs]

theorem vcOps_ok (H : EnvOK C Pr Ow E) {os : List Oper} : ∀ {l : List Oper} {st : St} {K : List Out → St → Prop}, vcOps C E f nt os l st K → GoO C Pr Ow f nt os l st K
  | [], st, K, h => go_nil h
  | o :: l, st, K, h => by
    simp only [vcOps] at h
    split at h
    · rename_i hg
      refine vcDo_ok H (by unfold wants; rw [hg]) (fun out ho => ?_) h
      rw [forceOut_eq, applyK_eq] at ho
      exact vcOps_ok H ho
    · rename_i j want hg
      split at h
      · rename_i d hd
        split at h
        · rename_i b hb
          split at h
          · rcases brB_ok h with ⟨h1, h2⟩ | ⟨h1, h2⟩
            · subst h1
              rw [setT_same hb (by simp)] at h2
              refine vcDo_ok H (by unfold wants; simp only [hg, hd, hb, beq_self_eq_true]) (fun out ho => ?_) h2
              rw [forceOut_eq, applyK_eq] at ho
              exact vcOps_ok H ho
            · subst h1
              rw [setT_same hb (by simp), applyK_eq] at h2
              refine go_pass (by unfold wants; simp only [hg, hd, hb]; rfl) rfl (vcOps_ok H h2)
          · rcases brB_ok h with ⟨h1, h2⟩ | ⟨h1, h2⟩
            · subst h1
              rw [setT_same hb (by simp), applyK_eq] at h2
              refine go_pass (by unfold wants; simp only [hg, hd, hb]; rfl) rfl (vcOps_ok H h2)
            · subst h1
              rw [setT_same hb (by simp)] at h2
              refine vcDo_ok H (by unfold wants; simp only [hg, hd, hb, beq_self_eq_true]) (fun out ho => ?_) h2
              rw [forceOut_eq, applyK_eq] at ho
              exact vcOps_ok H ho
        · rename_i hb
          rw [applyK_eq] at h
          exact go_pass (by unfold wants; simp only [hg, hd, hb]) rfl (vcOps_ok H h)
        · exact h.elim
      · exact h.elim

/-- The state against its shadow. -/
structure MInv (st sh : St) (ch : List (Nat × Chain)) : Prop where
  h : st.h = sh.h
  len : st.t.length = sh.t.length
  on : ∀ i, condOf sh.t (chOf ch i) = true → sget st.t i = sget sh.t i
  off : ∀ i, condOf sh.t (chOf ch i) = false → sget st.t i = .tup []

theorem chEq_ok : ∀ {a b : Chain}, chEq a b = true → a = b
  | [], [], _ => rfl
  | (a, x) :: l, (b, y) :: m, h => by
    simp only [chEq, Bool.and_eq_true, beq_iff_eq] at h
    have := Nat.eq_of_beq_eq_true h.1.1
    rw [this, h.1.2, chEq_ok h.2]
  | [], _ :: _, h => by simp [chEq] at h
  | _ :: _, [], h => by simp [chEq] at h
theorem sufB_cond {t : List DV} {a : Chain} : ∀ {c : Chain}, sufB a c = true → condOf t c = true → condOf t a = true
  | [], h, hc => by rw [chEq_ok h]; rfl
  | p :: c, h, hc => by
    simp only [sufB, Bool.or_eq_true] at h
    rcases h with h | h
    · rw [chEq_ok h]; exact hc
    · obtain ⟨d, w⟩ := p
      simp only [condOf, Bool.and_eq_true] at hc
      exact sufB_cond h hc.1
theorem condOf_set {t : List DV} {d : Nat} {v : DV} : ∀ {c : Chain}, freeOf d c = true → condOf (t.set d v) c = condOf t c
  | [], _ => rfl
  | (e, w) :: c, h => by
    simp only [freeOf, List.all_cons, Bool.and_eq_true] at h
    simp only [condOf]
    rw [condOf_set (c := c) (by simpa [freeOf] using h.2), sget_set]
    intro e'
    subst e'
    simp at h
theorem litOf_forget (φ : List Nat) (v : DV) (w : Bool) : litOf (v.forget φ) w = litOf v w := by
  cases v with
  | ptr => simp only [DV.forget]; split <;> rfl
  | rsl => simp only [DV.forget]; split <;> rfl
  | map => simp only [DV.forget]; split <;> rfl
  | _ => rfl
theorem condOf_forget (φ : List Nat) {t : List DV} : ∀ (c : Chain), condOf (forgetL φ t) c = condOf t c
  | [] => rfl
  | (e, w) :: c => by simp only [condOf]; rw [condOf_forget φ c, sget_forget, litOf_forget]
theorem freeAll_ok {d : Nat} : ∀ {ch : List (Nat × Chain)} {i : Nat}, freeAll d ch = true → freeOf d (chOf ch i) = true
  | [], _, _ => rfl
  | (n, c) :: ch, i, h => by
    simp only [freeAll, Bool.and_eq_true] at h
    have ih := freeAll_ok (i := i) h.2
    unfold chOf at ih ⊢
    simp only [look]
    cases Nat.beq i n with
    | true => exact h.1
    | false => exact ih
theorem chOf_cons {ch : List (Nat × Chain)} {d i : Nat} {c : Chain} : chOf ((d, c) :: ch) i = if i = d then c else chOf ch i := by
  unfold chOf
  simp only [look]
  by_cases h : i = d
  · subst h; simp
  · have : Nat.beq i d = false := by
      cases hb : Nat.beq i d with
      | false => rfl
      | true => exact absurd (Nat.eq_of_beq_eq_true hb) h
    simp [this, h]

theorem chOf_putC {ch : List (Nat × Chain)} {d i : Nat} {c : Chain} : chOf (putC ch (some d) c) i = if i = d then c else chOf ch i := by
  unfold putC
  simp only
  split
  · split
    · rename_i hl
      by_cases h : i = d
      · subst h; rw [if_pos rfl]; unfold chOf; rw [hl]
      · rw [if_neg h]
    · exact chOf_cons
  · exact chOf_cons
theorem sget_set_same {t : List DV} {d : Nat} {v : DV} (h : d < t.length) : sget (t.set d v) d = v := by
  unfold sget; simp [List.getD_eq_getElem?_getD, h]
theorem sget_out {t : List DV} {d : Nat} (h : ¬ d < t.length) : sget t d = .tup [] := by
  unfold sget; simp [List.getD_eq_getElem?_getD, List.getElem?_eq_none_iff.2 (Nat.le_of_not_lt h)]

theorem MInv.slot {st sh : St} {ch : List (Nat × Chain)} (m : MInv st sh ch) {c : Chain} (hc : condOf sh.t c = true) {x : Operand} (hx : slotsOK ch c x = true) : opnd st.t x = opnd sh.t x := by
  cases x with
  | tmp s => exact m.on s (sufB_cond hx hc)
  | const v => rfl
  | global g => rfl
  | func f => rfl

/-- A step at which the shadow gets a value, the state too if it is wanted. -/
theorem MInv.put {st sh : St} {ch : List (Nat × Chain)} (m : MInv st sh ch) {c : Chain} {dst : Option Nat} (hd : dstOK ch c dst = true) (v u : DV) (hon : condOf sh.t c = true → u = v) (hoff : condOf sh.t c = false → u = .tup []) :
    MInv (apply st dst { v := u }) (putT sh dst v) (putC ch dst c) := by
  rw [apply_eq]
  simp only [forgetL_nil, forgetH_nil, setAll]
  cases dst with
  | none => exact ⟨m.h, m.len, m.on, m.off⟩
  | some d =>
    simp only [dstOK, Bool.and_eq_true] at hd
    simp only [putT]
    have e1 : ∀ i, freeOf d (chOf (putC ch (some d) c) i) = true := by
      intro i; rw [chOf_putC]; split
      · exact hd.2
      · exact freeAll_ok hd.1
    refine ⟨m.h, by simpa using m.len, fun i => ?_, fun i => ?_⟩
    · rw [condOf_set (e1 i), chOf_putC]
      by_cases hi : i = d
      · subst hi
        rw [if_pos rfl]
        intro hc
        by_cases hl : i < st.t.length
        · rw [sget_set_same hl, sget_set_same (by rw [← m.len]; exact hl), hon hc]
        · rw [sget_out (by simpa using hl), sget_out (by rw [m.len] at hl; simpa using hl)]
      · rw [if_neg hi, sget_set _ _ _ _ hi, sget_set _ _ _ _ hi]; exact m.on i
    · rw [condOf_set (e1 i), chOf_putC]
      by_cases hi : i = d
      · subst hi
        rw [if_pos rfl]
        intro hc
        by_cases hl : i < st.t.length
        · rw [sget_set_same hl, hoff hc]
        · rw [sget_out (by simpa using hl)]
      · rw [if_neg hi, sget_set _ _ _ _ hi]; exact m.off i

theorem dropC_get : ∀ (ch : List (Nat × Chain)) (l : List DV) (j : Nat) (x : DV), (dropC ch l)[j]? = some x → x = .unk ∨ (l[j]? = some x ∧ ∀ p ∈ ch, p.1 = j → p.2 = [])
  | [], l, j, x, h => .inr ⟨h, by simp⟩
  | (s, []) :: ch, l, j, x, h => by
    rcases dropC_get ch l j x h with h | ⟨h1, h2⟩
    · exact .inl h
    · refine .inr ⟨h1, fun p hp hj => ?_⟩
      rcases List.mem_cons.1 hp with rfl | hp
      · rfl
      · exact h2 p hp hj
  | (s, q :: c) :: ch, l, j, x, h => by
    rcases dropC_get ch _ j x h with h | ⟨h1, h2⟩
    · exact .inl h
    · rw [List.getElem?_set] at h1
      by_cases hs : s = j
      · rw [if_pos hs] at h1
        split at h1
        · simp only [Option.some.injEq] at h1; exact .inl h1.symm
        · simp at h1
      · rw [if_neg hs] at h1
        refine .inr ⟨h1, fun p hp hj => ?_⟩
        rcases List.mem_cons.1 hp with rfl | hp
        · exact absurd hj hs
        · exact h2 p hp hj
theorem dropC_len : ∀ (ch : List (Nat × Chain)) (l : List DV), (dropC ch l).length = l.length
  | [], _ => rfl
  | (_, []) :: ch, l => by simp only [dropC, dropC_len ch]
  | (s, _ :: _) :: ch, l => by simp only [dropC, dropC_len ch, List.length_set]
theorem MInv.weaker {st sh : St} {ch : List (Nat × Chain)} (m : MInv st sh ch) : Weaker st { t := dropC ch sh.t, h := sh.h } := by
  refine ⟨by rw [dropC_len]; exact m.len.symm, fun i x h => ?_, fun b x h => by rw [m.h]; exact h⟩
  rcases dropC_get ch sh.t i x h with h | ⟨h2, h1⟩
  · exact .inl h
  · have h1 : chOf ch i = [] := by
      unfold chOf
      cases hl : look i ch with
      | none => rfl
      | some c => exact h1 _ (look_mem hl) rfl
    have hi : i < sh.t.length := (List.getElem?_eq_some_iff.1 h2).1
    have hs := m.on i (by rw [h1]; rfl)
    refine .inr ⟨x, ?_, .inl rfl⟩
    unfold sget at hs
    rw [List.getD_eq_getElem?_getD, List.getD_eq_getElem?_getD, h2, List.getElem?_eq_getElem (by rw [m.len]; exact hi)] at hs
    rw [List.getElem?_eq_getElem (by rw [m.len]; exact hi)]
    simpa using hs

theorem MInv.wants {os : List Oper} {st sh : St} {ch : List (Nat × Chain)} (m : MInv st sh ch) {o : Oper} {c : Chain} (hg : guardOf os ch sh.t o = some c) : Det.wants os st.t o = some (condOf sh.t c) := by
  unfold guardOf at hg
  unfold Det.wants
  split at hg
  · rename_i hgo; rw [hgo]
    simp only [Option.some.injEq] at hg; subst hg; rfl
  · rename_i j w hgo
    rw [hgo]
    simp only
    split at hg
    · rename_i d hd
      rw [hd]
      simp only
      split at hg
      · rename_i b hb
        simp only [Option.some.injEq] at hg; subst hg
        simp only [condOf, hb, litOf]
        cases hc : condOf sh.t (chOf ch d) with
        | true =>
          rw [m.on d hc, hb]
          cases b <;> cases w <;> rfl
        | false => rw [m.off d hc]; rfl
      · simp at hg
    · simp at hg

theorem pickM_ok {t : List DV} {x a b : Operand} {k : DV → Prop} (h : pickM t x a b k) : ∃ p v, opnd t x = .bool p ∧ k v ∧ (p = true → v = opnd t a) ∧ (p = false → v = opnd t b) := by
  unfold pickM at h
  split at h
  · rename_i p hp
    refine ⟨p, ?_⟩
    split at h
    · split at h
      · rename_i u hu
        exact ⟨_, hp, h, fun e => by subst e; rw [hu]; rfl, fun e => by subst e; rfl⟩
      · exact h.elim
    · split at h
      · rename_i u hu
        exact ⟨_, hp, h, fun e => by subst e; rfl, fun e => by subst e; rw [hu]; rfl⟩
      · exact h.elim
    · split at h
      · rename_i hu hv
        exact ⟨_, hp, h, fun e => by subst e; rw [hu]; rfl, fun e => by subst e; rw [hv]; rfl⟩
      · rename_i q u q' v hu hv
        obtain ⟨_, h1, h2⟩ := onS_ok h
        have hq : q = q' := by
          by_cases hq : q = q'
          · exact hq
          · rw [if_neg hq] at h1; simp at h1
        subst hq
        exact ⟨_, hp, h2, fun e => by subst e; rw [hu]; rfl, fun e => by subst e; rw [hv]; rfl⟩
      · rename_i hu hv
        exact ⟨_, hp, h, fun e => by subst e; rw [hu]; rfl, fun e => by subst e; rw [hv]; rfl⟩
      · exact h.elim
  · exact h.elim

theorem MInv.apply {st sh : St} {ch : List (Nat × Chain)} (m : MInv st sh ch) {dst : Option Nat} (hd : dstOK ch [] dst = true) (out : Out) : MInv (Det.apply st dst out) (Det.apply sh dst out) (putC ch dst []) := by
  rw [apply_eq, apply_eq]
  have base : ∀ i, (condOf sh.t (chOf ch i) = true → sget (forgetL out.φ st.t) i = sget (forgetL out.φ sh.t) i) ∧ (condOf sh.t (chOf ch i) = false → sget (forgetL out.φ st.t) i = .tup []) := by
    intro i
    refine ⟨fun h => ?_, fun h => ?_⟩
    · rw [sget_forget, sget_forget, m.on i h]
    · rw [sget_forget, m.off i h]; rfl
  cases dst with
  | none =>
    refine ⟨by simp [m.h], by simpa [forgetL_len] using m.len, fun i h => ?_, fun i h => ?_⟩
    · simp only [putC] at h
      rw [condOf_forget] at h
      exact (base i).1 h
    · simp only [putC] at h
      rw [condOf_forget] at h
      exact (base i).2 h
  | some d =>
    simp only [dstOK, Bool.and_eq_true] at hd
    have e1 : ∀ i, freeOf d (chOf (putC ch (some d) []) i) = true := by
      intro i; rw [chOf_putC]; split
      · rfl
      · exact freeAll_ok hd.1
    refine ⟨by simp [m.h], by simpa [forgetL_len] using m.len, fun i => ?_, fun i => ?_⟩
    · rw [condOf_set (e1 i), condOf_forget, chOf_putC]
      by_cases hi : i = d
      · subst hi
        intro _
        by_cases hl : i < st.t.length
        · rw [sget_set_same (by simpa [forgetL_len] using hl), sget_set_same (by rw [forgetL_len, ← m.len]; exact hl)]
        · rw [sget_out (by simpa [forgetL_len] using hl), sget_out (by rw [m.len] at hl; simpa [forgetL_len] using hl)]
      · rw [if_neg hi, sget_set _ _ _ _ hi, sget_set _ _ _ _ hi]; exact (base i).1
    · rw [condOf_set (e1 i), condOf_forget, chOf_putC]
      by_cases hi : i = d
      · subst hi
        rw [if_pos rfl]; intro h; simp [condOf] at h
      · rw [if_neg hi, sget_set _ _ _ _ hi]; exact (base i).2

theorem slot_opSlots {ch : List (Nat × Chain)} {c : Chain} {op : Op} (h : op.operands.toList.all (slotsOK ch c) = true) : ∀ x ∈ op.operands.toList, slotsOK ch c x = true := fun x hx => List.all_eq_true.1 h x hx

theorem vcM_ok (H : EnvOK C Pr Ow E) {os : List Oper} : ∀ {l : List Oper} {st sh : St} {ch : List (Nat × Chain)} {k : St → Prop}, MInv st sh ch → vcM C E f nt os l sh ch k → GoO C Pr Ow f nt os l st fun _ st' => ∃ st2, Weaker st' st2 ∧ k st2
  | [], st, sh, ch, k, m, h => by
    simp only [vcM, dropK_eq] at h
    exact go_nil ⟨_, m.weaker, h⟩
  | o :: l, st, sh, ch, k, m, h => by
    simp only [vcM] at h
    split at h
    · exact h.elim
    · rename_i c hg
      have hw := m.wants hg
      obtain ⟨hd, h⟩ := obB_ok h
      split at h
      · rename_i x a b hop
        obtain ⟨hp, h⟩ := obB_ok h
        obtain ⟨p, v, hx, hfin, hv1, hv2⟩ := pickM_ok h
        rw [putK_eq] at hfin
        cases hc : condOf sh.t c with
        | false =>
          rw [hc] at hw
          exact go_pass hw rfl (vcM_ok H (m.put hd v (.tup []) (fun e => by rw [hc] at e; cases e) (fun _ => rfl)) hfin)
        | true =>
          rw [hc] at hw
          cases x with
          | const _ => simp [pickOK] at hp
          | global _ => simp [pickOK] at hp
          | func _ => simp [pickOK] at hp
          | tmp s =>
            simp only [pickOK, Bool.and_eq_true, Bool.or_eq_true] at hp
            obtain ⟨⟨p1, p2⟩, p3⟩ := hp
            have hxs : opnd st.t (.tmp s) = .bool p := (m.slot hc p1).trans hx
            have hcs : condOf sh.t (chOf ch s) = true := sufB_cond p1 hc
            have hact : act C f st.t st.h o.dst o.op = some { v := v } := by
              rw [hop]
              simp only [act, hxs]
              cases p with
              | true =>
                have : opnd st.t a = opnd sh.t a := by
                  rcases p2 with p2 | p2
                  · exact m.slot hc p2
                  · refine m.slot (c := (s, true) :: chOf ch s) ?_ p2
                    simp only [condOf, hcs, Bool.true_and]
                    have : sget sh.t s = .bool true := hx
                    rw [this]; rfl
                rw [hv1 rfl, ← this]; rfl
              | false =>
                have : opnd st.t b = opnd sh.t b := by
                  rcases p3 with p3 | p3
                  · exact m.slot hc p3
                  · refine m.slot (c := (s, false) :: chOf ch s) ?_ p3
                    simp only [condOf, hcs, Bool.true_and]
                    have : sget sh.t s = .bool false := hx
                    rw [this]; rfl
                rw [hv2 rfl, ← this]; rfl
            exact go_act hw hact (by simp [phiOK]) rfl (vcM_ok H (m.put hd v v (fun _ => rfl) (fun e => by rw [hc] at e; cases e)) hfin)
      · rename_i hnp
        rw [condP_eq] at h
        split at h
        · rename_i p hq
          obtain ⟨hs, h⟩ := obB_ok h
          obtain ⟨v, hv, h⟩ := quietP_ok hq h
          rw [forceN_eq, putK_eq] at h
          cases hc : condOf sh.t c with
          | false =>
            rw [hc] at hw
            exact go_pass hw rfl (vcM_ok H (m.put hd v (.tup []) (fun e => by rw [hc] at e; cases e) (fun _ => rfl)) h)
          | true =>
            rw [hc] at hw
            have hact : act C f st.t st.h o.dst o.op = some { v := v } := by
              rw [act_frame (t := sh.t) (h := sh.h) (fun x hx => m.slot hc (slot_opSlots hs x hx)) fun _ _ b _ => by rw [m.h]]
              exact hv (by cases c with | nil => trivial | cons _ _ => exact hc)
            exact go_act hw hact (by simp [phiOK]) rfl (vcM_ok H (m.put hd v v (fun _ => rfl) (fun e => by rw [hc] at e; cases e)) h)
        · split at h
          · obtain ⟨hs, h⟩ := obB_ok h
            refine vcDo_at H (st := sh) (st2 := st) (fun x hx => m.slot (c := []) rfl (slot_opSlots hs x hx)) m.h (by rw [hw]; rfl) (fun out ho => ?_) h
            rw [forceOut_eq, applyK_eq] at ho
            exact vcM_ok H (m.apply hd out) ho
          · exact h.elim

theorem vc_ok (H : EnvOK C Pr Ow E) : ∀ {c : Code} {bid : Nat} {st : St} {K : Ex → St → Prop}, LoopsOK C Pr Ow E f nt (loops bid c) → CutsOK C Pr Ow E f nt (rests c) → vc C E f nt bid c st K → GoX C Pr Ow f nt c st K := by
  intro c
  induction c with
  | skip => intro bid st K hL hC h; exact go_skip h
  | label l => intro bid st K hL hC h; exact go_label h
  | region id ops draw =>
    intro bid st K hL hC h
    simp only [vc] at h
    split at h
    · have := vcOps_ok H h
      cases draw with
      | false => exact go_region this
      | true =>
        refine go_draw ?_
        obtain ⟨outs, st', a, b⟩ := this
        exact ⟨outs, st', a, drawS_ok (obB_ok b).1, (obB_ok b).2⟩
    · rename_i hm
      cases draw with
      | true => simp at hm
      | false =>
        refine go_weakEnd (go_region ?_)
        exact vcM_ok (k := fun st2 => K .normal st2) H ⟨rfl, rfl, fun _ _ => rfl, fun i hi => by simp [chOf, look, condOf] at hi⟩ h
  | seq x y ihx ihy =>
    intro bid st K hL hC h
    simp only [vc] at h
    split at h
    · rename_i sp hcut
      cases x with
      | region id o d => exact hC id _ sp (by simp [rests]) hcut st K h
      | _ => simp [cutAt] at hcut
    have h1 := ihx (fun b c sp hm => hL b c sp (by simp only [loops]; exact List.mem_append_left _ hm)) (fun b c sp hm => hC b c sp (by simp only [rests]; exact List.mem_append_right _ (List.mem_append_left _ hm))) h
    refine go_seq (h1.mono fun e st' hq => ?_)
    cases e with
    | normal => exact ihy (fun b c sp hm => hL b c sp (by simp only [loops]; exact List.mem_append_right _ hm)) (fun b c sp hm => hC b c sp (by simp only [rests]; exact List.mem_append_right _ (List.mem_append_right _ hm))) hq
    | exit id => exact hq
    | goto l => exact hq
    | ret => exact hq
  | cond c x y ihx ihy =>
    intro bid st K hL hC h
    simp only [vc] at h
    split at h
    · rename_i b hb
      rcases brB_ok h with ⟨h1, h2⟩ | ⟨h1, h2⟩
      · subst h1
        exact go_condT hb (ihx (fun b c sp hm => hL b c sp (by simp only [loops]; exact List.mem_append_left _ hm)) (fun b c sp hm => hC b c sp (by simp only [rests]; exact List.mem_append_left _ hm)) h2)
      · subst h1
        exact go_condF hb (ihy (fun b c sp hm => hL b c sp (by simp only [loops]; exact List.mem_append_right _ hm)) (fun b c sp hm => hC b c sp (by simp only [rests]; exact List.mem_append_right _ hm)) h2)
    · exact h.elim
  | block id c ih =>
    intro bid st K hL hC h
    exact go_block (ih hL hC h)
  | loop c ih =>
    intro bid st K hL hC h
    simp only [vc] at h
    split at h
    · rename_i sp hl
      exact go_loop (hL bid c sp (by simp [loops]) hl st K h)
    · exact h.elim
  | exit id => intro bid st K hL hC h; exact go_exit h
  | goto l => intro bid st K hL hC h; exact go_goto h
  | ret => intro bid st K hL hC h; exact go_ret h
  | scope c ih =>
    intro bid st K hL hC h
    refine go_scope ((ih hL hC h).mono fun e st' hq => ?_)
    cases e with
    | normal => exact hq
    | exit id => exact hq
    | ret => exact hq
    | goto l =>
      simp only [Ex.scopedX] at hq ⊢
      split at hq
      · exact hq.elim
      · exact hq
  | rangeFunc => intro bid st K hL hC h; exact h.elim
  | refuse => intro bid st K hL hC h; exact h.elim
end
end Go.Det
end

section
set_option linter.unusedVariables false
set_option linter.unusedSimpArgs false
namespace Go.Det

/-! Runs with nothing unknown: worked out. -/
def deepN {α : Sort _} (n : Nat) (k : Nat → α) : α := match n with
  | 0 => k 0
  | m + 1 => k (m + 1)
theorem deepN_eq {α : Sort _} (n : Nat) (k : Nat → α) : deepN n k = k n := by cases n <;> rfl
def deepI {α : Sort _} (n : Int) (k : Int → α) : α := match n with
  | .ofNat m => deepN m fun m => k (.ofNat m)
  | .negSucc m => deepN m fun m => k (.negSucc m)
theorem deepI_eq {α : Sort _} (n : Int) (k : Int → α) : deepI n k = k n := by cases n <;> simp [deepI, deepN_eq]
def deepL {α : Sort _} {β : Type _} : List β → (List β → α) → α
  | [], k => k []
  | c :: l, k => deepL l fun l' => k (c :: l')
theorem deepL_eq {α : Sort _} {β : Type _} : ∀ (l : List β) (k : List β → α), deepL l k = k l
  | [], _ => rfl
  | v :: l, k => by simp only [deepL, deepL_eq l]
def deep0 {α : Sort _} (v : DV) (k : DV → α) : α := match v with
  | .int q n => deepI n fun n => k (.int q n)
  | .bool true => k (.bool true)
  | .bool false => k (.bool false)
  | .str s => deepL s fun s => k (.str s)
  | .rsl b n o l => deepN o fun o => deepN l fun l => k (.rsl b n o l)
  | .ptr b n i o => deepN i fun i => deepN o fun o => k (.ptr b n i o)
  | .eptr n es i o => deepN i fun i => deepN o fun o => k (.eptr n es i o)
  | v => k v
theorem deep0_eq {α : Sort _} (v : DV) (k : DV → α) : deep0 v k = k v := by
  cases v with
  | bool b => cases b <;> rfl
  | int q n => simp [deep0, deepI_eq]
  | str s => simp [deep0, deepL_eq]
  | rsl => simp [deep0, deepN_eq]
  | ptr => simp [deep0, deepN_eq]
  | eptr => simp [deep0, deepN_eq]
  | _ => rfl
def deepT {α : Sort _} : List DV → (List DV → α) → α
  | [], k => k []
  | v :: l, k => deep0 v fun v' => deepT l fun l' => k (v' :: l')
theorem deepT_eq {α : Sort _} : ∀ (l : List DV) (k : List DV → α), deepT l k = k l
  | [], _ => rfl
  | v :: l, k => by simp only [deepT, deep0_eq, deepT_eq l]
def deep1 {α : Sort _} (v : DV) (k : DV → α) : α := match v with
  | .agg cs => deepT cs fun cs => k (.agg cs)
  | .tup cs => deepT cs fun cs => k (.tup cs)
  | .psl n cs => deepT cs fun cs => k (.psl n cs)
  | v => deep0 v k
theorem deep1_eq {α : Sort _} (v : DV) (k : DV → α) : deep1 v k = k v := by
  cases v with
  | agg => simp [deep1, deepT_eq]
  | tup => simp [deep1, deepT_eq]
  | psl => simp [deep1, deepT_eq]
  | _ => simp only [deep1]; exact deep0_eq _ _
def deepO {α : Sort _} (v : Option Blk) (k : Option Blk → α) : α :=
  match v with
  | none => k none
  | some (.box cs) => deepT cs fun cs' => k (some (.box cs'))
  | some (.row n es) => deepT es fun es => k (some (.row n es))
  | some (.iter s p) => deepN p fun p => k (some (.iter s p))
theorem deepO_eq {α : Sort _} (v : Option Blk) (k : Option Blk → α) : deepO v k = k v := by
  cases v with
  | none => rfl
  | some b => cases b <;> simp [deepO, deepT_eq, deepN_eq]
def deepD {α : Sort _} : List (Nat × Option Blk) → (List (Nat × Option Blk) → α) → α
  | [], k => k []
  | (b, v) :: l, k => deepO v fun v' => deepD l fun l' => k ((b, v') :: l')
theorem deepD_eq {α : Sort _} : ∀ (l : List (Nat × Option Blk)) (k : List (Nat × Option Blk) → α), deepD l k = k l
  | [], _ => rfl
  | (b, v) :: l, k => by simp only [deepD, deepO_eq, deepD_eq l]
def deepOut {α : Sort _} (o : Out) (k : Out → α) : α := match o with
  | ⟨v, δ, φ⟩ => deep1 v fun v => deepD δ fun δ => k ⟨v, δ, φ⟩
theorem deepOut_eq {α : Sort _} (o : Out) (k : Out → α) : deepOut o k = k o := by cases o; simp [deepOut, deep1_eq, deepD_eq]

section
variable (C : Cfg) (call : CallF) (f nt : Nat)
def outX (st : St) (o : Oper) : Option Out :=
  match o.op with
  | .call ⟨.value x, as1, _⟩ =>
    match calleeOf (opnd st.t x) with
    | some (g, first, cap) =>
      match callIn C st.h g (first ++ as1.toList.map (opnd st.t) ++ cap) with
      | some (xs', ex) => match call g xs' ex with
        | some (r, ex') => if C.own g = true ∧ C.scal g = true then none else callOut C st.h o.dst g (first ++ as1.toList.map (opnd st.t) ++ cap) r ex'
        | none => none
      | none => none
    | none => none
  | op => act C f st.t st.h o.dst op

def opsX (os : List Oper) : List Oper → St → Option (List Out × St)
  | [], st => some ([], st)
  | o :: l, st =>
    match wants os st.t o with
    | some true => match outX C call f st o with
      | some out => match phiOK nt out with
        | true => deepOut out fun out => forceS (apply st o.dst out) fun st' => match opsX os l st' with
          | some (outs, st2) => some (out :: outs, st2)
          | none => none
        | false => none
      | none => none
    | some false => forceS (apply st o.dst { v := .tup [] }) fun st' => match opsX os l st' with
      | some (outs, st2) => some ({ v := .tup [] } :: outs, st2)
      | none => none
    | none => none

def codeX : Nat → Code → St → Option (Ex × St)
  | 0, _, _ => none
  | k + 1, c, st =>
    match c with
    | .skip => some (.normal, st)
    | .label _ => some (.normal, st)
    | .region _ ops draw => match opsX C call f nt ops.toList ops.toList st with
      | some (outs, st') => match draw with
        | true => (match drawOK ops.toList st outs with
          | true => some (.normal, st')
          | false => none)
        | false => some (.normal, st')
      | none => none
    | .seq a b => match codeX k a st with
      | some (.normal, st') => codeX k b st'
      | r => r
    | .cond c a b => match opnd st.t c with
      | .bool true => codeX k a st
      | .bool false => codeX k b st
      | _ => none
    | .block id c => match codeX k c st with
      | some (e, st') => some (e.inBlock id, st')
      | none => none
    | .loop c => match codeX k c st with
      | some (.normal, st') => codeX k (.loop c) st'
      | r => r
    | .exit id => some (.exit id, st)
    | .goto l => some (.goto l, st)
    | .ret => some (.ret, st)
    | _ => none
end

def callX (C : Cfg) (N : Nat) : Nat → CallF
  | 0, _, _, _ => none
  | d + 1, g, xs, ex =>
    match C.prim g with
    | some p => match ex with
      | [] => (match p xs with
        | some r => some (r, [])
        | none => none)
      | _ => none
    | none => match C.own g with
      | true => none
      | false => match C.F g with
        | some fi => match codeX C (callX C N d) g fi.nt N fi.code (enterD fi xs ex) with
          | some (e, st) => match e.ends, resL C st fi.res with
            | true, some vs => match sealL st.h vs, sealBs st.h (st.h.drop fi.nt) with
              | some vs', some ex' => if ex'.length = ex.length ∧ ex'.all Blk.isBox = true then some (one vs', ex') else none
              | _, _ => none
            | _, _ => none
          | none => none
        | none => none

section
variable {C : Cfg} {Pr Ow : Nat → List DV → DV → Prop} {call : CallF} {f nt : Nat}

def CallsOK (C : Cfg) (Pr Ow : Nat → List DV → DV → Prop) (call : CallF) : Prop :=
  ∀ g xs ex r ex', call g xs ex = some (r, ex') → (C.own g = false → Run C Pr Ow (.call g xs ex r ex')) ∧ (C.own g = true → ex' = [] ∧ Ow g xs r)

theorem opsX_run (hc : CallsOK C Pr Ow call) {os : List Oper} : ∀ {l : List Oper} {st : St} {outs : List Out} {st' : St}, opsX C call f nt os l st = some (outs, st') → Run C Pr Ow (.ops f nt os l st outs st')
  | [], st, outs, st', h => by
    simp only [opsX, Option.some.injEq, Prod.mk.injEq] at h
    obtain ⟨rfl, rfl⟩ := h
    exact .nil
  | o :: l, st, outs, st', h => by
    simp only [opsX, deepOut_eq, forceS_eq] at h
    split at h
    · rename_i hw
      split at h
      · rename_i out ho
        split at h
        · rename_i hφ
          split at h
          · rename_i outs' st2 hr
            simp only [Option.some.injEq, Prod.mk.injEq] at h
            obtain ⟨rfl, rfl⟩ := h
            have ih := opsX_run hc hr
            unfold outX at ho
            split at ho
            · rename_i x as1 ts hop
              split at ho
              · rename_i g first cap hx
                split at ho
                · rename_i xs' ex e1
                  split at ho
                  · rename_i r ex' hcall
                    split at ho
                    · simp at ho
                    · rename_i hos
                      obtain ⟨c1, c2⟩ := hc _ _ _ _ _ hcall
                      cases hown : C.own g with
                      | false => exact .callF hw hop hx e1 hown (c1 hown) ho hφ ih
                      | true =>
                        obtain ⟨rfl, hO⟩ := c2 hown
                        have hsc : C.scal g = false := by
                          cases hs : C.scal g with
                          | false => rfl
                          | true => exact absurd ⟨hown, hs⟩ hos
                        exact .callOwn hw hop hx e1 hown hsc hO ho hφ ih
                  · simp at ho
                · simp at ho
              · simp at ho
            · exact .act hw ho hφ ih
          · simp at h
        · simp at h
      · simp at h
    · rename_i hw
      split at h
      · rename_i outs' st2 hr
        simp only [Option.some.injEq, Prod.mk.injEq] at h
        obtain ⟨rfl, rfl⟩ := h
        exact .pass hw (opsX_run hc hr)
      · simp at h
    · simp at h

theorem codeX_run (hc : CallsOK C Pr Ow call) : ∀ {k : Nat} {c : Code} {st : St} {e : Ex} {st' : St}, codeX C call f nt k c st = some (e, st') →
    Run C Pr Ow (.code f nt c st e st') ∧ ∀ c', c = .loop c' → Run C Pr Ow (.loop f nt c' st e st')
  | 0, c, st, e, st', h => by simp [codeX] at h
  | k + 1, c, st, e, st', h => by
    unfold codeX at h
    split at h
    · simp only [Option.some.injEq, Prod.mk.injEq] at h
      obtain ⟨rfl, rfl⟩ := h
      exact ⟨.skip, fun c' hc' => by cases hc'⟩
    · simp only [Option.some.injEq, Prod.mk.injEq] at h
      obtain ⟨rfl, rfl⟩ := h
      exact ⟨.label, fun c' hc' => by cases hc'⟩
    · rename_i id ops draw
      refine ⟨?_, fun c' hc' => by cases hc'⟩
      split at h
      · rename_i outs st2 hr
        split at h
        · split at h
          · rename_i hd
            simp only [Option.some.injEq, Prod.mk.injEq] at h
            obtain ⟨rfl, rfl⟩ := h
            exact .draw (opsX_run hc hr) hd
          · simp at h
        · simp only [Option.some.injEq, Prod.mk.injEq] at h
          obtain ⟨rfl, rfl⟩ := h
          exact .region (opsX_run hc hr)
      · simp at h
    · rename_i a b
      refine ⟨?_, fun c' hc' => by cases hc'⟩
      split at h
      · rename_i st2 h1
        exact .seq (codeX_run hc h1).1 (codeX_run hc h).1
      · rename_i hne
        refine .seqOut (codeX_run hc h).1 ?_
        cases e with
        | normal => exact absurd h (hne _)
        | _ => rfl
    · rename_i c1 a b
      refine ⟨?_, fun c' hc' => by cases hc'⟩
      split at h
      · rename_i hb; exact .condT hb (codeX_run hc h).1
      · rename_i hb; exact .condF hb (codeX_run hc h).1
      · simp at h
    · rename_i id c1
      refine ⟨?_, fun c' hc' => by cases hc'⟩
      split at h
      · rename_i e1 st1 h1
        simp only [Option.some.injEq, Prod.mk.injEq] at h
        obtain ⟨rfl, rfl⟩ := h
        exact .block (codeX_run hc h1).1
      · simp at h
    · rename_i c1
      have hl : Run C Pr Ow (.loop f nt c1 st e st') := by
        split at h
        · rename_i st2 h1
          exact .loopMore (codeX_run hc h1).1 ((codeX_run hc h).2 _ rfl)
        · rename_i hne
          refine .loopOut (codeX_run hc h).1 ?_
          cases e with
          | normal => exact absurd h (hne _)
          | _ => rfl
      exact ⟨.loop hl, fun c' hc' => by cases hc'; exact hl⟩
    · simp only [Option.some.injEq, Prod.mk.injEq] at h
      obtain ⟨rfl, rfl⟩ := h
      exact ⟨.exit, fun c' hc' => by cases hc'⟩
    · simp only [Option.some.injEq, Prod.mk.injEq] at h
      obtain ⟨rfl, rfl⟩ := h
      exact ⟨.goto, fun c' hc' => by cases hc'⟩
    · simp only [Option.some.injEq, Prod.mk.injEq] at h
      obtain ⟨rfl, rfl⟩ := h
      exact ⟨.ret, fun c' hc' => by cases hc'⟩
    · simp at h

def PrimsOK (C : Cfg) (Pr Ow : Nat → List DV → DV → Prop) : Prop := ∀ g p xs r, C.prim g = some p → p xs = some r → (C.own g = false → Pr g xs r) ∧ (C.own g = true → Ow g xs r)

theorem callX_run (hp : PrimsOK C Pr Ow) {N : Nat} : ∀ {d : Nat}, CallsOK C Pr Ow (callX C N d)
  | 0 => fun g xs ex r ex' h => by simp [callX] at h
  | d + 1 => fun g xs ex r ex' h => by
    unfold callX at h
    split at h
    · rename_i p hpr
      split at h
      · split at h
        · rename_i r' hr
          simp only [Option.some.injEq, Prod.mk.injEq] at h
          obtain ⟨rfl, rfl⟩ := h
          have := hp g p xs _ hpr hr
          exact ⟨fun ho => .prim (this.1 ho), fun ho => ⟨rfl, this.2 ho⟩⟩
        · simp at h
      · simp at h
    · split at h
      · simp at h
      · rename_i hown
        refine ⟨fun _ => ?_, fun ho => by rw [hown] at ho; cases ho⟩
        split at h
        · rename_i fi hf
          split at h
          · rename_i e st h1
            split at h
            · rename_i vs he hvs
              split at h
              · rename_i vs' ex2 h2 h3
                split at h
                · rename_i h4
                  simp only [Option.some.injEq, Prod.mk.injEq] at h
                  obtain ⟨rfl, rfl⟩ := h
                  exact .body hf (codeX_run (callX_run hp) h1).1 he hvs h2 h3 h4.1 h4.2
                · simp at h
              · simp at h
            · simp at h
          · simp at h
        · simp at h
    termination_by d => d
end
end Go.Det
end

section
set_option linter.unusedVariables false
set_option linter.unusedSimpArgs false
namespace Go.Det

/-- A function's own conditions. -/
def endsP (C : Cfg) (fi : Fi) (ex : List Blk) (Φ : DV → List Blk → Prop) (e : Ex) (st : St) : Prop :=
  obB e.ends (onS (resL C st fi.res) fun vs => sealLP st.h vs fun vs' => sealBsP st.h (st.h.drop fi.nt) fun ex' =>
    obB (Nat.beq ex'.length ex.length) (obB (ex'.all Blk.isBox) (Φ (one vs') ex')))
def vcF (C : Cfg) (E : Env) (g : Nat) (xs : List DV) (ex : List Blk) (Φ : DV → List Blk → Prop) : Prop :=
  match C.F g with
  | some fi => vc C E g fi.nt 0 fi.code (enterD fi xs ex) (endsP C fi ex Φ)
  | none => False
def codeOf (C : Cfg) (g : Nat) : Code := match C.F g with
  | some fi => fi.code
  | none => .skip
def ntOf (C : Cfg) (g : Nat) : Nat := match C.F g with
  | some fi => fi.nt
  | none => 0
/-- The loop in a block. -/
def bodyOf (C : Cfg) (g b : Nat) : Code := match look b (loops 0 (codeOf C g)) with
  | some c => c
  | none => .skip
def nodupK : List (Nat × Code) → Bool
  | [] => true
  | p :: l => (look p.1 l).isNone && nodupK l

/-- The end of a round. -/
def bodyK (L : St → Prop) (ks bs ks2 bs2 : List Nat) (nt : Nat) (K : Ex → St → Prop) (e : Ex) (st : St) : Prop :=
  match e with
  | .normal => L (keepT ks bs nt st)
  | e => K e (keepT ks2 bs2 nt st)
def loopS (ks bs : List Nat) (nt : Nat) (L : St → Prop) (F : (Ex → St → Prop) → Prop) : LSpec := fun st k => L (keepT ks bs nt st) ∧ F k
/-- A round, from a head. -/
def vcB (C : Cfg) (E : Env) (g b : Nat) (st : St) (K : Ex → St → Prop) : Prop := vc C E g (ntOf C g) b (bodyOf C g b) st K
/-- A call whose answer is known. -/
def callS (xs0 : List DV) (r : DV) : Spec := fun xs ex k => match ex with
  | [] => xs = xs0 ∧ k r []
  | _ :: _ => False
/-- The code from a region on. -/
def restOf (C : Cfg) (g b : Nat) : Code := match look b (rests (codeOf C g)) with
  | some c => c
  | none => .skip
def vcR (C : Cfg) (E : Env) (g b : Nat) (st : St) (K : Ex → St → Prop) : Prop := vc C E g (ntOf C g) 0 (restOf C g b) st K
/-- The end of a rest, seen by its own slots. -/
def restK (ks bs : List Nat) (nt : Nat) (K : Ex → St → Prop) (e : Ex) (st : St) : Prop := K e (keepT ks bs nt st)
/-- A loop in a loop. -/
def innerOf (C : Cfg) (g b1 b : Nat) : Code := match look b (loops b1 (bodyOf C g b1)) with
  | some c => c
  | none => .skip
def vcI (C : Cfg) (E : Env) (g b1 b : Nat) (st : St) (K : Ex → St → Prop) : Prop := vc C E g (ntOf C g) b (innerOf C g b1 b) st K
/-- A cut: what comes behind goes by the state. -/
def cutS (ks bs : List Nat) (nt : Nat) (L : St → Prop) (F : St → (Ex → St → Prop) → Prop) : LSpec := fun st k => L (keepT ks bs nt st) ∧ F (keepT ks bs nt st) k
/-- A call whose answer is known on a condition. -/
def callG (c : Prop) (xs0 : List DV) (r : DV) : Spec := fun xs ex k => match ex with
  | [] => c ∧ xs = xs0 ∧ k r []
  | _ :: _ => False

section
variable {C : Cfg} {Pr Ow : Nat → List DV → DV → Prop} {E : Env}
theorem endsP_ok {fi : Fi} {ex : List Blk} {Φ : DV → List Blk → Prop} {e : Ex} {st : St} (h : endsP C fi ex Φ e st) : Leaves C fi ex Φ e st := by
  unfold endsP at h
  obtain ⟨h1, h⟩ := obB_ok h
  obtain ⟨vs, h2, h⟩ := onS_ok h
  obtain ⟨vs', h3, h⟩ := sealLP_ok h
  obtain ⟨ex', h4, h⟩ := sealBsP_ok h
  obtain ⟨h5, h⟩ := obB_ok h
  obtain ⟨h6, h⟩ := obB_ok h
  exact ⟨h1, vs, vs', ex', h2, h3, h4, Nat.eq_of_beq_eq_true h5, h6, h⟩
theorem vcF_ok (H : EnvOK C Pr Ow E) {g : Nat} (hL : LoopsOK C Pr Ow E g (ntOf C g) (loops 0 (codeOf C g))) (hC : CutsOK C Pr Ow E g (ntOf C g) (rests (codeOf C g))) {xs : List DV} {ex : List Blk} {Φ : DV → List Blk → Prop} (h : vcF C E g xs ex Φ) : GoC C Pr Ow g xs ex Φ := by
  unfold vcF at h
  split at h
  · rename_i fi hf
    unfold ntOf codeOf at hL hC
    rw [hf] at hL hC
    exact go_body hf ((vc_ok H hL hC h).mono fun e st hq => endsP_ok hq)
  · exact h.elim
theorem noLoops {E : Env} {f nt : Nat} {L : List (Nat × Code)} (h : E.ls = []) : LoopsOK C Pr Ow E f nt L := by
  intro b c sp _ hl; rw [h] at hl; simp [look] at hl
theorem look_of_nodup : ∀ {l : List (Nat × Code)} {b : Nat} {c : Code}, nodupK l = true → (b, c) ∈ l → look b l = some c
  | [], _, _, _, h => by simp at h
  | (n, x) :: l, b, c, hn, h => by
    simp only [nodupK, Bool.and_eq_true] at hn
    simp only [look]
    rcases List.mem_cons.1 h with h | h
    · cases h
      simp
    · have ih := look_of_nodup hn.2 h
      cases hb : Nat.beq b n with
      | true =>
        have := Nat.eq_of_beq_eq_true hb
        subst this
        rw [ih] at hn; simp at hn
      | false => simpa using ih
theorem loopsOf {E : Env} {g : Nat} (hn : nodupK (loops 0 (codeOf C g)) = true) (h : ∀ b sp, look b E.ls = some sp → ∀ st k, sp st k → GoL C Pr Ow g (ntOf C g) (bodyOf C g b) st k) :
    LoopsOK C Pr Ow E g (ntOf C g) (loops 0 (codeOf C g)) := by
  intro b c sp hm hl st k hs
  have := h b sp hl st k hs
  unfold bodyOf at this
  rwa [look_of_nodup hn hm] at this
theorem loopS_ok {f nt : Nat} {c : Code} {ks bs : List Nat} {L : St → Prop} {F : (Ex → St → Prop) → Prop} (h : ∀ st, L st → ∀ k, F k → GoL C Pr Ow f nt c st k) {st : St} {k : Ex → St → Prop} (hs : loopS ks bs nt L F st k) : GoL C Pr Ow f nt c st k :=
  go_weakL (keepT_weaker ks bs nt st) (h _ hs.1 k hs.2)
theorem round_go (H : EnvOK C Pr Ow E) {f nt b : Nat} {c : Code} (hL : LoopsOK C Pr Ow E f nt (loops b c)) (hcu : E.cu = []) {L : St → Prop} {ks bs ks2 bs2 : List Nat} {K : Ex → St → Prop} {st : St}
    (h : vc C E f nt b c st (bodyK L ks bs ks2 bs2 nt K)) (hn : ∀ st, L st → GoL C Pr Ow f nt c st K) : GoL C Pr Ow f nt c st K := by
  refine go_weakEndL (go_round ((vc_ok H hL (noCuts hcu) h).mono fun e st' hq => ?_))
  have hx : ∀ e, e ≠ .normal → K e (keepT ks2 bs2 nt st') → ∃ st2, Weaker st' st2 ∧ K e st2 := fun e _ hk => ⟨_, keepT_weaker ks2 bs2 nt st', hk⟩
  cases e with
  | normal => exact go_weakL (keepT_weaker ks bs nt st') ((hn _ hq).mono fun e st2 hk => ⟨st2, Weaker.refl _, hk⟩)
  | exit id => exact hx _ (by simp) hq
  | goto id => exact hx _ (by simp) hq
  | ret => exact hx _ (by simp) hq
theorem vcB_go (H : EnvOK C Pr Ow E) {g b : Nat} (hL : LoopsOK C Pr Ow E g (ntOf C g) (loops b (bodyOf C g b))) (hcu : E.cu = []) {L : St → Prop} {ks bs ks2 bs2 : List Nat} {K : Ex → St → Prop} {st : St}
    (h : vcB C E g b st (bodyK L ks bs ks2 bs2 (ntOf C g) K)) (hn : ∀ st, L st → GoL C Pr Ow g (ntOf C g) (bodyOf C g b) st K) : GoL C Pr Ow g (ntOf C g) (bodyOf C g b) st K := round_go H hL hcu h hn

/-- A loop that counts. -/
theorem count_loop {g b nt n : Nat} {E : Nat → Env} {hd : Nat → St} {ks bs ks2 bs2 : List Nat} {K : Ex → St → Prop} (hnt : ntOf C g = nt) (H : ∀ i, i ≤ n → EnvOK C Pr Ow (E i)) (hE : ∀ i, (E i).ls = [] ∧ (E i).cu = [])
    (step : ∀ i, i ≤ n → ∀ L : St → Prop, (i < n → L (hd (i + 1))) → vcB C (E i) g b (hd i) (bodyK L ks bs ks2 bs2 nt K)) : ∀ i, i ≤ n → GoL C Pr Ow g nt (bodyOf C g b) (hd i) K := by
  have key : ∀ d i, i + d = n → GoL C Pr Ow g nt (bodyOf C g b) (hd i) K := by
    subst hnt
    intro d
    induction d with
    | zero =>
      intro i hi
      exact round_go (H i (by omega)) (noLoops (hE i).1) (hE i).2 (step i (by omega) (fun _ => False) (fun h => by omega)) (fun _ h => h.elim)
    | succ d ih =>
      intro i hi
      refine round_go (H i (by omega)) (noLoops (hE i).1) (hE i).2 (step i (by omega) (fun st => st = hd (i + 1)) (fun _ => rfl)) ?_
      rintro _ rfl
      exact ih (i + 1) (by omega)
  intro i hi
  exact key (n - i) i (by omega)
theorem obB_iff {b : Bool} {k : Prop} : obB b k ↔ b = true ∧ k := ⟨obB_ok, fun h => obB_of h.1 h.2⟩
theorem brB_iff {b : Bool} {x y : Prop} : brB b x y ↔ (b = true → x) ∧ (b = false → y) := by
  cases b <;> simp [brB]
theorem inR64 {n : Int} (h : -9223372036854775808 ≤ n ∧ n ≤ 9223372036854775807) : inR .i64 n = true := by
  unfold inR; rw [Go.IntWalk.i64_in n h]; exact beq_self_eq_true n
theorem roomy_of {b n : Nat} (h1 : n ≤ 4294967296) (h2 : b * n ≤ 4294967296) : roomy b n = true := by
  unfold roomy; simp [h1, h2]
/-- A round whose slots are counted. -/
theorem round_of (H : EnvOK C Pr Ow E) {g b nt : Nat} (hnt : ntOf C g = nt) (hL : E.ls = []) {L : St → Prop} {ks bs ks2 bs2 : List Nat} {K : Ex → St → Prop} {st : St}
    (h : vcB C E g b st (bodyK L ks bs ks2 bs2 nt K)) (hn : ∀ st, L st → GoL C Pr Ow g nt (bodyOf C g b) st K) (hcu : E.cu = [] := by rfl) : GoL C Pr Ow g nt (bodyOf C g b) st K := by
  subst hnt; exact round_go H (noLoops hL) hcu h hn
theorem fn_of (H : EnvOK C Pr Ow E) {g nt : Nat} (hnt : ntOf C g = nt) (hk : nodupK (loops 0 (codeOf C g)) = true) (hL : ∀ b sp, look b E.ls = some sp → ∀ st k, sp st k → GoL C Pr Ow g nt (bodyOf C g b) st k)
    {xs : List DV} {ex : List Blk} {Φ : DV → List Blk → Prop} (h : vcF C E g xs ex Φ) (hcu : E.cu = [] := by rfl) : GoC C Pr Ow g xs ex Φ := by
  subst hnt; exact vcF_ok H (loopsOf hk hL) (noCuts hcu) h
theorem fn_of0 (H : EnvOK C Pr Ow E) {g : Nat} (hL : E.ls = []) {xs : List DV} {ex : List Blk} {Φ : DV → List Blk → Prop} (h : vcF C E g xs ex Φ) (hcu : E.cu = [] := by rfl) : GoC C Pr Ow g xs ex Φ := vcF_ok H (noLoops hL) (noCuts hcu) h

def AllOK (C : Cfg) (Pr Ow : Nat → List DV → DV → Prop) : List (Nat × Spec) → Prop
  | [] => True
  | p :: l => SpecOK C Pr Ow p.1 p.2 ∧ AllOK C Pr Ow l
theorem AllOK.mem : ∀ {l : List (Nat × Spec)} {p : Nat × Spec}, AllOK C Pr Ow l → p ∈ l → SpecOK C Pr Ow p.1 p.2
  | [], _, _, h => by simp at h
  | q :: l, p, ha, h => by
    rcases List.mem_cons.1 h with rfl | h
    · exact ha.1
    · exact ha.2.mem h
def SitesOK (C : Cfg) (Pr Ow : Nat → List DV → DV → Prop) : List (Nat × Nat × Spec) → Prop
  | [] => True
  | p :: l => SpecOK C Pr Ow p.2.1 p.2.2 ∧ SitesOK C Pr Ow l
theorem SitesOK.mem : ∀ {l : List (Nat × Nat × Spec)} {p : Nat × Nat × Spec}, SitesOK C Pr Ow l → p ∈ l → SpecOK C Pr Ow p.2.1 p.2.2
  | [], _, _, h => by simp at h
  | q :: l, p, ha, h => by
    rcases List.mem_cons.1 h with rfl | h
    · exact ha.1
    · exact ha.2.mem h
def OwnsOK (C : Cfg) (Ow : Nat → List DV → DV → Prop) : List (Nat × OSpec) → Prop
  | [] => True
  | p :: l => OSpecOK C Ow p.1 p.2 ∧ OwnsOK C Ow l
theorem OwnsOK.mem : ∀ {l : List (Nat × OSpec)} {p : Nat × OSpec}, OwnsOK C Ow l → p ∈ l → OSpecOK C Ow p.1 p.2
  | [], _, h => by
    intro h2; simp at h2
  | q :: l, p, ha => by
    intro h
    rcases List.mem_cons.1 h with rfl | h
    · exact ha.1
    · exact ha.2.mem h
theorem envOK {E : Env} (h1 : AllOK C Pr Ow E.cs) (h2 : SitesOK C Pr Ow E.ss) (h3 : OwnsOK C Ow E.ow) : EnvOK C Pr Ow E :=
  ⟨fun _ _ h => h1.mem (look_mem h), fun _ _ _ h => h2.mem (look_mem h), fun _ _ h => h3.mem (look_mem h)⟩
theorem callS_ok {g : Nat} {xs : List DV} {r : DV} (h : ∀ Φ : DV → List Blk → Prop, Φ r [] → GoC C Pr Ow g xs [] Φ) : SpecOK C Pr Ow g (callS xs r) := by
  intro xs' ex k hk
  cases ex with
  | nil =>
    obtain ⟨rfl, hk⟩ := hk
    exact h k hk
  | cons _ _ => exact hk.elim
theorem callG_ok {g : Nat} {c : Prop} {xs : List DV} {r : DV} (h : c → ∀ Φ : DV → List Blk → Prop, Φ r [] → GoC C Pr Ow g xs [] Φ) : SpecOK C Pr Ow g (callG c xs r) := by
  intro xs' ex k hk
  cases ex with
  | nil =>
    obtain ⟨hc, rfl, hk⟩ := hk
    exact h hc k hk
  | cons _ _ => exact hk.elim
theorem cutsOf {g : Nat} (hn : nodupK (rests (codeOf C g)) = true) (h : ∀ b sp, look b E.cu = some sp → ∀ st k, sp st k → GoX C Pr Ow g (ntOf C g) (restOf C g b) st k) :
    CutsOK C Pr Ow E g (ntOf C g) (rests (codeOf C g)) := by
  intro b c sp hm hl st k hs
  have := h b sp hl st k hs
  unfold restOf at this
  rwa [look_of_nodup hn hm] at this
/-- A function whose way is cut. -/
theorem fn_cut (H : EnvOK C Pr Ow E) {g nt : Nat} (hnt : ntOf C g = nt) (hL : E.ls = []) (hn : nodupK (rests (codeOf C g)) = true)
    (hC : ∀ b sp, look b E.cu = some sp → ∀ st k, sp st k → GoX C Pr Ow g nt (restOf C g b) st k)
    {xs : List DV} {ex : List Blk} {Φ : DV → List Blk → Prop} (h : vcF C E g xs ex Φ) : GoC C Pr Ow g xs ex Φ := by
  subst hnt; exact vcF_ok H (noLoops hL) (cutsOf hn hC) h
theorem rest_go (H : EnvOK C Pr Ow E) {g b nt : Nat} (hnt : ntOf C g = nt) (hL : LoopsOK C Pr Ow E g nt (loops 0 (restOf C g b))) (hC : CutsOK C Pr Ow E g nt (rests (restOf C g b))) {ks bs : List Nat} {K : Ex → St → Prop} {st : St}
    (h : vcR C E g b st (restK ks bs nt K)) : GoX C Pr Ow g nt (restOf C g b) st K := by
  subst hnt
  exact go_weakEnd ((vc_ok H hL hC h).mono fun e st' hq => ⟨_, keepT_weaker ks bs _ st', hq⟩)
/-- A cut: the state is told by its own slots, what comes behind is known. -/
theorem loopS_cut {f nt : Nat} {c : Code} {ks bs : List Nat} {L : St → Prop} {F : (Ex → St → Prop) → Prop} (h : ∀ st, L st → ∀ k, F k → GoX C Pr Ow f nt c st k) {st : St} {k : Ex → St → Prop} (hs : loopS ks bs nt L F st k) : GoX C Pr Ow f nt c st k :=
  go_weak (keepT_weaker ks bs nt st) (h _ hs.1 k hs.2)
theorem cutS_ok {f nt : Nat} {c : Code} {ks bs : List Nat} {L : St → Prop} {F : St → (Ex → St → Prop) → Prop} (h : ∀ st, L st → ∀ k, F st k → GoX C Pr Ow f nt c st k) {st : St} {k : Ex → St → Prop} (hs : cutS ks bs nt L F st k) : GoX C Pr Ow f nt c st k :=
  go_weak (keepT_weaker ks bs nt st) (h _ hs.1 k hs.2)
/-- A cut's own code, without loops and cuts. -/
theorem rest_go0 (H : EnvOK C Pr Ow E) {g b nt : Nat} (hnt : ntOf C g = nt) (hL : E.ls = []) (hC : E.cu = []) {ks bs : List Nat} {K : Ex → St → Prop} {st : St}
    (h : vcR C E g b st (restK ks bs nt K)) : GoX C Pr Ow g nt (restOf C g b) st K := rest_go H hnt (noLoops hL) (noCuts hC) h
/-- A loop that counts, and changes something. -/
theorem param_loop {α : Type _} {g b nt n : Nat} {E : α → Nat → Env} {hd : α → Nat → St} {Inv : α → Nat → Prop} {ks bs ks2 bs2 : List Nat} {K : Ex → St → Prop} (hnt : ntOf C g = nt) (H : ∀ p i, i ≤ n → Inv p i → EnvOK C Pr Ow (E p i)) (hE : ∀ p i, (E p i).ls = [] ∧ (E p i).cu = [])
    (step : ∀ p i, i ≤ n → Inv p i → ∀ L : St → Prop, (∀ p', i < n → Inv p' (i + 1) → L (hd p' (i + 1))) → vcB C (E p i) g b (hd p i) (bodyK L ks bs ks2 bs2 nt K)) : ∀ p i, i ≤ n → Inv p i → GoL C Pr Ow g nt (bodyOf C g b) (hd p i) K := by
  have key : ∀ d i, i + d = n → ∀ p, Inv p i → GoL C Pr Ow g nt (bodyOf C g b) (hd p i) K := by
    subst hnt
    intro d
    induction d with
    | zero =>
      intro i hi p hp
      exact round_go (H p i (by omega) hp) (noLoops (hE p i).1) (hE p i).2 (step p i (by omega) hp (fun _ => False) (fun _ h => by omega)) (fun _ h => h.elim)
    | succ d ih =>
      intro i hi p hp
      refine round_go (H p i (by omega) hp) (noLoops (hE p i).1) (hE p i).2 (step p i (by omega) hp (fun st => ∃ p', Inv p' (i + 1) ∧ st = hd p' (i + 1)) (fun p' _ h => ⟨p', h, rfl⟩)) ?_
      rintro _ ⟨p', h, rfl⟩
      exact ih (i + 1) (by omega) p' h
  intro p i hi hp
  exact key (n - i) i (by omega) p hp
theorem innerLoops {E : Env} {g nt b1 : Nat} (hnt : ntOf C g = nt) (hn : nodupK (loops b1 (bodyOf C g b1)) = true) (h : ∀ b sp, look b E.ls = some sp → ∀ st k, sp st k → GoL C Pr Ow g nt (innerOf C g b1 b) st k) :
    LoopsOK C Pr Ow E g nt (loops b1 (bodyOf C g b1)) := by
  subst hnt
  intro b c sp hm hl st k hs
  have := h b sp hl st k hs
  unfold innerOf at this
  rwa [look_of_nodup hn hm] at this
theorem round_in (H : EnvOK C Pr Ow E) {g b1 b nt : Nat} (hnt : ntOf C g = nt) (hL : E.ls = []) {L : St → Prop} {ks bs ks2 bs2 : List Nat} {K : Ex → St → Prop} {st : St}
    (h : vcI C E g b1 b st (bodyK L ks bs ks2 bs2 nt K)) (hn : ∀ st, L st → GoL C Pr Ow g nt (innerOf C g b1 b) st K) (hcu : E.cu = [] := by rfl) : GoL C Pr Ow g nt (innerOf C g b1 b) st K := by
  subst hnt; exact round_go H (noLoops hL) hcu h hn
theorem round_out (H : EnvOK C Pr Ow E) {g b nt : Nat} (hnt : ntOf C g = nt) (hL : LoopsOK C Pr Ow E g nt (loops b (bodyOf C g b))) {L : St → Prop} {ks bs ks2 bs2 : List Nat} {K : Ex → St → Prop} {st : St}
    (h : vcB C E g b st (bodyK L ks bs ks2 bs2 nt K)) (hn : ∀ st, L st → GoL C Pr Ow g nt (bodyOf C g b) st K) (hcu : E.cu = [] := by rfl) : GoL C Pr Ow g nt (bodyOf C g b) st K := by
  subst hnt; exact round_go H hL hcu h hn
end
end Go.Det
end

section
set_option linter.unusedVariables false
set_option linter.unusedSimpArgs false
namespace Go.Det

/-! A function whose result is a row of its own. -/
section
variable {P : Program} {C : Cfg} {Pr Ow : Nat → List DV → DV → Prop}

theorem BR.row_rho {ρ ρ' : Rho} {m : Ro} {w : World} {p : Loc} {n : Nat} {es : List DV} (h : BR ρ m w p (.row n es)) : BR ρ' m w p (.row n es) := by
  simp only [BR] at h ⊢
  obtain ⟨c, el, fr, h1, h2, h3, h4, h5, h6, h7⟩ := h
  exact ⟨c, el, fr, h1, h2, h3, h4, h5, h6, VRE.rho es (fun b hb => by rw [h6] at hb; cases hb) h7⟩

theorem own_ok (K0 : CfgOK P C Pr Ow) {g : Nat} {fi : Fi} {xs : List DV} {e : Ex} {st : St} {b n : Nat} {x : DV} {es : List DV} (hf : C.F g = some fi)
    (hrun : Run C Pr Ow (.code g fi.nt fi.code (enterD fi xs []) e st)) (he : e.ends = true) (hr : resL C st fi.res = some [.rsl b n 0 (x :: es).length])
    (hb : hget st.h b = some (.row n (x :: es))) : Callable P g ∧ OwnOK P C g xs (.psl n (x :: es)) := by
  have hsay := Run.sound K0 hrun
  obtain ⟨fn, c1, c2, c3, c4, c5⟩ := K0.fn g fi hf
  refine ⟨⟨fn, c1, by simp [c2], c5⟩, rfl, ?_⟩
  intro ρ m w vals hG hro hx
  have hlen := hx.length
  simp only [Array.length_toList] at hlen
  have r : RelX fi.nt ρ w [] m (enterD fi xs []) { tmps := vals ++ Array.replicate (fn.ntmps - vals.size) undef, defers := [] } w ρ m := by
    have hno : ∀ (b : Nat) (x : Blk), hget (enterD fi xs []).h b = some x → False := by
      intro b x hb
      obtain ⟨j, _, hj⟩ := hget_enter hb
      simp at hj
    refine ⟨⟨?_, Marks.nil _ _, ⟨fun b x hb => (hno b x hb).elim, fun b b' x x' p p' hb _ _ _ _ => (hno b x hb).elim, hro.1, hro.2⟩, Evo.refl _ _, Grows.refl _ _⟩, fun _ _ => rfl⟩
    simp only [enterD, Array.toList_append, Array.toList_replicate, c3, hlen]
    exact hx.append (VRL.undef ρ m _)
  refine calls_of_rel he (fun k x hk => (Array.getElem?_eq_some_iff.1 (hro.2 k x hk).1).1) c1 c2 (hsay ρ w [] m _ w ρ m hG r) ?_
  intro a' w' ρ' m' r'
  have final : ∃ v, (results fn a'.tmps).run P w' = .ok v w' ∧ (∃ v' m', Ending.returned v = .returned v' ∧ RoOK m' w' ∧ Grows w.heap.size m m' ∧ Evo [] w w' ∧
      ∃ p cap, (x :: es).length ≤ cap ∧ p.base + cap * n ≤ p.size ∧ v' = .slice (some ⟨p.blk, p.base, none⟩) (x :: es).length cap ∧ BR ρ m' w' p (.row n (x :: es)) ∧ m' p.blk = none ∧ w.heap.size ≤ p.blk) := by
    obtain ⟨us, hres, u2⟩ := results_ok K0.ty c4 r'.toRel hG hr
    refine ⟨_, hres, ?_⟩
    simp only [VRL] at u2
    obtain ⟨v, rest, hus, hv, rfl⟩ := u2
    subst hus
    simp only [VR] at hv
    obtain ⟨p, cap, hp, hcap, hsz, hv⟩ := hv
    obtain ⟨p', hp', hB, hm, hL, hN⟩ := r'.inv.blk b _ hb
    rw [hp] at hp'; cases hp'
    refine ⟨_, m', rfl, ⟨r'.inv.ro, r'.inv.oth⟩, r'.sub, r'.evo, p, cap, hcap, by simpa using hsz, ?_, hB.row_rho, hm, hN rfl⟩
    simp [hv]
  exact final

def ownP (C : Cfg) (fi : Fi) (R : DV → Option Blk → Prop) (e : Ex) (st : St) : Prop :=
  obB e.ends (onS (resL C st fi.res) fun vs => match vs with
    | [.rsl b n off len] => R (.rsl b n off len) (hget st.h b)
    | _ => False)
def vcO (C : Cfg) (E : Env) (g : Nat) (xs : List DV) (R : DV → Option Blk → Prop) : Prop :=
  match C.F g with
  | some fi => vc C E g fi.nt 0 fi.code (enterD fi xs []) (ownP C fi R)
  | none => False
theorem own_fn (K0 : CfgOK P C Pr Ow) {E : Env} (H : EnvOK C Pr Ow E) {g : Nat} {xs : List DV} {n : Nat} {x : DV} {es : List DV} (hL : E.ls = []) (hC : E.cu = [])
    (h : vcO C E g xs fun v b => (∃ i, v = .rsl i n 0 (x :: es).length) ∧ b = some (.row n (x :: es))) : Callable P g ∧ OwnOK P C g xs (.psl n (x :: es)) := by
  unfold vcO at h
  split at h
  · rename_i fi hf
    obtain ⟨e, st, a, hq⟩ := vc_ok H (noLoops hL) (noCuts hC) h
    unfold ownP at hq
    obtain ⟨he, hq⟩ := obB_ok hq
    obtain ⟨vs, hr, hq⟩ := onS_ok hq
    split at hq
    · rename_i b n' off len
      obtain ⟨⟨i, hi⟩, hb⟩ := hq
      cases hi
      exact own_ok K0 hf a he hr hb
    · exact hq.elim
  · exact h.elim
end
end Go.Det
end

section
set_option linter.unusedVariables false
namespace Go.Det.Sea
open Go.Det

def tys0 : List (Option Ti) := [
  some ⟨.other, 1, 0, []⟩,
  some ⟨.fn, 1, 8, [.nilfn]⟩,
  some ⟨.int .i64, 1, 8, [.int .i64 0]⟩,
  some ⟨.int .i64, 1, 8, [.int .i64 0]⟩,
  some ⟨.bool, 1, 1, [.bool false]⟩,
  some ⟨.int .u8, 1, 1, [.int .u8 0]⟩,
  some ⟨.int .u8, 1, 1, [.int .u8 0]⟩,
  some ⟨.st [(0, 2), (1, 3), (2, 4), (3, 6)], 4, 24, [.int .i64 0, .int .i64 0, .bool false, .int .u8 0]⟩,
  some ⟨.st [(0, 2), (1, 3), (2, 4), (3, 6)], 4, 24, [.int .i64 0, .int .i64 0, .bool false, .int .u8 0]⟩,
  some ⟨.str, 1, 16, [.str []]⟩,
  some ⟨.str, 1, 16, [.str []]⟩,
  some ⟨.str, 1, 16, [.str []]⟩,
  some ⟨.int .u64, 1, 8, [.int .u64 0]⟩,
  none,
  none,
  some ⟨.ptr 288, 1, 8, [.nilptr]⟩,
  some ⟨.ptr 291, 1, 8, [.nilptr]⟩,
  some ⟨.ptr 298, 1, 8, [.nilptr]⟩,
  none,
  none,
  some ⟨.ifc, 1, 16, [.niliface]⟩,
  some ⟨.int .i32, 1, 4, [.int .i32 0]⟩,
  some ⟨.st [(0, 2), (1, 3)], 2, 16, [.int .i64 0, .int .i64 0]⟩,
  some ⟨.st [(0, 2), (1, 3)], 2, 16, [.int .i64 0, .int .i64 0]⟩,
  some ⟨.st [(0, 3), (1, 23), (3, 9), (4, 4), (5, 3)], 6, 56, [.int .i64 0, .int .i64 0, .int .i64 0, .str [], .bool false, .int .i64 0]⟩,
  some ⟨.st [(0, 3), (1, 23), (3, 9), (4, 4), (5, 3)], 6, 56, [.int .i64 0, .int .i64 0, .int .i64 0, .str [], .bool false, .int .i64 0]⟩,
  some ⟨.st [(0, 3), (1, 3), (2, 4), (3, 4)], 4, 24, [.int .i64 0, .int .i64 0, .bool false, .bool false]⟩,
  some ⟨.st [(0, 3), (1, 3), (2, 4), (3, 4)], 4, 24, [.int .i64 0, .int .i64 0, .bool false, .bool false]⟩,
  some ⟨.st [(0, 27), (4, 27)], 8, 48, [.int .i64 0, .int .i64 0, .bool false, .bool false, .int .i64 0, .int .i64 0, .bool false, .bool false]⟩,
  some ⟨.st [(0, 27), (4, 27)], 8, 48, [.int .i64 0, .int .i64 0, .bool false, .bool false, .int .i64 0, .int .i64 0, .bool false, .bool false]⟩,
  some ⟨.sl 32, 1, 24, [.nilsl]⟩,
  some ⟨.st [(0, 3), (1, 25), (7, 29), (15, 3), (16, 3), (17, 30)], 18, 152, [.int .i64 0, .int .i64 0, .int .i64 0, .int .i64 0, .str [], .bool false, .int .i64 0, .int .i64 0, .int .i64 0, .bool false, .bool false, .int .i64 0, .int .i64 0, .bool false, .bool false, .int .i64 0, .int .i64 0, .nilsl]⟩,
  some ⟨.st [(0, 3), (1, 25), (7, 29), (15, 3), (16, 3), (17, 30)], 18, 152, [.int .i64 0, .int .i64 0, .int .i64 0, .int .i64 0, .str [], .bool false, .int .i64 0, .int .i64 0, .int .i64 0, .bool false, .bool false, .int .i64 0, .int .i64 0, .bool false, .bool false, .int .i64 0, .int .i64 0, .nilsl]⟩,
  some ⟨.st [(0, 3), (1, 3)], 2, 16, [.int .i64 0, .int .i64 0]⟩,
  some ⟨.st [(0, 3), (1, 3)], 2, 16, [.int .i64 0, .int .i64 0]⟩,
  some ⟨.fn, 1, 8, [.nilfn]⟩,
  some ⟨.fn, 1, 8, [.nilfn]⟩,
  some ⟨.int .i64, 1, 8, [.int .i64 0]⟩,
  some ⟨.other, 1, 0, []⟩,
  some ⟨.fn, 1, 8, [.nilfn]⟩,
  some ⟨.st [(0, 2), (1, 3)], 2, 16, [.int .i64 0, .int .i64 0]⟩,
  some ⟨.st [(0, 3), (1, 40), (3, 9), (4, 4), (5, 3)], 6, 56, [.int .i64 0, .int .i64 0, .int .i64 0, .str [], .bool false, .int .i64 0]⟩,
  some ⟨.st [(0, 3), (1, 40), (3, 9), (4, 4), (5, 3)], 6, 56, [.int .i64 0, .int .i64 0, .int .i64 0, .str [], .bool false, .int .i64 0]⟩,
  some ⟨.st [(0, 3), (1, 3), (2, 4), (3, 4)], 4, 24, [.int .i64 0, .int .i64 0, .bool false, .bool false]⟩,
  some ⟨.st [(0, 43), (4, 43)], 8, 48, [.int .i64 0, .int .i64 0, .bool false, .bool false, .int .i64 0, .int .i64 0, .bool false, .bool false]⟩,
  some ⟨.st [(0, 43), (4, 43)], 8, 48, [.int .i64 0, .int .i64 0, .bool false, .bool false, .int .i64 0, .int .i64 0, .bool false, .bool false]⟩,
  some ⟨.sl 48, 1, 24, [.nilsl]⟩,
  some ⟨.st [(0, 3), (1, 42), (7, 45), (15, 3), (16, 3), (17, 46)], 18, 152, [.int .i64 0, .int .i64 0, .int .i64 0, .int .i64 0, .str [], .bool false, .int .i64 0, .int .i64 0, .int .i64 0, .bool false, .bool false, .int .i64 0, .int .i64 0, .bool false, .bool false, .int .i64 0, .int .i64 0, .nilsl]⟩,
  some ⟨.st [(0, 3), (1, 42), (7, 45), (15, 3), (16, 3), (17, 46)], 18, 152, [.int .i64 0, .int .i64 0, .int .i64 0, .int .i64 0, .str [], .bool false, .int .i64 0, .int .i64 0, .int .i64 0, .bool false, .bool false, .int .i64 0, .int .i64 0, .bool false, .bool false, .int .i64 0, .int .i64 0, .nilsl]⟩,
  some ⟨.fn, 1, 8, [.nilfn]⟩,
  some ⟨.other, 1, 0, []⟩,
  some ⟨.fn, 1, 8, [.nilfn]⟩,
  some ⟨.st [(0, 3), (1, 3)], 2, 16, [.int .i64 0, .int .i64 0]⟩,
  some ⟨.fn, 1, 8, [.nilfn]⟩,
  some ⟨.fn, 1, 8, [.nilfn]⟩,
  some ⟨.other, 1, 0, []⟩,
  some ⟨.fn, 1, 8, [.nilfn]⟩,
  some ⟨.other, 1, 0, []⟩,
  some ⟨.fn, 1, 8, [.nilfn]⟩,
  some ⟨.fn, 1, 8, [.nilfn]⟩]
theorem tys0_ok : tys0 = (List.range' 0 60).map (tiOf Go.Proofs.Tryz.prog) := by kernel_rfl
def tys1 : List (Option Ti) := [
  some ⟨.fn, 1, 8, [.nilfn]⟩,
  some ⟨.fn, 1, 8, [.nilfn]⟩,
  some ⟨.fn, 1, 8, [.nilfn]⟩,
  some ⟨.fn, 1, 8, [.nilfn]⟩,
  some ⟨.fn, 1, 8, [.nilfn]⟩,
  some ⟨.fn, 1, 8, [.nilfn]⟩,
  some ⟨.fn, 1, 8, [.nilfn]⟩,
  some ⟨.fn, 1, 8, [.nilfn]⟩,
  some ⟨.sl 9, 1, 24, [.nilsl]⟩,
  some ⟨.sl 3, 1, 24, [.nilsl]⟩,
  some ⟨.fn, 1, 8, [.nilfn]⟩,
  some ⟨.fn, 1, 8, [.nilfn]⟩,
  some ⟨.fn, 1, 8, [.nilfn]⟩,
  some ⟨.fn, 1, 8, [.nilfn]⟩,
  some ⟨.fn, 1, 8, [.nilfn]⟩,
  some ⟨.fn, 1, 8, [.nilfn]⟩,
  some ⟨.ptr 3, 1, 8, [.nilptr]⟩,
  some ⟨.fn, 1, 8, [.nilfn]⟩,
  some ⟨.fn, 1, 8, [.nilfn]⟩,
  some ⟨.fn, 1, 8, [.nilfn]⟩,
  some ⟨.fn, 1, 8, [.nilfn]⟩,
  some ⟨.fn, 1, 8, [.nilfn]⟩,
  some ⟨.fn, 1, 8, [.nilfn]⟩,
  some ⟨.ptr 85, 1, 8, [.nilptr]⟩,
  some ⟨.st [(0, 9), (1, 34), (3, 3), (4, 37), (5, 3)], 6, 56, [.str [], .int .i64 0, .int .i64 0, .int .i64 0, .int .i64 0, .int .i64 0]⟩,
  some ⟨.st [(0, 9), (1, 34), (3, 3), (4, 37), (5, 3)], 6, 56, [.str [], .int .i64 0, .int .i64 0, .int .i64 0, .int .i64 0, .int .i64 0]⟩,
  some ⟨.fn, 1, 8, [.nilfn]⟩,
  some ⟨.fn, 1, 8, [.nilfn]⟩,
  some ⟨.ptr 92, 1, 8, [.nilptr]⟩,
  some ⟨.st [(0, 3), (1, 9), (2, 9), (3, 25), (9, 5)], 10, 104, [.int .i64 0, .str [], .str [], .int .i64 0, .int .i64 0, .int .i64 0, .str [], .bool false, .int .i64 0, .int .u8 0]⟩,
  some ⟨.st [(0, 3), (1, 9), (2, 9), (3, 25), (9, 5)], 10, 104, [.int .i64 0, .str [], .str [], .int .i64 0, .int .i64 0, .int .i64 0, .str [], .bool false, .int .i64 0, .int .u8 0]⟩,
  some ⟨.st [(0, 9), (1, 52), (3, 90), (13, 4), (14, 3), (15, 3), (16, 3)], 17, 168, [.str [], .int .i64 0, .int .i64 0, .int .i64 0, .str [], .str [], .int .i64 0, .int .i64 0, .int .i64 0, .str [], .bool false, .int .i64 0, .int .u8 0, .bool false, .int .i64 0, .int .i64 0, .int .i64 0]⟩,
  some ⟨.st [(0, 9), (1, 52), (3, 90), (13, 4), (14, 3), (15, 3), (16, 3)], 17, 168, [.str [], .int .i64 0, .int .i64 0, .int .i64 0, .str [], .str [], .int .i64 0, .int .i64 0, .int .i64 0, .str [], .bool false, .int .i64 0, .int .u8 0, .bool false, .int .i64 0, .int .i64 0, .int .i64 0]⟩,
  some ⟨.fn, 1, 8, [.nilfn]⟩,
  some ⟨.fn, 1, 8, [.nilfn]⟩,
  some ⟨.fn, 1, 8, [.nilfn]⟩,
  some ⟨.fn, 1, 8, [.nilfn]⟩,
  some ⟨.fn, 1, 8, [.nilfn]⟩,
  some ⟨.fn, 1, 8, [.nilfn]⟩,
  some ⟨.sl 101, 1, 24, [.nilsl]⟩,
  some ⟨.st [(0, 48), (18, 3)], 19, 160, [.int .i64 0, .int .i64 0, .int .i64 0, .int .i64 0, .str [], .bool false, .int .i64 0, .int .i64 0, .int .i64 0, .bool false, .bool false, .int .i64 0, .int .i64 0, .bool false, .bool false, .int .i64 0, .int .i64 0, .nilsl, .int .i64 0]⟩,
  some ⟨.st [(0, 48), (18, 3)], 19, 160, [.int .i64 0, .int .i64 0, .int .i64 0, .int .i64 0, .str [], .bool false, .int .i64 0, .int .i64 0, .int .i64 0, .bool false, .bool false, .int .i64 0, .int .i64 0, .bool false, .bool false, .int .i64 0, .int .i64 0, .nilsl, .int .i64 0]⟩,
  some ⟨.fn, 1, 8, [.nilfn]⟩,
  some ⟨.fn, 1, 8, [.nilfn]⟩,
  some ⟨.fn, 1, 8, [.nilfn]⟩,
  some ⟨.fn, 1, 8, [.nilfn]⟩,
  some ⟨.fn, 1, 8, [.nilfn]⟩,
  some ⟨.fn, 1, 8, [.nilfn]⟩,
  some ⟨.fn, 1, 8, [.nilfn]⟩,
  some ⟨.fn, 1, 8, [.nilfn]⟩,
  some ⟨.fn, 1, 8, [.nilfn]⟩,
  some ⟨.fn, 1, 8, [.nilfn]⟩,
  some ⟨.fn, 1, 8, [.nilfn]⟩,
  some ⟨.other, 1, 0, []⟩,
  some ⟨.fn, 1, 8, [.nilfn]⟩,
  some ⟨.fn, 1, 8, [.nilfn]⟩,
  some ⟨.fn, 1, 8, [.nilfn]⟩,
  some ⟨.fn, 1, 8, [.nilfn]⟩,
  some ⟨.fn, 1, 8, [.nilfn]⟩,
  some ⟨.fn, 1, 8, [.nilfn]⟩]
theorem tys1_ok : tys1 = (List.range' 60 60).map (tiOf Go.Proofs.Tryz.prog) := by kernel_rfl
def tys2 : List (Option Ti) := [
  some ⟨.fn, 1, 8, [.nilfn]⟩,
  some ⟨.fn, 1, 8, [.nilfn]⟩,
  some ⟨.fn, 1, 8, [.nilfn]⟩,
  some ⟨.other, 1, 0, []⟩,
  some ⟨.fn, 1, 8, [.nilfn]⟩,
  some ⟨.fn, 1, 8, [.nilfn]⟩,
  some ⟨.fn, 1, 8, [.nilfn]⟩,
  some ⟨.fn, 1, 8, [.nilfn]⟩,
  some ⟨.fn, 1, 8, [.nilfn]⟩,
  some ⟨.fn, 1, 8, [.nilfn]⟩,
  some ⟨.fn, 1, 8, [.nilfn]⟩,
  some ⟨.fn, 1, 8, [.nilfn]⟩,
  some ⟨.fn, 1, 8, [.nilfn]⟩,
  some ⟨.fn, 1, 8, [.nilfn]⟩,
  some ⟨.fn, 1, 8, [.nilfn]⟩,
  some ⟨.fn, 1, 8, [.nilfn]⟩,
  some ⟨.fn, 1, 8, [.nilfn]⟩,
  some ⟨.fn, 1, 8, [.nilfn]⟩,
  some ⟨.fn, 1, 8, [.nilfn]⟩,
  some ⟨.fn, 1, 8, [.nilfn]⟩,
  some ⟨.fn, 1, 8, [.nilfn]⟩,
  some ⟨.sl 144, 1, 24, [.nilsl]⟩,
  some ⟨.fn, 1, 8, [.nilfn]⟩,
  some ⟨.st [(0, 9), (1, 3), (2, 3)], 3, 32, [.str [], .int .i64 0, .int .i64 0]⟩,
  some ⟨.st [(0, 9), (1, 3), (2, 3)], 3, 32, [.str [], .int .i64 0, .int .i64 0]⟩,
  some ⟨.ptr 148, 1, 8, [.nilptr]⟩,
  some ⟨.sl 5, 1, 24, [.nilsl]⟩,
  some ⟨.st [(0, 145), (1, 146)], 2, 32, [.nilptr, .nilsl]⟩,
  some ⟨.st [(0, 145), (1, 146)], 2, 32, [.nilptr, .nilsl]⟩,
  some ⟨.fn, 1, 8, [.nilfn]⟩,
  some ⟨.ifc, 1, 16, [.niliface]⟩,
  some ⟨.ifc, 1, 16, [.niliface]⟩,
  some ⟨.other, 1, 0, []⟩,
  some ⟨.fn, 1, 8, [.nilfn]⟩,
  some ⟨.fn, 1, 8, [.nilfn]⟩,
  some ⟨.fn, 1, 8, [.nilfn]⟩,
  some ⟨.fn, 1, 8, [.nilfn]⟩,
  some ⟨.fn, 1, 8, [.nilfn]⟩,
  some ⟨.fn, 1, 8, [.nilfn]⟩,
  some ⟨.other, 1, 0, []⟩,
  some ⟨.fn, 1, 8, [.nilfn]⟩,
  some ⟨.fn, 1, 8, [.nilfn]⟩,
  some ⟨.other, 1, 0, []⟩,
  some ⟨.fn, 1, 8, [.nilfn]⟩,
  some ⟨.other, 1, 0, []⟩,
  some ⟨.fn, 1, 8, [.nilfn]⟩,
  some ⟨.fn, 1, 8, [.nilfn]⟩,
  some ⟨.other, 1, 0, []⟩,
  some ⟨.fn, 1, 8, [.nilfn]⟩,
  some ⟨.other, 1, 0, []⟩,
  some ⟨.fn, 1, 8, [.nilfn]⟩,
  some ⟨.fn, 1, 8, [.nilfn]⟩,
  some ⟨.fn, 1, 8, [.nilfn]⟩,
  some ⟨.fn, 1, 8, [.nilfn]⟩,
  some ⟨.fn, 1, 8, [.nilfn]⟩,
  some ⟨.other, 1, 0, []⟩,
  some ⟨.fn, 1, 8, [.nilfn]⟩,
  some ⟨.fn, 1, 8, [.nilfn]⟩,
  some ⟨.fn, 1, 8, [.nilfn]⟩,
  some ⟨.fn, 1, 8, [.nilfn]⟩]
theorem tys2_ok : tys2 = (List.range' 120 60).map (tiOf Go.Proofs.Tryz.prog) := by kernel_rfl
def tys3 : List (Option Ti) := [
  some ⟨.fn, 1, 8, [.nilfn]⟩,
  some ⟨.fn, 1, 8, [.nilfn]⟩,
  some ⟨.fn, 1, 8, [.nilfn]⟩,
  some ⟨.fn, 1, 8, [.nilfn]⟩,
  some ⟨.fn, 1, 8, [.nilfn]⟩,
  some ⟨.fn, 1, 8, [.nilfn]⟩,
  some ⟨.fn, 1, 8, [.nilfn]⟩,
  some ⟨.fn, 1, 8, [.nilfn]⟩,
  some ⟨.fn, 1, 8, [.nilfn]⟩,
  some ⟨.fn, 1, 8, [.nilfn]⟩,
  some ⟨.arr 256 4, 256, 256, [.bool false, .bool false, .bool false, .bool false, .bool false, .bool false, .bool false, .bool false, .bool false, .bool false, .bool false, .bool false, .bool false, .bool false, .bool false, .bool false, .bool false, .bool false, .bool false, .bool false, .bool false, .bool false, .bool false, .bool false, .bool false, .bool false, .bool false, .bool false, .bool false, .bool false, .bool false, .bool false, .bool false, .bool false, .bool false, .bool false, .bool false, .bool false, .bool false, .bool false, .bool false, .bool false, .bool false, .bool false, .bool false, .bool false, .bool false, .bool false, .bool false, .bool false, .bool false, .bool false, .bool false, .bool false, .bool false, .bool false, .bool false, .bool false, .bool false, .bool false, .bool false, .bool false, .bool false, .bool false, .bool false, .bool false, .bool false, .bool false, .bool false, .bool false, .bool false, .bool false, .bool false, .bool false, .bool false, .bool false, .bool false, .bool false, .bool false, .bool false, .bool false, .bool false, .bool false, .bool false, .bool false, .bool false, .bool false, .bool false, .bool false, .bool false, .bool false, .bool false, .bool false, .bool false, .bool false, .bool false, .bool false, .bool false, .bool false, .bool false, .bool false, .bool false, .bool false, .bool false, .bool false, .bool false, .bool false, .bool false, .bool false, .bool false, .bool false, .bool false, .bool false, .bool false, .bool false, .bool false, .bool false, .bool false, .bool false, .bool false, .bool false, .bool false, .bool false, .bool false, .bool false, .bool false, .bool false, .bool false, .bool false, .bool false, .bool false, .bool false, .bool false, .bool false, .bool false, .bool false, .bool false, .bool false, .bool false, .bool false, .bool false, .bool false, .bool false, .bool false, .bool false, .bool false, .bool false, .bool false, .bool false, .bool false, .bool false, .bool false, .bool false, .bool false, .bool false, .bool false, .bool false, .bool false, .bool false, .bool false, .bool false, .bool false, .bool false, .bool false, .bool false, .bool false, .bool false, .bool false, .bool false, .bool false, .bool false, .bool false, .bool false, .bool false, .bool false, .bool false, .bool false, .bool false, .bool false, .bool false, .bool false, .bool false, .bool false, .bool false, .bool false, .bool false, .bool false, .bool false, .bool false, .bool false, .bool false, .bool false, .bool false, .bool false, .bool false, .bool false, .bool false, .bool false, .bool false, .bool false, .bool false, .bool false, .bool false, .bool false, .bool false, .bool false, .bool false, .bool false, .bool false, .bool false, .bool false, .bool false, .bool false, .bool false, .bool false, .bool false, .bool false, .bool false, .bool false, .bool false, .bool false, .bool false, .bool false, .bool false, .bool false, .bool false, .bool false, .bool false, .bool false, .bool false, .bool false, .bool false, .bool false, .bool false, .bool false, .bool false, .bool false, .bool false, .bool false, .bool false, .bool false, .bool false, .bool false, .bool false, .bool false, .bool false, .bool false, .bool false, .bool false, .bool false, .bool false, .bool false, .bool false, .bool false, .bool false, .bool false]⟩,
  some ⟨.arr 256 4, 256, 256, [.bool false, .bool false, .bool false, .bool false, .bool false, .bool false, .bool false, .bool false, .bool false, .bool false, .bool false, .bool false, .bool false, .bool false, .bool false, .bool false, .bool false, .bool false, .bool false, .bool false, .bool false, .bool false, .bool false, .bool false, .bool false, .bool false, .bool false, .bool false, .bool false, .bool false, .bool false, .bool false, .bool false, .bool false, .bool false, .bool false, .bool false, .bool false, .bool false, .bool false, .bool false, .bool false, .bool false, .bool false, .bool false, .bool false, .bool false, .bool false, .bool false, .bool false, .bool false, .bool false, .bool false, .bool false, .bool false, .bool false, .bool false, .bool false, .bool false, .bool false, .bool false, .bool false, .bool false, .bool false, .bool false, .bool false, .bool false, .bool false, .bool false, .bool false, .bool false, .bool false, .bool false, .bool false, .bool false, .bool false, .bool false, .bool false, .bool false, .bool false, .bool false, .bool false, .bool false, .bool false, .bool false, .bool false, .bool false, .bool false, .bool false, .bool false, .bool false, .bool false, .bool false, .bool false, .bool false, .bool false, .bool false, .bool false, .bool false, .bool false, .bool false, .bool false, .bool false, .bool false, .bool false, .bool false, .bool false, .bool false, .bool false, .bool false, .bool false, .bool false, .bool false, .bool false, .bool false, .bool false, .bool false, .bool false, .bool false, .bool false, .bool false, .bool false, .bool false, .bool false, .bool false, .bool false, .bool false, .bool false, .bool false, .bool false, .bool false, .bool false, .bool false, .bool false, .bool false, .bool false, .bool false, .bool false, .bool false, .bool false, .bool false, .bool false, .bool false, .bool false, .bool false, .bool false, .bool false, .bool false, .bool false, .bool false, .bool false, .bool false, .bool false, .bool false, .bool false, .bool false, .bool false, .bool false, .bool false, .bool false, .bool false, .bool false, .bool false, .bool false, .bool false, .bool false, .bool false, .bool false, .bool false, .bool false, .bool false, .bool false, .bool false, .bool false, .bool false, .bool false, .bool false, .bool false, .bool false, .bool false, .bool false, .bool false, .bool false, .bool false, .bool false, .bool false, .bool false, .bool false, .bool false, .bool false, .bool false, .bool false, .bool false, .bool false, .bool false, .bool false, .bool false, .bool false, .bool false, .bool false, .bool false, .bool false, .bool false, .bool false, .bool false, .bool false, .bool false, .bool false, .bool false, .bool false, .bool false, .bool false, .bool false, .bool false, .bool false, .bool false, .bool false, .bool false, .bool false, .bool false, .bool false, .bool false, .bool false, .bool false, .bool false, .bool false, .bool false, .bool false, .bool false, .bool false, .bool false, .bool false, .bool false, .bool false, .bool false, .bool false, .bool false, .bool false, .bool false, .bool false, .bool false, .bool false, .bool false, .bool false, .bool false, .bool false, .bool false, .bool false, .bool false, .bool false, .bool false, .bool false, .bool false, .bool false, .bool false, .bool false]⟩,
  some ⟨.other, 1, 0, []⟩,
  some ⟨.fn, 1, 8, [.nilfn]⟩,
  some ⟨.ptr 5, 1, 8, [.nilptr]⟩,
  some ⟨.st [(0, 4), (1, 69)], 2, 32, [.bool false, .nilsl]⟩,
  some ⟨.st [(0, 4), (1, 69)], 2, 32, [.bool false, .nilsl]⟩,
  some ⟨.fn, 1, 8, [.nilfn]⟩,
  some ⟨.fn, 1, 8, [.nilfn]⟩,
  some ⟨.other, 1, 0, []⟩,
  some ⟨.fn, 1, 8, [.nilfn]⟩,
  some ⟨.int .u64, 1, 8, [.int .u64 0]⟩,
  some ⟨.st [(0, 201), (1, 201), (2, 4)], 3, 24, [.int .u64 0, .int .u64 0, .bool false]⟩,
  some ⟨.st [(0, 201), (1, 201), (2, 4)], 3, 24, [.int .u64 0, .int .u64 0, .bool false]⟩,
  some ⟨.fn, 1, 8, [.nilfn]⟩,
  some ⟨.fn, 1, 8, [.nilfn]⟩,
  some ⟨.fn, 1, 8, [.nilfn]⟩,
  some ⟨.other, 1, 0, []⟩,
  some ⟨.fn, 1, 8, [.nilfn]⟩,
  some ⟨.fn, 1, 8, [.nilfn]⟩,
  some ⟨.fn, 1, 8, [.nilfn]⟩,
  some ⟨.fn, 1, 8, [.nilfn]⟩,
  some ⟨.fn, 1, 8, [.nilfn]⟩,
  some ⟨.arr 24 5, 24, 24, [.int .u8 0, .int .u8 0, .int .u8 0, .int .u8 0, .int .u8 0, .int .u8 0, .int .u8 0, .int .u8 0, .int .u8 0, .int .u8 0, .int .u8 0, .int .u8 0, .int .u8 0, .int .u8 0, .int .u8 0, .int .u8 0, .int .u8 0, .int .u8 0, .int .u8 0, .int .u8 0, .int .u8 0, .int .u8 0, .int .u8 0, .int .u8 0]⟩,
  some ⟨.fn, 1, 8, [.nilfn]⟩,
  some ⟨.fn, 1, 8, [.nilfn]⟩,
  some ⟨.other, 1, 0, []⟩,
  some ⟨.fn, 1, 8, [.nilfn]⟩,
  some ⟨.other, 1, 0, []⟩,
  some ⟨.fn, 1, 8, [.nilfn]⟩,
  some ⟨.fn, 1, 8, [.nilfn]⟩,
  some ⟨.fn, 1, 8, [.nilfn]⟩,
  some ⟨.fn, 1, 8, [.nilfn]⟩,
  some ⟨.fn, 1, 8, [.nilfn]⟩,
  some ⟨.int .u64, 1, 8, [.int .u64 0]⟩,
  some ⟨.ptr 191, 1, 8, [.nilptr]⟩,
  some ⟨.other, 1, 8, [.nilptr]⟩,
  some ⟨.fn, 1, 8, [.nilfn]⟩,
  some ⟨.fn, 1, 8, [.nilfn]⟩,
  some ⟨.other, 1, 0, []⟩,
  some ⟨.fn, 1, 8, [.nilfn]⟩,
  some ⟨.fn, 1, 8, [.nilfn]⟩,
  some ⟨.fn, 1, 8, [.nilfn]⟩,
  some ⟨.fn, 1, 8, [.nilfn]⟩,
  some ⟨.arr 256 5, 256, 256, [.int .u8 0, .int .u8 0, .int .u8 0, .int .u8 0, .int .u8 0, .int .u8 0, .int .u8 0, .int .u8 0, .int .u8 0, .int .u8 0, .int .u8 0, .int .u8 0, .int .u8 0, .int .u8 0, .int .u8 0, .int .u8 0, .int .u8 0, .int .u8 0, .int .u8 0, .int .u8 0, .int .u8 0, .int .u8 0, .int .u8 0, .int .u8 0, .int .u8 0, .int .u8 0, .int .u8 0, .int .u8 0, .int .u8 0, .int .u8 0, .int .u8 0, .int .u8 0, .int .u8 0, .int .u8 0, .int .u8 0, .int .u8 0, .int .u8 0, .int .u8 0, .int .u8 0, .int .u8 0, .int .u8 0, .int .u8 0, .int .u8 0, .int .u8 0, .int .u8 0, .int .u8 0, .int .u8 0, .int .u8 0, .int .u8 0, .int .u8 0, .int .u8 0, .int .u8 0, .int .u8 0, .int .u8 0, .int .u8 0, .int .u8 0, .int .u8 0, .int .u8 0, .int .u8 0, .int .u8 0, .int .u8 0, .int .u8 0, .int .u8 0, .int .u8 0, .int .u8 0, .int .u8 0, .int .u8 0, .int .u8 0, .int .u8 0, .int .u8 0, .int .u8 0, .int .u8 0, .int .u8 0, .int .u8 0, .int .u8 0, .int .u8 0, .int .u8 0, .int .u8 0, .int .u8 0, .int .u8 0, .int .u8 0, .int .u8 0, .int .u8 0, .int .u8 0, .int .u8 0, .int .u8 0, .int .u8 0, .int .u8 0, .int .u8 0, .int .u8 0, .int .u8 0, .int .u8 0, .int .u8 0, .int .u8 0, .int .u8 0, .int .u8 0, .int .u8 0, .int .u8 0, .int .u8 0, .int .u8 0, .int .u8 0, .int .u8 0, .int .u8 0, .int .u8 0, .int .u8 0, .int .u8 0, .int .u8 0, .int .u8 0, .int .u8 0, .int .u8 0, .int .u8 0, .int .u8 0, .int .u8 0, .int .u8 0, .int .u8 0, .int .u8 0, .int .u8 0, .int .u8 0, .int .u8 0, .int .u8 0, .int .u8 0, .int .u8 0, .int .u8 0, .int .u8 0, .int .u8 0, .int .u8 0, .int .u8 0, .int .u8 0, .int .u8 0, .int .u8 0, .int .u8 0, .int .u8 0, .int .u8 0, .int .u8 0, .int .u8 0, .int .u8 0, .int .u8 0, .int .u8 0, .int .u8 0, .int .u8 0, .int .u8 0, .int .u8 0, .int .u8 0, .int .u8 0, .int .u8 0, .int .u8 0, .int .u8 0, .int .u8 0, .int .u8 0, .int .u8 0, .int .u8 0, .int .u8 0, .int .u8 0, .int .u8 0, .int .u8 0, .int .u8 0, .int .u8 0, .int .u8 0, .int .u8 0, .int .u8 0, .int .u8 0, .int .u8 0, .int .u8 0, .int .u8 0, .int .u8 0, .int .u8 0, .int .u8 0, .int .u8 0, .int .u8 0, .int .u8 0, .int .u8 0, .int .u8 0, .int .u8 0, .int .u8 0, .int .u8 0, .int .u8 0, .int .u8 0, .int .u8 0, .int .u8 0, .int .u8 0, .int .u8 0, .int .u8 0, .int .u8 0, .int .u8 0, .int .u8 0, .int .u8 0, .int .u8 0, .int .u8 0, .int .u8 0, .int .u8 0, .int .u8 0, .int .u8 0, .int .u8 0, .int .u8 0, .int .u8 0, .int .u8 0, .int .u8 0, .int .u8 0, .int .u8 0, .int .u8 0, .int .u8 0, .int .u8 0, .int .u8 0, .int .u8 0, .int .u8 0, .int .u8 0, .int .u8 0, .int .u8 0, .int .u8 0, .int .u8 0, .int .u8 0, .int .u8 0, .int .u8 0, .int .u8 0, .int .u8 0, .int .u8 0, .int .u8 0, .int .u8 0, .int .u8 0, .int .u8 0, .int .u8 0, .int .u8 0, .int .u8 0, .int .u8 0, .int .u8 0, .int .u8 0, .int .u8 0, .int .u8 0, .int .u8 0, .int .u8 0, .int .u8 0, .int .u8 0, .int .u8 0, .int .u8 0, .int .u8 0, .int .u8 0, .int .u8 0, .int .u8 0, .int .u8 0, .int .u8 0, .int .u8 0, .int .u8 0, .int .u8 0, .int .u8 0, .int .u8 0, .int .u8 0, .int .u8 0, .int .u8 0, .int .u8 0, .int .u8 0, .int .u8 0, .int .u8 0, .int .u8 0, .int .u8 0, .int .u8 0, .int .u8 0]⟩,
  some ⟨.st [(0, 5), (1, 5)], 2, 2, [.int .u8 0, .int .u8 0]⟩,
  some ⟨.st [(0, 5), (1, 5)], 2, 2, [.int .u8 0, .int .u8 0]⟩,
  some ⟨.arr 16 236, 32, 32, [.int .u8 0, .int .u8 0, .int .u8 0, .int .u8 0, .int .u8 0, .int .u8 0, .int .u8 0, .int .u8 0, .int .u8 0, .int .u8 0, .int .u8 0, .int .u8 0, .int .u8 0, .int .u8 0, .int .u8 0, .int .u8 0, .int .u8 0, .int .u8 0, .int .u8 0, .int .u8 0, .int .u8 0, .int .u8 0, .int .u8 0, .int .u8 0, .int .u8 0, .int .u8 0, .int .u8 0, .int .u8 0, .int .u8 0, .int .u8 0, .int .u8 0, .int .u8 0]⟩,
  some ⟨.fn, 1, 8, [.nilfn]⟩,
  some ⟨.fn, 1, 8, [.nilfn]⟩]
theorem tys3_ok : tys3 = (List.range' 180 60).map (tiOf Go.Proofs.Tryz.prog) := by kernel_rfl
def tys4 : List (Option Ti) := [
  some ⟨.fn, 1, 8, [.nilfn]⟩,
  some ⟨.arr 20 201, 20, 160, [.int .u64 0, .int .u64 0, .int .u64 0, .int .u64 0, .int .u64 0, .int .u64 0, .int .u64 0, .int .u64 0, .int .u64 0, .int .u64 0, .int .u64 0, .int .u64 0, .int .u64 0, .int .u64 0, .int .u64 0, .int .u64 0, .int .u64 0, .int .u64 0, .int .u64 0, .int .u64 0]⟩,
  some ⟨.int .u32, 1, 4, [.int .u32 0]⟩,
  some ⟨.arr 65 5, 65, 65, [.int .u8 0, .int .u8 0, .int .u8 0, .int .u8 0, .int .u8 0, .int .u8 0, .int .u8 0, .int .u8 0, .int .u8 0, .int .u8 0, .int .u8 0, .int .u8 0, .int .u8 0, .int .u8 0, .int .u8 0, .int .u8 0, .int .u8 0, .int .u8 0, .int .u8 0, .int .u8 0, .int .u8 0, .int .u8 0, .int .u8 0, .int .u8 0, .int .u8 0, .int .u8 0, .int .u8 0, .int .u8 0, .int .u8 0, .int .u8 0, .int .u8 0, .int .u8 0, .int .u8 0, .int .u8 0, .int .u8 0, .int .u8 0, .int .u8 0, .int .u8 0, .int .u8 0, .int .u8 0, .int .u8 0, .int .u8 0, .int .u8 0, .int .u8 0, .int .u8 0, .int .u8 0, .int .u8 0, .int .u8 0, .int .u8 0, .int .u8 0, .int .u8 0, .int .u8 0, .int .u8 0, .int .u8 0, .int .u8 0, .int .u8 0, .int .u8 0, .int .u8 0, .int .u8 0, .int .u8 0, .int .u8 0, .int .u8 0, .int .u8 0, .int .u8 0, .int .u8 0]⟩,
  some ⟨.fn, 1, 8, [.nilfn]⟩,
  some ⟨.other, 1, 0, []⟩,
  some ⟨.fn, 1, 8, [.nilfn]⟩,
  some ⟨.fn, 1, 8, [.nilfn]⟩,
  some ⟨.fn, 1, 8, [.nilfn]⟩,
  some ⟨.fn, 1, 8, [.nilfn]⟩,
  some ⟨.other, 1, 0, []⟩,
  some ⟨.fn, 1, 8, [.nilfn]⟩,
  some ⟨.fn, 1, 8, [.nilfn]⟩,
  some ⟨.fn, 1, 8, [.nilfn]⟩,
  some ⟨.fn, 1, 8, [.nilfn]⟩,
  some ⟨.other, 1, 0, []⟩,
  some ⟨.fn, 1, 8, [.nilfn]⟩,
  some ⟨.other, 1, 0, []⟩,
  some ⟨.fn, 1, 8, [.nilfn]⟩,
  some ⟨.fn, 1, 8, [.nilfn]⟩,
  some ⟨.other, 1, 0, []⟩,
  some ⟨.fn, 1, 8, [.nilfn]⟩,
  some ⟨.fn, 1, 8, [.nilfn]⟩,
  some ⟨.other, 1, 0, []⟩,
  some ⟨.fn, 1, 8, [.nilfn]⟩,
  some ⟨.arr 32 5, 32, 32, [.int .u8 0, .int .u8 0, .int .u8 0, .int .u8 0, .int .u8 0, .int .u8 0, .int .u8 0, .int .u8 0, .int .u8 0, .int .u8 0, .int .u8 0, .int .u8 0, .int .u8 0, .int .u8 0, .int .u8 0, .int .u8 0, .int .u8 0, .int .u8 0, .int .u8 0, .int .u8 0, .int .u8 0, .int .u8 0, .int .u8 0, .int .u8 0, .int .u8 0, .int .u8 0, .int .u8 0, .int .u8 0, .int .u8 0, .int .u8 0, .int .u8 0, .int .u8 0]⟩,
  some ⟨.arr 64 5, 64, 64, [.int .u8 0, .int .u8 0, .int .u8 0, .int .u8 0, .int .u8 0, .int .u8 0, .int .u8 0, .int .u8 0, .int .u8 0, .int .u8 0, .int .u8 0, .int .u8 0, .int .u8 0, .int .u8 0, .int .u8 0, .int .u8 0, .int .u8 0, .int .u8 0, .int .u8 0, .int .u8 0, .int .u8 0, .int .u8 0, .int .u8 0, .int .u8 0, .int .u8 0, .int .u8 0, .int .u8 0, .int .u8 0, .int .u8 0, .int .u8 0, .int .u8 0, .int .u8 0, .int .u8 0, .int .u8 0, .int .u8 0, .int .u8 0, .int .u8 0, .int .u8 0, .int .u8 0, .int .u8 0, .int .u8 0, .int .u8 0, .int .u8 0, .int .u8 0, .int .u8 0, .int .u8 0, .int .u8 0, .int .u8 0, .int .u8 0, .int .u8 0, .int .u8 0, .int .u8 0, .int .u8 0, .int .u8 0, .int .u8 0, .int .u8 0, .int .u8 0, .int .u8 0, .int .u8 0, .int .u8 0, .int .u8 0, .int .u8 0, .int .u8 0, .int .u8 0]⟩,
  some ⟨.fn, 1, 8, [.nilfn]⟩,
  some ⟨.int .i64, 1, 8, [.int .i64 0]⟩,
  some ⟨.other, 1, 0, []⟩,
  some ⟨.fn, 1, 8, [.nilfn]⟩,
  some ⟨.ptr 281, 1, 8, [.nilptr]⟩,
  some ⟨.fn, 1, 8, [.nilfn]⟩,
  some ⟨.fn, 1, 8, [.nilfn]⟩,
  some ⟨.fn, 1, 8, [.nilfn]⟩,
  some ⟨.fn, 1, 8, [.nilfn]⟩,
  some ⟨.other, 1, 0, []⟩,
  some ⟨.fn, 1, 8, [.nilfn]⟩,
  some ⟨.fn, 1, 8, [.nilfn]⟩,
  some ⟨.fn, 1, 8, [.nilfn]⟩,
  none,
  none,
  some ⟨.fn, 1, 8, [.nilfn]⟩,
  some ⟨.fn, 1, 8, [.nilfn]⟩,
  some ⟨.ptr 286, 1, 8, [.nilptr]⟩,
  some ⟨.st [(0, 9)], 1, 16, [.str []]⟩,
  some ⟨.st [(0, 9)], 1, 16, [.str []]⟩,
  none,
  none,
  some ⟨.arr 0 16, 0, 0, []⟩,
  none,
  none,
  some ⟨.int .u8, 1, 1, [.int .u8 0]⟩,
  some ⟨.int .u8, 1, 1, [.int .u8 0]⟩,
  some ⟨.fn, 1, 8, [.nilfn]⟩,
  some ⟨.int .i32, 1, 4, [.int .i32 0]⟩,
  some ⟨.int .i32, 1, 4, [.int .i32 0]⟩,
  none,
  none,
  some ⟨.fn, 1, 8, [.nilfn]⟩]
theorem tys4_ok : tys4 = (List.range' 240 60).map (tiOf Go.Proofs.Tryz.prog) := by kernel_rfl

def nth {α : Type} : List (Option α) → Nat → Option α
  | [], _ => none
  | x :: _, 0 => x
  | _ :: l, n + 1 => nth l n
theorem nth_eq {α : Type} : ∀ (l : List (Option α)) (n : Nat), nth l n = (l[n]?).getD none
  | [], n => by simp [nth]
  | x :: l, 0 => rfl
  | x :: l, n + 1 => by simp [nth, nth_eq l n]
def tys : Nat → Option Ti := fun t => bif Nat.ble 300 t then none else bif Nat.ble 180 t then (bif Nat.ble 240 t then nth tys4 (t - 240) else nth tys3 (t - 180)) else bif Nat.ble 120 t then nth tys2 (t - 120) else bif Nat.ble 60 t then nth tys1 (t - 60) else nth tys0 t
theorem nth_range {s n t : Nat} {ti : Ti} {l : List (Option Ti)} (hl : l = (List.range' s n).map (tiOf Go.Proofs.Tryz.prog)) (h : nth l t = some ti) : tiOf Go.Proofs.Tryz.prog (s + t) = some ti := by
  rw [nth_eq, hl, List.getElem?_map] at h
  cases hr : (List.range' s n)[t]? with
  | none => rw [hr] at h; simp at h
  | some k =>
    rw [hr] at h
    have hk : k = s + t := by
      have := List.getElem?_eq_some_iff.1 hr
      obtain ⟨_, h2⟩ := this
      simp at h2; omega
    subst hk
    simpa using h
theorem tys_ok (t : Nat) (ti : Ti) (h : tys t = some ti) : TiOK Go.Proofs.Tryz.prog t ti := by
  apply tiOf_ok
  unfold tys at h
  cases h5 : Nat.ble 300 t with
  | true => simp [h5] at h
  | false =>
    cases h3 : Nat.ble 180 t with
    | true =>
      have h3' := Nat.le_of_ble_eq_true h3
      cases h4 : Nat.ble 240 t with
      | true =>
        have h4' := Nat.le_of_ble_eq_true h4
        simp only [h5, h3, h4, cond_true, cond_false] at h
        have := nth_range tys4_ok h
        rwa [show 240 + (t - 240) = t by omega] at this
      | false =>
        simp only [h5, h3, h4, cond_true, cond_false] at h
        have := nth_range tys3_ok h
        rwa [show 180 + (t - 180) = t by omega] at this
    | false =>
      cases h2 : Nat.ble 120 t with
      | true =>
        have h2' := Nat.le_of_ble_eq_true h2
        simp only [h5, h3, h2, cond_true, cond_false] at h
        have := nth_range tys2_ok h
        rwa [show 120 + (t - 120) = t by omega] at this
      | false =>
        cases h1 : Nat.ble 60 t with
        | true =>
          have h1' := Nat.le_of_ble_eq_true h1
          simp only [h5, h3, h2, h1, cond_true, cond_false] at h
          have := nth_range tys1_ok h
          rwa [show 60 + (t - 60) = t by omega] at this
        | false =>
          simp only [h5, h3, h2, h1, cond_true, cond_false] at h
          have := nth_range tys0_ok h
          rwa [show 0 + t = t by omega] at this

noncomputable def cfg : Cfg := { T := tys, F := fiOf Go.Proofs.Tryz.prog, prim := fun _ => none, glob := fun _ => none, live := fun _ _ => none, scal := fun _ => false, own := fun g => Nat.beq g 43, keep := fun f d => (Nat.beq f 48 && Nat.beq d 10) || (Nat.beq f 43 && Nat.beq d 5) }
end Go.Det.Sea
end

section
set_option linter.unusedVariables false
set_option linter.unusedSimpArgs false
namespace Go.Det

/-! Trees of formulas. -/
structure Vl where
  kind : Int
  m : Int
  s : Int
  txt : List UInt8
  b : Bool
  e : Int
structure Rf where
  row : Int
  col : Int
  rr : Bool
  rc : Bool
inductive Tr where
  | mk (kind : Int) (v : Vl) (a b : Rf) (sheet op : Int) (kids : List Tr)
instance : Inhabited Tr := ⟨.mk 0 ⟨0, 0, 0, [], false, 0⟩ ⟨0, 0, false, false⟩ ⟨0, 0, false, false⟩ 0 0 []⟩
namespace Tr
def kind : Tr → Int | .mk k _ _ _ _ _ _ => k
def v : Tr → Vl | .mk _ v _ _ _ _ _ => v
def a : Tr → Rf | .mk _ _ a _ _ _ _ => a
def b : Tr → Rf | .mk _ _ _ b _ _ _ => b
def sheet : Tr → Int | .mk _ _ _ _ s _ _ => s
def op : Tr → Int | .mk _ _ _ _ _ o _ => o
def kids : Tr → List Tr | .mk _ _ _ _ _ _ l => l
end Tr
def Vl.cells (v : Vl) : List DV := [.int .i64 v.kind, .int .i64 v.m, .int .i64 v.s, .str v.txt, .bool v.b, .int .i64 v.e]
def Rf.cells (r : Rf) : List DV := [.int .i64 r.row, .int .i64 r.col, .bool r.rr, .bool r.rc]
def Vl.dv (v : Vl) : DV := .agg v.cells
def Rf.dv (r : Rf) : DV := .agg r.cells
/-- A tree's cells, with other kids. -/
def Tr.cellsK (t : Tr) (ks : DV) : List DV :=
  [.int .i64 t.kind, .int .i64 t.v.kind, .int .i64 t.v.m, .int .i64 t.v.s, .str t.v.txt, .bool t.v.b, .int .i64 t.v.e,
   .int .i64 t.a.row, .int .i64 t.a.col, .bool t.a.rr, .bool t.a.rc, .int .i64 t.b.row, .int .i64 t.b.col, .bool t.b.rr, .bool t.b.rc, .int .i64 t.sheet, .int .i64 t.op, ks]
mutual
def Tr.enc : Tr → DV
  | .mk k v a b s o ks => .agg (Tr.cellsK (.mk k v a b s o []) (.psl 18 (Tr.encs ks)))
def Tr.encs : List Tr → List DV
  | [] => []
  | t :: l => t.enc :: Tr.encs l
end
def Tr.cells (t : Tr) : List DV := t.cellsK (.psl 18 (Tr.encs t.kids))
def Tr.dv (t : Tr) : DV := .agg t.cells
theorem Tr.enc_eq (t : Tr) : t.enc = t.dv := by cases t; rfl
theorem Tr.encs_eq : ∀ l : List Tr, Tr.encs l = l.map Tr.enc
  | [] => rfl
  | t :: l => by simp [Tr.encs, Tr.encs_eq l]
theorem Tr.encs_get {l : List Tr} {i : Nat} (h : i < l.length) : (Tr.encs l)[i]? = some ((l.getD i default).dv) := by
  rw [Tr.encs_eq]
  simp [List.getElem?_eq_getElem h, List.getD_eq_getElem?_getD, Tr.enc_eq]
theorem Tr.encs_len (l : List Tr) : (Tr.encs l).length = l.length := by simp [Tr.encs_eq]
/-- The tree with nothing. -/
def zeroE : List DV := [.int .i64 0, .int .i64 0, .int .i64 0, .int .i64 0, .str [], .bool false, .int .i64 0, .int .i64 0, .int .i64 0, .bool false, .bool false, .int .i64 0, .int .i64 0, .bool false, .bool false, .int .i64 0, .int .i64 0, .nilsl]

mutual
def Tr.count : Tr → Nat
  | .mk _ _ _ _ _ _ ks => 1 + Tr.counts ks
def Tr.counts : List Tr → Nat
  | [] => 0
  | t :: l => t.count + Tr.counts l
end
theorem Tr.count_eq (t : Tr) : t.count = 1 + Tr.counts t.kids := by cases t; rfl
theorem Tr.len_counts : ∀ l : List Tr, l.length ≤ Tr.counts l
  | [] => Nat.le_refl 0
  | t :: l => by
    have := Tr.len_counts l
    have := Tr.count_eq t
    simp only [List.length_cons, Tr.counts]; omega
def kid (t : Tr) (i : Nat) : Tr := t.kids.getD i default
theorem Tr.counts_get : ∀ (l : List Tr) (i : Nat), i < l.length → (l.getD i default).count ≤ Tr.counts l
  | [], _, h => by simp at h
  | t :: l, 0, _ => by simp [Tr.counts]
  | t :: l, i + 1, h => by
    have := Tr.counts_get l i (by simpa using h)
    simp only [List.getD_cons_succ, Tr.counts]; omega
theorem kid_count {t : Tr} {i : Nat} (h : i < t.kids.length) : (kid t i).count < t.count := by
  have := Tr.counts_get t.kids i h
  rw [Tr.count_eq t]
  unfold kid; omega
theorem kids_count (t : Tr) : t.kids.length < t.count := by
  have := Tr.len_counts t.kids
  rw [Tr.count_eq t]; omega
theorem encs_kid {t : Tr} {i : Nat} (h : i < t.kids.length) : (Tr.encs t.kids)[i]? = some (kid t i).dv := Tr.encs_get h
theorem Tr.encs_take (l : List Tr) (i : Nat) : Tr.encs (l.take i) = (Tr.encs l).take i := by rw [Tr.encs_eq, Tr.encs_eq, List.map_take]
theorem encs_snoc {t : Tr} {i : Nat} (h : i < t.kids.length) : Tr.encs (t.kids.take i) ++ [(kid t i).dv] = Tr.encs (t.kids.take (i + 1)) := by
  rw [List.take_add_one, List.getElem?_eq_getElem h, Tr.encs_eq, Tr.encs_eq, List.map_append]
  simp only [Option.toList_some, List.map_cons, List.map_nil, Tr.enc_eq]
  congr 3
  unfold kid
  rw [List.getD_eq_getElem?_getD, List.getElem?_eq_getElem h]; rfl
/-- A nil slice is an empty one. -/
theorem wk_nil (n : Nat) : WkV .nilsl (.psl n []) := by
  refine ⟨rfl, fun ρ m v h => ?_⟩
  simp only [VR] at h ⊢
  subst h
  exact ⟨none, 0, Nat.le_refl _, rfl, rfl, .inl trivial⟩
theorem wk_agg {l l' : List DV} (hl : WkL l l') (hm : mentsL l' = []) : WkV (.agg l) (.agg l') := by
  refine ⟨by simpa [DV.ments] using hm, fun ρ m v h => ?_⟩
  simp only [VR] at h ⊢
  obtain ⟨vs, h1, h2, h3⟩ := h
  exact ⟨vs, h1, hl.vrl h2, h3⟩
theorem wk_cells (t : Tr) (n : Nat) : WkV (.agg (t.cellsK .nilsl)) (.agg (t.cellsK (.psl n []))) := by
  refine wk_agg ?_ ?_
  · simp only [Tr.cellsK, WkL, true_or, true_and]
    exact ⟨.inr (wk_nil n), trivial⟩
  · simp [Tr.cellsK, mentsL, DV.ments]
theorem take_encs (l : List Tr) (i : Nat) : (Tr.encs (l.take i)).take i = Tr.encs (l.take i) := by rw [← Tr.encs_take, List.take_take, Nat.min_self]
theorem encs_all (l : List Tr) : Tr.encs (l.take l.length) = Tr.encs l := by rw [List.take_length]
theorem take_all_encs (l : List Tr) : (Tr.encs l).take l.length = Tr.encs l := by rw [← Tr.encs_len, List.take_length]
theorem cast_succ (i : Nat) : ((i + 1 : Nat) : Int) = (i : Int) + 1 := rfl
theorem Tr.counts_append : ∀ l m : List Tr, Tr.counts (l ++ m) = Tr.counts l + Tr.counts m
  | [], m => by simp [Tr.counts]
  | t :: l, m => by simp only [List.cons_append, Tr.counts, Tr.counts_append l m]; omega
theorem counts_take {t : Tr} {i : Nat} (h : i < t.kids.length) : Tr.counts (t.kids.take (i + 1)) = Tr.counts (t.kids.take i) + (kid t i).count := by
  rw [List.take_add_one, List.getElem?_eq_getElem h, Tr.counts_append]
  simp only [Option.toList_some, Tr.counts, Nat.add_zero]
  unfold kid
  rw [List.getD_eq_getElem?_getD, List.getElem?_eq_getElem h]; rfl
theorem counts_all (t : Tr) : 1 + Tr.counts (t.kids.take t.kids.length) = t.count := by rw [List.take_length, Tr.count_eq]
theorem counts_le (t : Tr) (i : Nat) : i ≤ t.kids.length → i ≤ Tr.counts (t.kids.take i) := by
  intro h
  have := Tr.len_counts (t.kids.take i)
  rw [List.length_take] at this
  omega
/-! Short texts alone. -/
mutual
def shortT : Tr → Prop
  | .mk _ v _ _ _ _ ks => v.txt.length ≤ 3000 ∧ shortTs ks
def shortTs : List Tr → Prop
  | [] => True
  | t :: l => shortT t ∧ shortTs l
end
theorem shortT_eq (t : Tr) : shortT t ↔ t.v.txt.length ≤ 3000 ∧ shortTs t.kids := by cases t; rfl
theorem shortTs_mem : ∀ {l : List Tr} {t : Tr}, shortTs l → t ∈ l → shortT t
  | [], _, _, h => by simp at h
  | x :: l, t, hc, h => by
    rcases List.mem_cons.1 h with rfl | h
    · exact hc.1
    · exact shortTs_mem hc.2 h
theorem shortTs_of : ∀ {l : List Tr}, (∀ t ∈ l, shortT t) → shortTs l
  | [], _ => trivial
  | x :: l, h => ⟨h x List.mem_cons_self, shortTs_of fun t ht => h t (List.mem_cons_of_mem _ ht)⟩
theorem kid_mem {t : Tr} {i : Nat} (hi : i < t.kids.length) : kid t i ∈ t.kids := by
  unfold kid
  rw [List.getD_eq_getElem?_getD, List.getElem?_eq_getElem hi]
  exact List.getElem_mem hi
theorem take_mem_snoc {t x : Tr} {i : Nat} (hi : i < t.kids.length) (hx : x ∈ t.kids.take (i + 1)) : x ∈ t.kids.take i ∨ x = kid t i := by
  rw [List.take_add_one, List.getElem?_eq_getElem hi] at hx
  simp only [Option.toList_some, List.mem_append, List.mem_singleton] at hx
  refine hx.imp id fun h => ?_
  rw [h]; unfold kid
  rw [List.getD_eq_getElem?_getD, List.getElem?_eq_getElem hi]; rfl
theorem shortTs_take {t : Tr} {i : Nat} (hi : i < t.kids.length) (h : shortTs (t.kids.take i)) (hk : shortT (kid t i)) : shortTs (t.kids.take (i + 1)) := shortTs_of fun x hx => by
  rcases take_mem_snoc hi hx with hx | rfl
  · exact shortTs_mem h hx
  · exact hk
theorem shortT_kid {t : Tr} (h : shortT t) {i : Nat} (hi : i < t.kids.length) : shortT (kid t i) := shortTs_mem ((shortT_eq t).1 h).2 (kid_mem hi)
end Go.Det
end

section
set_option linter.unusedVariables false
set_option linter.unusedSimpArgs false
namespace Go.Det.Sea
open Go Go.Det

def areas (t : Tr) : DV := .agg (t.a.cells ++ t.b.cells)
def hd11_0 (t : Tr) : St := mkS 37 [(1, .ptr 1 18 0 0), (2, .ptr 2 18 0 0), (3, .ptr 3 18 0 0), (4, .int .i64 0)] [(1, .box t.cells), (2, .box zeroE), (3, .box (t.cellsK .nilsl))] []
def hd11_1 (t : Tr) (i : Nat) : St := mkS 37 [(1, .ptr 1 18 0 0), (2, .ptr 2 18 0 0), (3, .ptr 3 18 0 0), (4, .int .i64 i)] [(1, .box t.cells), (2, .box zeroE), (3, .box (t.cellsK (.rsl 34 18 0 i))), (34, .row 18 (Tr.encs (t.kids.take i)))] []
def ex11_0 (t : Tr) : St := mkS 37 [(1, .ptr 1 18 0 0), (2, .ptr 2 18 0 0), (3, .ptr 3 18 0 0)] [(1, .box t.cells), (2, .box zeroE), (3, .box (t.cellsK .nilsl))] []
def ex11_1 (t : Tr) (i : Nat) : St := mkS 37 [(1, .ptr 1 18 0 0), (2, .ptr 2 18 0 0), (3, .ptr 3 18 0 0)] [(1, .box t.cells), (2, .box zeroE), (3, .box (t.cellsK (.rsl 34 18 0 i))), (34, .row 18 (Tr.encs (t.kids.take i)))] []
def F11 (t : Tr) (k : Ex → St → Prop) : Prop := brB (t.kids.isEmpty) (k (.exit 0) (ex11_0 t)) (k (.exit 0) (ex11_1 t t.kids.length))
def E11b (g : Nat) (t : Tr) (i : Nat) : Env := { ss := [(32, g, callG (i < t.kids.length) [(kid t i).dv] (kid t i).dv)], an := [(31, (kid t i).dv)] }
def E11 (gv ga : Nat) (t : Tr) (L : St → Prop) : Env := { ss := [(9, gv, callS [t.v.dv] t.v.dv), (12, ga, callS [areas t] (areas t))], ls := [(0, loopS [1, 2, 3, 4] [1, 2, 3, 34] 37 L (F11 t))] }
theorem vc11 (t : Tr) (L : St → Prop) (Φ : DV → List Blk → Prop) : (vcF cfg (E11 31 32 t L) 11 [t.dv] [] Φ) =
    ([Vl.dv (Tr.v t)] = [Vl.dv (Tr.v t)] ∧ [DV.agg [DV.int IntKind.i64 (Tr.a t).row, DV.int IntKind.i64 (Tr.a t).col, DV.bool (Tr.a t).rr, DV.bool (Tr.a t).rc, DV.int IntKind.i64 (Tr.b t).row, DV.int IntKind.i64 (Tr.b t).col, DV.bool (Tr.b t).rr, DV.bool (Tr.b t).rc]] = [DV.agg [DV.int IntKind.i64 (Tr.a t).row, DV.int IntKind.i64 (Tr.a t).col, DV.bool (Tr.a t).rr, DV.bool (Tr.a t).rc, DV.int IntKind.i64 (Tr.b t).row, DV.int IntKind.i64 (Tr.b t).col, DV.bool (Tr.b t).rr, DV.bool (Tr.b t).rc]] ∧ L (mkS 37 [(1, DV.ptr 1 18 0 0), (2, DV.ptr 2 18 0 0), (3, DV.ptr 3 18 0 0), (4, DV.int IntKind.i64 (0 : Int))] [(1, Blk.box (Tr.cells t)), (2, Blk.box zeroE), (3, Blk.box (Tr.cellsK t DV.nilsl))] []) ∧ brB (List.isEmpty (Tr.kids t)) (Φ (DV.agg (Tr.cellsK t DV.nilsl)) []) (obB (decide (0 + List.length (Tr.kids t) ≤ List.length (Tr.encs (List.take (List.length (Tr.kids t)) (Tr.kids t))))) (Φ (DV.agg (Tr.cellsK t (DV.psl 18 (List.take (List.length (Tr.kids t)) (Tr.encs (List.take (List.length (Tr.kids t)) (Tr.kids t))))))) []))) := by kernel_rfl
theorem vc11_0 (t : Tr) (L : St → Prop) (K : Ex → St → Prop) : (vcB cfg (E11b 11 t 0) 11 0 (hd11_0 t) (bodyK L [1, 2, 3, 4] [1, 2, 3, 34] [1, 2, 3] [1, 2, 3, 34] 37 K)) =
    (brB (decide ((0 : Int) < (↑(List.length (Tr.encs (Tr.kids t))) : Int))) (obB (decide (0 < List.length (Tr.encs (Tr.kids t)))) ((Tr.encs (Tr.kids t))[Int.toNat (0 : Int)]? = some (Tr.dv (kid t 0)) ∧ 0 < List.length (Tr.kids t) ∧ [Tr.dv (kid t 0)] = [Tr.dv (kid t 0)] ∧ L (mkS 37 [(1, DV.ptr 1 18 0 0), (2, DV.ptr 2 18 0 0), (3, DV.ptr 3 18 0 0), (4, DV.int IntKind.i64 (1 : Int))] [(1, Blk.box (Tr.cells t)), (2, Blk.box zeroE), (3, Blk.box (Tr.cellsK t (DV.rsl 34 18 0 1))), (34, Blk.row 18 [Tr.dv (kid t 0)])] []))) (K (Ex.exit 0) (mkS 37 [(1, DV.ptr 1 18 0 0), (2, DV.ptr 2 18 0 0), (3, DV.ptr 3 18 0 0)] [(1, Blk.box (Tr.cells t)), (2, Blk.box zeroE), (3, Blk.box (Tr.cellsK t DV.nilsl))] []))) := by kernel_rfl
theorem vc11_1 (t : Tr) (i : Nat) (L : St → Prop) (K : Ex → St → Prop) : (vcB cfg (E11b 11 t i) 11 0 (hd11_1 t i) (bodyK L [1, 2, 3, 4] [1, 2, 3, 34] [1, 2, 3] [1, 2, 3, 34] 37 K)) =
    (brB (decide ((↑i : Int) < (↑(List.length (Tr.encs (Tr.kids t))) : Int))) (obB (decide (i < List.length (Tr.encs (Tr.kids t)))) ((Tr.encs (Tr.kids t))[Int.toNat (↑i : Int)]? = some (Tr.dv (kid t i)) ∧ i < List.length (Tr.kids t) ∧ [Tr.dv (kid t i)] = [Tr.dv (kid t i)] ∧ obB (decide (0 + i ≤ List.length (Tr.encs (List.take i (Tr.kids t))))) (obB (roomy 152 (i + 1)) (obB (inR IntKind.i64 ((↑i : Int) + (1 : Int))) (L (mkS 37 [(1, DV.ptr 1 18 0 0), (2, DV.ptr 2 18 0 0), (3, DV.ptr 3 18 0 0), (4, DV.int IntKind.i64 ((↑i : Int) + (1 : Int)))] [(1, Blk.box (Tr.cells t)), (2, Blk.box zeroE), (3, Blk.box (Tr.cellsK t (DV.rsl 34 18 0 (i + 1)))), (34, Blk.row 18 (List.take i (Tr.encs (List.take i (Tr.kids t))) ++ [Tr.dv (kid t i)]))] [])))))) (K (Ex.exit 0) (mkS 37 [(1, DV.ptr 1 18 0 0), (2, DV.ptr 2 18 0 0), (3, DV.ptr 3 18 0 0)] [(1, Blk.box (Tr.cells t)), (2, Blk.box zeroE), (3, Blk.box (Tr.cellsK t (DV.rsl 34 18 0 i))), (34, Blk.row 18 (Tr.encs (List.take i (Tr.kids t))))] []))) := by kernel_rfl
def E31 (g : Nat) (v : Vl) : Env := { cs := [(g, callS [.agg [.int .i64 v.m, .int .i64 v.s]] (.agg [.int .i64 v.m, .int .i64 v.s]))] }
def E0 : Env := {}
def E32 (g : Nat) (a b : Rf) : Env := { ss := [(5, g, callS [a.dv] a.dv), (8, g, callS [b.dv] b.dv)] }
theorem vc31 (v : Vl) (Φ : DV → List Blk → Prop) : (vcF cfg (E31 62 v) 31 [v.dv] [] Φ) =
    ([DV.agg [DV.int IntKind.i64 v.m, DV.int IntKind.i64 v.s]] = [DV.agg [DV.int IntKind.i64 v.m, DV.int IntKind.i64 v.s]] ∧ Φ (Vl.dv v) []) := by kernel_rfl
theorem vc62 (m s : Int) (Φ : DV → List Blk → Prop) : (vcF cfg E0 62 [.agg [.int .i64 m, .int .i64 s]] [] Φ) =
    (Φ (DV.agg [DV.int IntKind.i64 m, DV.int IntKind.i64 s]) []) := by kernel_rfl
theorem vc32 (a b : Rf) (Φ : DV → List Blk → Prop) : (vcF cfg (E32 63 a b) 32 [.agg (a.cells ++ b.cells)] [] Φ) =
    ([Rf.dv a] = [Rf.dv a] ∧ [Rf.dv b] = [Rf.dv b] ∧ Φ (DV.agg [DV.int IntKind.i64 a.row, DV.int IntKind.i64 a.col, DV.bool a.rr, DV.bool a.rc, DV.int IntKind.i64 b.row, DV.int IntKind.i64 b.col, DV.bool b.rr, DV.bool b.rc]) []) := by kernel_rfl
theorem vc63 (a : Rf) (Φ : DV → List Blk → Prop) : (vcF cfg E0 63 [a.dv] [] Φ) =
    (Φ (Rf.dv a) []) := by kernel_rfl
section
variable {Pr Ow : Nat → List DV → DV → Prop}
theorem E0_ok : EnvOK cfg Pr Ow E0 := envOK trivial trivial trivial
theorem nt11 : ntOf cfg 11 = 37 := by kernel_rfl
theorem nd11 : nodupK (loops 0 (codeOf cfg 11)) = true := by kernel_rfl
theorem f62_ok (m s : Int) : SpecOK cfg Pr Ow 62 (callS [.agg [.int .i64 m, .int .i64 s]] (.agg [.int .i64 m, .int .i64 s])) := callS_ok fun Φ h =>
  fn_of0 E0_ok rfl (by rw [vc62]; exact h)
theorem f31_ok (v : Vl) : SpecOK cfg Pr Ow 31 (callS [v.dv] v.dv) := callS_ok fun Φ h =>
  fn_of0 (E := E31 62 v) (envOK ⟨f62_ok _ _, trivial⟩ trivial trivial) rfl (by rw [vc31]; exact ⟨rfl, h⟩)
theorem f63_ok (a : Rf) : SpecOK cfg Pr Ow 63 (callS [a.dv] a.dv) := callS_ok fun Φ h =>
  fn_of0 E0_ok rfl (by rw [vc63]; exact h)
theorem f32_ok (t : Tr) : SpecOK cfg Pr Ow 32 (callS [areas t] (areas t)) := callS_ok fun Φ h =>
  fn_of0 (E := E32 63 t.a t.b) (envOK trivial ⟨f63_ok _, f63_ok _, trivial⟩ trivial) rfl (by unfold areas; rw [vc32]; exact ⟨rfl, rfl, h⟩)

theorem loop11_1 {t : Tr} (hn : t.count ≤ 1000000) (ih : ∀ i, i < t.kids.length → ∀ Φ : DV → List Blk → Prop, Φ (kid t i).dv [] → GoC cfg Pr Ow 11 [(kid t i).dv] [] Φ) {K : Ex → St → Prop} (hK : K (.exit 0) (ex11_1 t t.kids.length)) :
    ∀ i, i ≤ t.kids.length → GoL cfg Pr Ow 11 37 (bodyOf cfg 11 0) (hd11_1 t i) K := by
  have hc := kids_count t
  refine count_loop (E := fun i => E11b 11 t i) (ks := [1, 2, 3, 4]) (bs := [1, 2, 3, 34]) (ks2 := [1, 2, 3]) (bs2 := [1, 2, 3, 34]) nt11 (fun i _ => envOK trivial ⟨callG_ok (ih i), trivial⟩ trivial) (fun _ => ⟨rfl, rfl⟩) ?_
  intro i hi L hL
  rw [vc11_1]
  refine brB_of (fun h => ?_) (fun h => ?_)
  · have hlt : i < t.kids.length := by simpa [Tr.encs_len] using h
    simp only [obB_iff, decide_eq_true_eq, Tr.encs_len, List.length_take]
    refine ⟨hlt, encs_kid hlt, hlt, trivial, by omega, roomy_of (by omega) (by omega), inR64 (by omega), ?_⟩
    rw [take_encs, encs_snoc hlt, ← cast_succ]
    exact hL hlt
  · simp only [decide_eq_false_iff_not, Tr.encs_len] at h
    obtain rfl : i = t.kids.length := by omega
    exact hK

theorem loop11_0 {t : Tr} (hn : t.count ≤ 1000000) (ih : ∀ i, i < t.kids.length → ∀ Φ : DV → List Blk → Prop, Φ (kid t i).dv [] → GoC cfg Pr Ow 11 [(kid t i).dv] [] Φ) {K : Ex → St → Prop} (hK : F11 t K) :
    GoL cfg Pr Ow 11 37 (bodyOf cfg 11 0) (hd11_0 t) K := by
  have hc := kids_count t
  unfold F11 at hK
  rw [brB_iff] at hK
  refine round_of (E := E11b 11 t 0) (L := fun st => 0 < t.kids.length ∧ st = hd11_1 t 1) (ks := [1, 2, 3, 4]) (bs := [1, 2, 3, 34]) (ks2 := [1, 2, 3]) (bs2 := [1, 2, 3, 34]) (envOK trivial ⟨callG_ok (ih 0), trivial⟩ trivial) nt11 rfl ?_ ?_
  · rw [vc11_0]
    refine brB_of (fun h => ?_) (fun h => ?_)
    · have hlt : 0 < t.kids.length := by simpa [Tr.encs_len] using h
      simp only [obB_iff, decide_eq_true_eq, Tr.encs_len]
      refine ⟨hlt, encs_kid hlt, hlt, trivial, hlt, ?_⟩
      have := encs_snoc hlt
      simp only [List.take_zero, Tr.encs, List.nil_append] at this
      rw [this]; rfl
    · simp only [decide_eq_false_iff_not, Tr.encs_len] at h
      exact hK.1 (by rw [List.isEmpty_iff, ← List.length_eq_zero_iff]; omega)
  · rintro _ ⟨h0, rfl⟩
    refine loop11_1 hn ih (hK.2 ?_) 1 h0
    cases hk : t.kids with
    | nil => rw [hk] at h0; simp at h0
    | cons _ _ => rfl

theorem to_go : ∀ (t : Tr), t.count ≤ 1000000 → ∀ Φ : DV → List Blk → Prop, Φ t.dv [] → GoC cfg Pr Ow 11 [t.dv] [] Φ := by
  intro t
  induction hm : t.count using Nat.strongRecOn generalizing t with
  | _ m ih =>
    subst hm
    intro hn Φ hΦ
    have ih' : ∀ i, i < t.kids.length → ∀ Φ : DV → List Blk → Prop, Φ (kid t i).dv [] → GoC cfg Pr Ow 11 [(kid t i).dv] [] Φ := fun i hi =>
      ih _ (kid_count hi) (kid t i) rfl (by have := kid_count hi; omega)
    refine go_wk (WkL.refl _) (fn_of (E := E11 31 32 t fun st => st = hd11_0 t) (envOK trivial ⟨f31_ok _, f32_ok _, trivial⟩ trivial) nt11 nd11 ?_ ?_)
    · intro b sp hl st k hs
      simp only [E11, look] at hl
      cases hb : Nat.beq b 0 with
      | false => rw [hb] at hl; simp at hl
      | true =>
        obtain rfl := Nat.eq_of_beq_eq_true hb
        simp only [Nat.beq_refl, cond_true, Option.some.injEq] at hl
        subst hl
        exact loopS_ok (fun st hst k hk => by subst hst; exact loop11_0 hn ih' hk) hs
    · rw [vc11]
      refine ⟨rfl, rfl, rfl, brB_of (fun h => ?_) (fun h => ?_)⟩
      · refine ⟨_, .inr (wk_cells t 18), ?_⟩
        have : t.kids = [] := by simpa using h
        have hd : t.dv = .agg (t.cellsK (.psl 18 [])) := by unfold Tr.dv Tr.cells; rw [this]; rfl
        rwa [← hd]
      · simp only [obB_iff, decide_eq_true_eq, Tr.encs_len, List.length_take, encs_all, take_all_encs]
        exact ⟨by omega, _, .inl rfl, hΦ⟩
end
end Go.Det.Sea
end

section
set_option linter.unusedVariables false
set_option linter.unusedSimpArgs false
namespace Go.Det.Sea
open Go Go.Det

theorem vc43 (x : DV) (es : List DV) (R : DV → Option Blk → Prop) : (vcO cfg E0 43 [.psl 18 (x :: es)] R) =
    (obB (roomy 152 (0 + List.length (x :: es))) (R (DV.rsl 7 18 0 (0 + List.length (x :: es))) (some (Blk.row (Ti.mk (Td.st [(0, (3 : TypeId)), (1, (42 : TypeId)), (7, (45 : TypeId)), (15, (3 : TypeId)), (16, (3 : TypeId)), (17, (46 : TypeId))]) 18 152 [DV.int IntKind.i64 (0 : Int), DV.int IntKind.i64 (0 : Int), DV.int IntKind.i64 (0 : Int), DV.int IntKind.i64 (0 : Int), DV.str [], DV.bool false, DV.int IntKind.i64 (0 : Int), DV.int IntKind.i64 (0 : Int), DV.int IntKind.i64 (0 : Int), DV.bool false, DV.bool false, DV.int IntKind.i64 (0 : Int), DV.int IntKind.i64 (0 : Int), DV.bool false, DV.bool false, DV.int IntKind.i64 (0 : Int), DV.int IntKind.i64 (0 : Int), DV.nilsl]).size (List.take 0 (List.drop 0 []) ++ x :: es))))) := by kernel_rfl
theorem mixed_ok : (Go.Proofs.Tryz.prog).follows .mixedOrders = true := by kernel_rfl
theorem cfgT : cfg.T = tys := by kernel_rfl
theorem cfgF : cfg.F = fiOf Go.Proofs.Tryz.prog := by kernel_rfl
theorem base_ok {Pr Ow : Nat → List DV → DV → Prop} (hp : ∀ g xs r, Pr g xs r → Callable Go.Proofs.Tryz.prog g ∧ CallOK Go.Proofs.Tryz.prog cfg g xs [] r []) (ho : ∀ g xs r, Ow g xs r → Callable Go.Proofs.Tryz.prog g ∧ OwnOK Go.Proofs.Tryz.prog cfg g xs r) : CfgOK Go.Proofs.Tryz.prog cfg Pr Ow := by
  refine ⟨?_, ?_, hp, ho, mixed_ok, fun _ _ _ _ _ _ h => (show False from h).elim⟩
  · rw [cfgT]; exact tys_ok
  · rw [cfgF]; exact fun _ _ h => fiOf_ok h
theorem clone_cons (x : DV) (es : List DV) (h : es.length ≤ 1000000) : Callable Go.Proofs.Tryz.prog 43 ∧ OwnOK Go.Proofs.Tryz.prog cfg 43 [.psl 18 (x :: es)] (.psl 18 (x :: es)) := by
  refine own_fn (base_ok (Pr := fun _ _ _ => False) (Ow := fun _ _ _ => False) (fun _ _ _ h => h.elim) (fun _ _ _ h => h.elim)) E0_ok (g := 43) rfl rfl ?_
  rw [vc43]
  refine obB_of (roomy_of (by simp; omega) (by simp; omega)) ⟨⟨7, by simp⟩, rfl⟩
end Go.Det.Sea
end

section
set_option linter.unusedVariables false
namespace Go.Proofs
open Go.RowKit Go.Lib
theorem clone0_nil (cap : Nat) (w : World) : Calls Tryz.prog 43 #[.slice none 0 cap] w fun e w' => e = .returned (.slice none 0 0) ∧ w' = w := by
  have q22 : ∀ (w : World) (a : Option Addr) (n c n' c' : Nat), (binOp .eql 46 (.slice a n c) (.slice none n' c')).run Tryz.prog w = .ok (.bool a.isNone) w := fun w a n c n' c' => Lib.run_eql_slice_nil w _ _ a n c n' c' Tryz.underlying46
  go_enter Tryz.func43, Tryz.ntmps43
  go_wp2
  go_ret
  exact ⟨rfl, rfl⟩
theorem info48 : (Tryz.prog.info? 48).map (fun i => (i.zero, i.size, i.bytes)) = some (some (.agg #[.int .i64 0, .int .i64 0, .int .i64 0, .int .i64 0, .string ⟨#[]⟩, .bool false, .int .i64 0, .int .i64 0, .int .i64 0, .bool false, .bool false, .int .i64 0, .int .i64 0, .bool false, .bool false, .int .i64 0, .int .i64 0, .slice none 0 0]), 18, 152) := by kernel_rfl
set_option maxHeartbeats 2000000 in
set_option maxRecDepth 100000 in
theorem clone0_some (ad : Addr) (cap : Nat) (w : World) : Calls Tryz.prog 43 #[.slice (some ad) 0 cap] w fun e w' => ∃ v', e = .returned v' ∧ w'.ownsRow w.heap.size 48 18 v' 0 [] ∧ Below w.heap.size w w' := by
  obtain ⟨i0, hi, hz0, hz1, hz2⟩ := info_parts info48
  have t46 := Tryz.underlying46
  have q22 : ∀ (w : World) (a : Option Addr) (n c n' c' : Nat), (binOp .eql 46 (.slice a n c) (.slice none n' c')).run Tryz.prog w = .ok (.bool a.isNone) w := fun w a n c n' c' => Lib.run_eql_slice_nil w _ _ a n c n' c' Tryz.underlying46
  have u46 : ∀ w, Sem.run Tryz.prog (underlying 46) w = .ok (TypeDesc.slice 48) w := run_underlying t46
  go_enter Tryz.func43, Tryz.ntmps43
  go_wp2_with (at_builtin; refine wpList_append_own _ rfl _ _ 46 rfl w.heap.size 48 i0 _ 18 152 t46 hi hz0 hz1 hz2 rfl (by decide) _ _ _ rfl (World.ownsRow_made w #[] 0 (Nat.le_refl _) (Nat.zero_le _) rfl) ad 0 cap [] rfl ?qc1 ?qc2 ?qc3 ?qc4 ?qc5 ?qc6 ?_)
  case qc1 => rfl
  case qc2 => intro j u hj; simp at hj
  case qc3 => intro u hu; simp at hu
  case qc4 => unfold maxLen; omega
  case qc5 => omega
  case qc6 => simp
  intro v' w1 hown hgrow hnil
  go_wp2
  go_ret
  refine ⟨v', rfl, by simpa using hown, ?_⟩
  exact ((Below.refl _ w).alloc (Nat.le_refl _) _).grown hgrow (by simp) (by intro k hk; simp [Value.ownBlock] at hk; omega)
end Go.Proofs
namespace Go.Det.Sea
open Go Go.Det Go.Proofs Go.RowKit
theorem evo_below {w w' : World} (h : Below w.heap.size w w') : Evo [] w w' := ⟨h.os, h.tape, h.output, h.size, fun r hr _ => h.block r hr⟩
theorem ro_below {m : Ro} {w w' : World} (hr : RoOK m w) (h : Below w.heap.size w w') : RoOK m w' := by
  refine ⟨fun r c hc => ?_, fun r x hx => ?_⟩
  · obtain ⟨el, fr, h1⟩ := hr.1 r c hc
    exact ⟨el, fr, by rw [h.block r (Array.getElem?_eq_some_iff.1 h1).1]; exact h1⟩
  · obtain ⟨h1, h2⟩ := hr.2 r x hx
    exact ⟨by rw [h.block r (Array.getElem?_eq_some_iff.1 h1).1]; exact h1, h2⟩
theorem clone_nil : Callable Go.Proofs.Tryz.prog 43 ∧ OwnOK Go.Proofs.Tryz.prog cfg 43 [.psl 18 []] (.psl 18 []) := by
  refine ⟨⟨Go.Proofs.Tryz.f43, Go.Proofs.Tryz.func43, by kernel_rfl, of_decide_eq_true (by kernel_rfl)⟩, rfl, ?_⟩
  intro ρ m w vals hG hro hx
  simp only [VRL] at hx
  obtain ⟨v, r, hv, hvr, rfl⟩ := hx
  have hvals : vals = #[v] := by
    cases vals with | mk l => simp at hv; simp [hv]
  subst hvals
  simp only [VR] at hvr
  obtain ⟨a, cap, h1, rfl, h2, _⟩ := hvr
  cases a with
  | none =>
    refine (Go.Proofs.clone0_nil cap w).mono ?_
    rintro e w' ⟨rfl, rfl⟩
    refine ⟨_, m, rfl, hro, Grows.refl _ _, Evo.refl _ _, ?_⟩
    simp only [VR]
    exact ⟨none, 0, Nat.le_refl _, rfl, rfl, .inl trivial⟩
  | some ad =>
    refine (Go.Proofs.clone0_some ad cap w).mono ?_
    rintro e w' ⟨v', rfl, hown, hb⟩
    refine ⟨_, m, rfl, ro_below hro hb, Grows.refl _ _, evo_below hb, ?_⟩
    simp only [VR]
    obtain ⟨_, hown⟩ := hown
    rcases hown with ⟨rfl, _⟩ | ⟨g, cap', cur, rfl, _⟩
    · exact ⟨none, 0, Nat.le_refl _, rfl, rfl, .inl trivial⟩
    · exact ⟨_, cap', Nat.zero_le _, rfl, rfl, .inl trivial⟩
/-- What slices.Clone does. -/
def owS (g : Nat) (xs : List DV) (r : DV) : Prop := g = 43 ∧ ∃ es : List DV, es.length ≤ 1000000 ∧ xs = [.psl 18 es] ∧ r = .psl 18 es
theorem owS_ok : ∀ g xs r, owS g xs r → Callable Go.Proofs.Tryz.prog g ∧ OwnOK Go.Proofs.Tryz.prog cfg g xs r := by
  rintro g xs r ⟨rfl, es, hl, rfl, rfl⟩
  cases es with
  | nil => exact clone_nil
  | cons x es => exact clone_cons x es (by simp at hl; omega)
end Go.Det.Sea
end

section
set_option linter.unusedVariables false
set_option linter.unusedSimpArgs false
namespace Go.Det.Sea
open Go Go.Det Go.Proofs

/-! Arguments, read. -/
/-- All cells of a world, taken as sealed. -/
def allM (W : World) : Ro := ⟨fun r => match W.heap[r]? with
  | some (.cells c _ _) => some c
  | _ => none, fun _ => none⟩
theorem allM_ok (W : World) : RoOK (allM W) W := by
  refine ⟨fun r c h => ?_, fun r x h => by cases h⟩
  simp only [allM] at h
  split at h
  · rename_i c' el fr hh
    simp only [Option.some.injEq] at h; subst h
    exact ⟨el, fr, hh⟩
  · cases h

theorem l2 {cs : List Value} (h : cs.length = 2) : ∃ c0 c1, cs = [c0, c1] := by
  match cs, h with
  | [c0, c1], _ => exact ⟨c0, c1, rfl⟩
theorem l4 {cs : List Value} (h : cs.length = 4) : ∃ c0 c1 c2 c3, cs = [c0, c1, c2, c3] := by
  match cs, h with
  | [c0, c1, c2, c3], _ => exact ⟨c0, c1, c2, c3, rfl⟩
theorem l6 {cs : List Value} (h : cs.length = 6) : ∃ c0 c1 c2 c3 c4 c5, cs = [c0, c1, c2, c3, c4, c5] := by
  match cs, h with
  | [c0, c1, c2, c3, c4, c5], _ => exact ⟨c0, c1, c2, c3, c4, c5, rfl⟩
theorem l8 {cs : List Value} (h : cs.length = 8) : ∃ c0 c1 c2 c3 c4 c5 c6 c7, cs = [c0, c1, c2, c3, c4, c5, c6, c7] := by
  match cs, h with
  | [c0, c1, c2, c3, c4, c5, c6, c7], _ => exact ⟨c0, c1, c2, c3, c4, c5, c6, c7, rfl⟩
theorem l18 {cs : List Value} (h : cs.length = 18) : ∃ c0 c1 c2 c3 c4 c5 c6 c7 c8 c9 c10 c11 c12 c13 c14 c15 c16 c17, cs = [c0, c1, c2, c3, c4, c5, c6, c7, c8, c9, c10, c11, c12, c13, c14, c15, c16, c17] := by
  match cs, h with
  | [c0, c1, c2, c3, c4, c5, c6, c7, c8, c9, c10, c11, c12, c13, c14, c15, c16, c17], _ => exact ⟨c0, c1, c2, c3, c4, c5, c6, c7, c8, c9, c10, c11, c12, c13, c14, c15, c16, c17, rfl⟩
section
variable {H : Type} {enc : TypeId × Value → H} {W : World} {sp : Nat → Bool} {hd : Bool}
theorem cells3 : Tryz.prog.cellsOf 3 = 1 := by kernel_rfl
theorem cells2 : Tryz.prog.cellsOf 2 = 1 := by kernel_rfl
theorem cells4 : Tryz.prog.cellsOf 4 = 1 := by kernel_rfl
theorem cells9 : Tryz.prog.cellsOf 9 = 1 := by kernel_rfl
theorem cells23 : Tryz.prog.cellsOf 23 = 2 := by kernel_rfl
theorem cells25 : Tryz.prog.cellsOf 25 = 6 := by kernel_rfl
theorem cells27 : Tryz.prog.cellsOf 27 = 4 := by kernel_rfl
theorem cells29 : Tryz.prog.cellsOf 29 = 8 := by kernel_rfl
theorem cells30 : Tryz.prog.cellsOf 30 = 1 := by kernel_rfl
theorem cells32 : Tryz.prog.cellsOf 32 = 18 := by kernel_rfl
theorem rd3 {n : Nat} {cs : List Value} {x : DataW H × List MemPlace} (h : DataW.trod enc Tryz.prog W 0 sp hd n 3 cs = some x) : ∃ k, cs = [.int .i64 k] := let ⟨k, e, _⟩ := DataW.trod_int Tryz.underlying3 h; ⟨k, e⟩
theorem rd2 {n : Nat} {cs : List Value} {x : DataW H × List MemPlace} (h : DataW.trod enc Tryz.prog W 0 sp hd n 2 cs = some x) : ∃ k, cs = [.int .i64 k] := let ⟨k, e, _⟩ := DataW.trod_int Tryz.underlying2 h; ⟨k, e⟩
theorem rd4 {n : Nat} {cs : List Value} {x : DataW H × List MemPlace} (h : DataW.trod enc Tryz.prog W 0 sp hd n 4 cs = some x) : ∃ b, cs = [.bool b] := let ⟨k, e, _⟩ := DataW.trod_bool Tryz.underlying4 h; ⟨k, e⟩
theorem rd9 {n : Nat} {cs : List Value} {x : DataW H × List MemPlace} (h : DataW.trod enc Tryz.prog W 0 sp hd n 9 cs = some x) : ∃ s : List UInt8, cs = [.string ⟨s.toArray⟩] := let ⟨k, e, _⟩ := DataW.trod_string Tryz.underlying9 h; ⟨k.data.toList, by simpa using e⟩
theorem at_some {α : Type} {xs : List α} {k i : Nat} (h : xs.length = k) (hi : i < k) : ∃ y, xs[i]? = some y := ⟨xs[i]'(by omega), List.getElem?_eq_getElem (by omega)⟩
theorem fld {α : Type} {xs : List α} {k i : Nat} {a : Option α} (h : xs.length = k) (hi : i < k) (e : a = xs[i]?) : ∃ y, a = some y := let ⟨y, hy⟩ := at_some h hi; ⟨y, e.trans hy⟩

theorem rd27 {n : Nat} {cs : List Value} {x : DataW H × List MemPlace} (h : DataW.trod enc Tryz.prog W 0 sp hd n 27 cs = some x) : ∃ r : Rf, cs = [.int .i64 r.row, .int .i64 r.col, .bool r.rr, .bool r.rc] := by
  obtain ⟨xs, n, rfl, rfl, hl, hx, hf⟩ := DataW.trod_struct Tryz.underlying27 h
  rw [cells27] at hl
  obtain ⟨c0, c1, c2, c3, rfl⟩ := l4 hl
  obtain ⟨y0, h0⟩ := fld hx (by decide) (hf 0 _ rfl)
  obtain ⟨y1, h1⟩ := fld hx (by decide) (hf 1 _ rfl)
  obtain ⟨y2, h2⟩ := fld hx (by decide) (hf 2 _ rfl)
  obtain ⟨y3, h3⟩ := fld hx (by decide) (hf 3 _ rfl)
  simp [cells3, cells4] at h0 h1 h2 h3
  obtain ⟨k0, e0⟩ := rd3 h0
  obtain ⟨k1, e1⟩ := rd3 h1
  obtain ⟨k2, e2⟩ := rd4 h2
  obtain ⟨k3, e3⟩ := rd4 h3
  simp at e0 e1 e2 e3
  subst e0 e1 e2 e3
  exact ⟨⟨k0, k1, k2, k3⟩, rfl⟩
theorem rd29 {n : Nat} {cs : List Value} {x : DataW H × List MemPlace} (h : DataW.trod enc Tryz.prog W 0 sp hd n 29 cs = some x) : ∃ a b : Rf, cs = [.int .i64 a.row, .int .i64 a.col, .bool a.rr, .bool a.rc, .int .i64 b.row, .int .i64 b.col, .bool b.rr, .bool b.rc] := by
  obtain ⟨xs, n, rfl, rfl, hl, hx, hf⟩ := DataW.trod_struct Tryz.underlying29 h
  rw [cells29] at hl
  obtain ⟨c0, c1, c2, c3, c4, c5, c6, c7, rfl⟩ := l8 hl
  obtain ⟨y0, h0⟩ := fld hx (by decide) (hf 0 _ rfl)
  obtain ⟨y1, h1⟩ := fld hx (by decide) (hf 1 _ rfl)
  simp [cells27] at h0 h1
  obtain ⟨a, e0⟩ := rd27 h0
  obtain ⟨b, e1⟩ := rd27 h1
  simp at e0 e1
  obtain ⟨rfl, rfl, rfl, rfl⟩ := e0
  obtain ⟨rfl, rfl, rfl, rfl⟩ := e1
  exact ⟨a, b, rfl⟩
theorem rd23 {n : Nat} {cs : List Value} {x : DataW H × List MemPlace} (h : DataW.trod enc Tryz.prog W 0 sp hd n 23 cs = some x) : ∃ m s, cs = [.int .i64 m, .int .i64 s] := by
  obtain ⟨xs, n, rfl, rfl, hl, hx, hf⟩ := DataW.trod_struct Tryz.underlying23 h
  rw [cells23] at hl
  obtain ⟨c0, c1, rfl⟩ := l2 hl
  obtain ⟨y0, h0⟩ := fld hx (by decide) (hf 0 _ rfl)
  obtain ⟨y1, h1⟩ := fld hx (by decide) (hf 1 _ rfl)
  simp [cells2, cells3] at h0 h1
  obtain ⟨a, e0⟩ := rd2 h0
  obtain ⟨b, e1⟩ := rd3 h1
  simp at e0 e1
  subst e0 e1
  exact ⟨a, b, rfl⟩
theorem rd25 {n : Nat} {cs : List Value} {x : DataW H × List MemPlace} (h : DataW.trod enc Tryz.prog W 0 sp hd n 25 cs = some x) : ∃ v : Vl, cs = [.int .i64 v.kind, .int .i64 v.m, .int .i64 v.s, .string ⟨v.txt.toArray⟩, .bool v.b, .int .i64 v.e] := by
  obtain ⟨xs, n, rfl, rfl, hl, hx, hf⟩ := DataW.trod_struct Tryz.underlying25 h
  rw [cells25] at hl
  obtain ⟨c0, c1, c2, c3, c4, c5, rfl⟩ := l6 hl
  obtain ⟨y0, h0⟩ := fld hx (by decide) (hf 0 _ rfl)
  obtain ⟨y1, h1⟩ := fld hx (by decide) (hf 1 _ rfl)
  obtain ⟨y2, h2⟩ := fld hx (by decide) (hf 2 _ rfl)
  obtain ⟨y3, h3⟩ := fld hx (by decide) (hf 3 _ rfl)
  obtain ⟨y4, h4⟩ := fld hx (by decide) (hf 4 _ rfl)
  simp [cells3, cells23, cells9, cells4] at h0 h1 h2 h3 h4
  obtain ⟨k0, e0⟩ := rd3 h0
  obtain ⟨k1, k1', e1⟩ := rd23 h1
  obtain ⟨k2, e2⟩ := rd9 h2
  obtain ⟨k3, e3⟩ := rd4 h3
  obtain ⟨k4, e4⟩ := rd3 h4
  simp at e0 e1 e2 e3 e4
  obtain ⟨rfl, rfl⟩ := e1
  subst e0 e2 e3 e4
  exact ⟨⟨k0, k1, k1', k2, k3, k4⟩, rfl⟩
theorem one_int (k : IntKind) (n : Int) : (Value.int k n).oneCell' = true := rfl

theorem cells_at {W : World} {a : Addr} {n : Nat} {cs : List Value} (h : W.cells? 0 a n = some cs) (hn : 0 < n) : a.spot = none ∧ cs.length = n ∧ ∃ c el fr, W.heap[a.block]? = some (.cells c el fr) ∧ ∀ j u, cs[j]? = some u → c[a.off + j]? = some u := by
  unfold World.cells? at h
  rw [if_pos (Nat.zero_le _)] at h
  have hlen : cs.length = n := by have := mapM_some_length h; simpa using this
  have hget : ∀ i, i < n → W.cell? (a.add i) = cs[i]? := fun i hi => mapM_some_get h i i (by simp [hi])
  have h0 := hget 0 hn
  have hs : a.spot = none ∧ ∃ c el fr, W.heap[a.block]? = some (.cells c el fr) := by
    obtain ⟨u, hu⟩ := at_some hlen hn
    rw [hu] at h0
    simp only [Addr.add, if_true, World.cell?] at h0
    split at h0
    · rename_i c el fr hc
      split at h0
      · cases h0
      · rename_i hh; exact ⟨by simpa using hh, c, el, fr, hc⟩
    · cases h0
  obtain ⟨hs, c, el, fr, hc⟩ := hs
  refine ⟨hs, hlen, c, el, fr, hc, fun j u hj => ?_⟩
  have hj' : j < n := by rw [← hlen]; exact (List.getElem?_eq_some_iff.1 hj).1
  have := hget j hj'
  rw [hj] at this
  unfold Addr.add at this
  split at this
  · rename_i e; subst e
    simp only [World.cell?, hc, hs] at this
    simpa using this
  · simp only [World.cell?, hc] at this
    simpa using this

theorem ments_encs : ∀ ts : List Tr, mentsL (Tr.encs ts) = []
  | [] => rfl
  | t :: ts => by
    have h1 : (Tr.enc t).ments = [] := by rw [Tr.enc_eq]; rfl
    simp only [Tr.encs, mentsL, h1, ments_encs ts, List.append_nil]
theorem choose_list {P : Nat → Tr → Prop} : ∀ (n : Nat), (∀ i, i < n → ∃ t, P i t) → ∃ ts : List Tr, ts.length = n ∧ ∀ i, i < n → P i (ts.getD i default)
  | 0, _ => ⟨[], rfl, fun i hi => by omega⟩
  | n + 1, h => by
    obtain ⟨ts, h1, h2⟩ := choose_list n fun i hi => h i (by omega)
    obtain ⟨t, ht⟩ := h n (by omega)
    refine ⟨ts ++ [t], by simp [h1], fun i hi => ?_⟩
    rw [List.getD_eq_getElem?_getD]
    by_cases e : i < n
    · rw [List.getElem?_append_left (by omega), ← List.getD_eq_getElem?_getD]; exact h2 i e
    · have : i = n := by omega
      subst this
      rw [List.getElem?_append_right (by omega), h1]
      simpa using ht

set_option maxHeartbeats 1000000 in
/-- A tree, read. -/
theorem rd32 (ρ : Rho) : ∀ (n : Nat) (cs : List Value) (x : DataW H × List MemPlace), DataW.trod enc Tryz.prog W 0 sp hd n 32 cs = some x → ∃ t : Tr, VRL ρ (allM W) t.cells cs ∧ cs.length = 18 ∧ ∀ u ∈ cs, u.oneCell' = true := by
  intro n
  induction n with
  | zero => intro cs x h; simp [DataW.trod] at h
  | succ n0 ih =>
  intro cs x h
  obtain ⟨xs, n, hn, rfl, hl, hx, hf⟩ := DataW.trod_struct Tryz.underlying32 h
  obtain rfl : n0 = n := by omega
  rw [cells32] at hl
  obtain ⟨c0, c1, c2, c3, c4, c5, c6, c7, c8, c9, c10, c11, c12, c13, c14, c15, c16, c17, rfl⟩ := l18 hl
  obtain ⟨y0, h0⟩ := fld hx (by decide) (hf 0 _ rfl)
  obtain ⟨y1, h1⟩ := fld hx (by decide) (hf 1 _ rfl)
  obtain ⟨y2, h2⟩ := fld hx (by decide) (hf 2 _ rfl)
  obtain ⟨y3, h3⟩ := fld hx (by decide) (hf 3 _ rfl)
  obtain ⟨y4, h4⟩ := fld hx (by decide) (hf 4 _ rfl)
  obtain ⟨y5, h5⟩ := fld hx (by decide) (hf 5 _ rfl)
  simp [cells3, cells25, cells29, cells30] at h0 h1 h2 h3 h4 h5
  obtain ⟨k0, e0⟩ := rd3 h0
  obtain ⟨v, e1⟩ := rd25 h1
  obtain ⟨a, b, e2⟩ := rd29 h2
  obtain ⟨k3, e3⟩ := rd3 h3
  obtain ⟨k4, e4⟩ := rd3 h4
  simp at e0 e1 e2 e3 e4
  obtain ⟨rfl, rfl, rfl, rfl, rfl, rfl⟩ := e1
  obtain ⟨rfl, rfl, rfl, rfl, rfl, rfl, rfl, rfl⟩ := e2
  subst e0 e3 e4
  have hk : ∃ ts : List Tr, VR ρ (allM W) (.psl 18 (Tr.encs ts)) c17 ∧ c17.oneCell' = true := by
    rcases DataW.trod_slice Tryz.underlying30 h5 with ⟨e5, _⟩ | ⟨ad, len, cap, elems, rest, n', _, e5, _, _, hlc, _, hlen, hel, _, _⟩
    · simp at e5; subst e5
      refine ⟨[], ?_, rfl⟩
      simp only [VR]
      exact ⟨none, 0, Nat.le_refl _, rfl, rfl, .inl rfl⟩
    · simp at e5; subst e5
      have hP : ∀ i, i < len → ∃ t : Tr, ∃ cs', W.cells? 0 (ad.add (i * 18)) 18 = some cs' ∧ VRL ρ (allM W) t.cells cs' ∧ cs'.length = 18 ∧ ∀ u ∈ cs', u.oneCell' = true := by
        intro i hi
        obtain ⟨y, hy⟩ := at_some hlen hi
        have := (hel i hi).trans hy
        rw [cells32] at this
        obtain ⟨cs', k1, k2⟩ := Option.bind_eq_some_iff.1 this
        obtain ⟨t, q1, q2, q3⟩ := ih cs' y (DataW.trod_le (by omega) k2)
        exact ⟨t, cs', k1, q1, q2, q3⟩
      obtain ⟨ts, htl, hts⟩ := choose_list len hP
      have hel' : (Tr.encs ts).length = len := by rw [Tr.encs_eq, List.length_map, htl]
      refine ⟨ts, ?_, rfl⟩
      simp only [VR]
      refine ⟨some ad, cap, by omega, by rw [hel'], ments_encs ts, ?_⟩
      cases len with
      | zero =>
        have : ts = [] := List.length_eq_zero_iff.1 htl
        subst this
        exact .inl rfl
      | succ len =>
        right
        obtain ⟨cs0, k1, k2, k3, k4⟩ := hts 0 (by omega)
        have hz : ad.add (0 * 18) = ad := by simp [Addr.add]
        rw [hz] at k1
        obtain ⟨hs, _, c, el, fr, hc, _⟩ := cells_at k1 (by omega)
        have hm : (allM W) ad.block = some c := by simp [allM, hc]
        refine ⟨ad.block, ad.off, c, hm, by cases ad; simp at hs; simp [hs], VRE.of_get fun i x hx => ?_⟩
        have hi : i < len + 1 := by rw [← hel']; exact (List.getElem?_eq_some_iff.1 hx).1
        obtain ⟨cs', q1, q2, q3, q4⟩ := hts i hi
        have hx' : x = (ts.getD i default).dv := by
          have := Tr.encs_get (l := ts) (i := i) (by omega)
          rw [this] at hx
          exact (Option.some.inj hx).symm
        subst hx'
        obtain ⟨_, _, c2, el2, fr2, hc2, hcells⟩ := cells_at q1 (by omega)
        have hb : (ad.add (i * 18)).block = ad.block := by unfold Addr.add; split <;> rfl
        have ho : (ad.add (i * 18)).off = ad.off + i * 18 := by
          unfold Addr.add
          split
          · rename_i e; omega
          · rfl
        rw [hb, hc] at hc2
        cases hc2
        refine ⟨.agg cs'.toArray, ?_, by simp [Value.cells, q3], by simpa [Value.cells] using q4, fun j u hj => ?_⟩
        · simp only [Tr.dv, VR]
          exact ⟨cs'.toArray, rfl, by simpa using q2, by simpa using q4⟩
        · rw [← ho]
          exact hcells j u (by simpa [Value.cells] using hj)
  obtain ⟨ts, hts, hone⟩ := hk
  refine ⟨.mk k0 v a b k3 k4 ts, ?_, rfl, ?_⟩
  · simp only [Tr.cells, Tr.cellsK, Tr.kind, Tr.v, Tr.a, Tr.b, Tr.sheet, Tr.op, Tr.kids, VRL]
    refine ⟨_, _, rfl, by simp only [VR], _, _, rfl, by simp only [VR], _, _, rfl, by simp only [VR], _, _, rfl, by simp only [VR], _, _, rfl, by simp only [VR], _, _, rfl, by simp only [VR], _, _, rfl, by simp only [VR], _, _, rfl, by simp only [VR], _, _, rfl, by simp only [VR], _, _, rfl, by simp only [VR], _, _, rfl, by simp only [VR], _, _, rfl, by simp only [VR], _, _, rfl, by simp only [VR], _, _, rfl, by simp only [VR], _, _, rfl, by simp only [VR], _, _, rfl, by simp only [VR], _, _, rfl, by simp only [VR], _, _, rfl, hts, rfl⟩
  · intro u hu
    simp at hu
    rcases hu with rfl | rfl | rfl | rfl | rfl | rfl | rfl | rfl | rfl | rfl | rfl | rfl | rfl | rfl | rfl | rfl | rfl | rfl <;> first | rfl | exact hone
end
end Go.Det.Sea
end

section
set_option linter.unusedVariables false
set_option linter.unusedSimpArgs false
namespace Go.Det.Sea
open Go Go.Det

def hd18_0 (t : Tr) : St := mkS 37 [(1, .ptr 1 18 0 0), (2, .ptr 2 18 0 0), (3, .ptr 3 18 0 0), (4, .int .i64 0)] [(1, .box t.cells), (2, .box zeroE), (3, .box (t.cellsK .nilsl))] []
def hd18_1 (t : Tr) (i : Nat) : St := mkS 37 [(1, .ptr 1 18 0 0), (2, .ptr 2 18 0 0), (3, .ptr 3 18 0 0), (4, .int .i64 i)] [(1, .box t.cells), (2, .box zeroE), (3, .box (t.cellsK (.rsl 34 18 0 i))), (34, .row 18 (Tr.encs (t.kids.take i)))] []
def ex18_0 (t : Tr) : St := mkS 37 [(1, .ptr 1 18 0 0), (2, .ptr 2 18 0 0), (3, .ptr 3 18 0 0)] [(1, .box t.cells), (2, .box zeroE), (3, .box (t.cellsK .nilsl))] []
def ex18_1 (t : Tr) (i : Nat) : St := mkS 37 [(1, .ptr 1 18 0 0), (2, .ptr 2 18 0 0), (3, .ptr 3 18 0 0)] [(1, .box t.cells), (2, .box zeroE), (3, .box (t.cellsK (.rsl 34 18 0 i))), (34, .row 18 (Tr.encs (t.kids.take i)))] []
def F18 (t : Tr) (k : Ex → St → Prop) : Prop := brB (t.kids.isEmpty) (k (.exit 0) (ex18_0 t)) (k (.exit 0) (ex18_1 t t.kids.length))
def E18b (g : Nat) (t : Tr) (i : Nat) : Env := { ss := [(32, g, callG (i < t.kids.length) [(kid t i).dv] (kid t i).dv)], an := [(31, (kid t i).dv)] }
def E18 (gv ga : Nat) (t : Tr) (L : St → Prop) : Env := { ss := [(9, gv, callS [t.v.dv] t.v.dv), (12, ga, callS [areas t] (areas t))], ls := [(0, loopS [1, 2, 3, 4] [1, 2, 3, 34] 37 L (F18 t))] }
theorem vc18 (t : Tr) (L : St → Prop) (Φ : DV → List Blk → Prop) : (vcF cfg (E18 41 42 t L) 18 [t.dv] [] Φ) =
    ([Vl.dv (Tr.v t)] = [Vl.dv (Tr.v t)] ∧ [DV.agg [DV.int IntKind.i64 (Tr.a t).row, DV.int IntKind.i64 (Tr.a t).col, DV.bool (Tr.a t).rr, DV.bool (Tr.a t).rc, DV.int IntKind.i64 (Tr.b t).row, DV.int IntKind.i64 (Tr.b t).col, DV.bool (Tr.b t).rr, DV.bool (Tr.b t).rc]] = [DV.agg [DV.int IntKind.i64 (Tr.a t).row, DV.int IntKind.i64 (Tr.a t).col, DV.bool (Tr.a t).rr, DV.bool (Tr.a t).rc, DV.int IntKind.i64 (Tr.b t).row, DV.int IntKind.i64 (Tr.b t).col, DV.bool (Tr.b t).rr, DV.bool (Tr.b t).rc]] ∧ L (mkS 37 [(1, DV.ptr 1 18 0 0), (2, DV.ptr 2 18 0 0), (3, DV.ptr 3 18 0 0), (4, DV.int IntKind.i64 (0 : Int))] [(1, Blk.box (Tr.cells t)), (2, Blk.box zeroE), (3, Blk.box (Tr.cellsK t DV.nilsl))] []) ∧ brB (List.isEmpty (Tr.kids t)) (Φ (DV.agg (Tr.cellsK t DV.nilsl)) []) (obB (decide (0 + List.length (Tr.kids t) ≤ List.length (Tr.encs (List.take (List.length (Tr.kids t)) (Tr.kids t))))) (Φ (DV.agg (Tr.cellsK t (DV.psl 18 (List.take (List.length (Tr.kids t)) (Tr.encs (List.take (List.length (Tr.kids t)) (Tr.kids t))))))) []))) := by kernel_rfl
theorem vc18_0 (t : Tr) (L : St → Prop) (K : Ex → St → Prop) : (vcB cfg (E18b 18 t 0) 18 0 (hd18_0 t) (bodyK L [1, 2, 3, 4] [1, 2, 3, 34] [1, 2, 3] [1, 2, 3, 34] 37 K)) =
    (brB (decide ((0 : Int) < (↑(List.length (Tr.encs (Tr.kids t))) : Int))) (obB (decide (0 < List.length (Tr.encs (Tr.kids t)))) ((Tr.encs (Tr.kids t))[Int.toNat (0 : Int)]? = some (Tr.dv (kid t 0)) ∧ 0 < List.length (Tr.kids t) ∧ [Tr.dv (kid t 0)] = [Tr.dv (kid t 0)] ∧ L (mkS 37 [(1, DV.ptr 1 18 0 0), (2, DV.ptr 2 18 0 0), (3, DV.ptr 3 18 0 0), (4, DV.int IntKind.i64 (1 : Int))] [(1, Blk.box (Tr.cells t)), (2, Blk.box zeroE), (3, Blk.box (Tr.cellsK t (DV.rsl 34 18 0 1))), (34, Blk.row 18 [Tr.dv (kid t 0)])] []))) (K (Ex.exit 0) (mkS 37 [(1, DV.ptr 1 18 0 0), (2, DV.ptr 2 18 0 0), (3, DV.ptr 3 18 0 0)] [(1, Blk.box (Tr.cells t)), (2, Blk.box zeroE), (3, Blk.box (Tr.cellsK t DV.nilsl))] []))) := by kernel_rfl
theorem vc18_1 (t : Tr) (i : Nat) (L : St → Prop) (K : Ex → St → Prop) : (vcB cfg (E18b 18 t i) 18 0 (hd18_1 t i) (bodyK L [1, 2, 3, 4] [1, 2, 3, 34] [1, 2, 3] [1, 2, 3, 34] 37 K)) =
    (brB (decide ((↑i : Int) < (↑(List.length (Tr.encs (Tr.kids t))) : Int))) (obB (decide (i < List.length (Tr.encs (Tr.kids t)))) ((Tr.encs (Tr.kids t))[Int.toNat (↑i : Int)]? = some (Tr.dv (kid t i)) ∧ i < List.length (Tr.kids t) ∧ [Tr.dv (kid t i)] = [Tr.dv (kid t i)] ∧ obB (decide (0 + i ≤ List.length (Tr.encs (List.take i (Tr.kids t))))) (obB (roomy 152 (i + 1)) (obB (inR IntKind.i64 ((↑i : Int) + (1 : Int))) (L (mkS 37 [(1, DV.ptr 1 18 0 0), (2, DV.ptr 2 18 0 0), (3, DV.ptr 3 18 0 0), (4, DV.int IntKind.i64 ((↑i : Int) + (1 : Int)))] [(1, Blk.box (Tr.cells t)), (2, Blk.box zeroE), (3, Blk.box (Tr.cellsK t (DV.rsl 34 18 0 (i + 1)))), (34, Blk.row 18 (List.take i (Tr.encs (List.take i (Tr.kids t))) ++ [Tr.dv (kid t i)]))] [])))))) (K (Ex.exit 0) (mkS 37 [(1, DV.ptr 1 18 0 0), (2, DV.ptr 2 18 0 0), (3, DV.ptr 3 18 0 0)] [(1, Blk.box (Tr.cells t)), (2, Blk.box zeroE), (3, Blk.box (Tr.cellsK t (DV.rsl 34 18 0 i))), (34, Blk.row 18 (Tr.encs (List.take i (Tr.kids t))))] []))) := by kernel_rfl
def E41 (g : Nat) (v : Vl) : Env := { cs := [(g, callS [.agg [.int .i64 v.m, .int .i64 v.s]] (.agg [.int .i64 v.m, .int .i64 v.s]))] }
def E42 (g : Nat) (a b : Rf) : Env := { ss := [(5, g, callS [a.dv] a.dv), (8, g, callS [b.dv] b.dv)] }
theorem vc41 (v : Vl) (Φ : DV → List Blk → Prop) : (vcF cfg (E41 81 v) 41 [v.dv] [] Φ) =
    ([DV.agg [DV.int IntKind.i64 v.m, DV.int IntKind.i64 v.s]] = [DV.agg [DV.int IntKind.i64 v.m, DV.int IntKind.i64 v.s]] ∧ Φ (Vl.dv v) []) := by kernel_rfl
theorem vc81 (m s : Int) (Φ : DV → List Blk → Prop) : (vcF cfg E0 81 [.agg [.int .i64 m, .int .i64 s]] [] Φ) =
    (Φ (DV.agg [DV.int IntKind.i64 m, DV.int IntKind.i64 s]) []) := by kernel_rfl
theorem vc42 (a b : Rf) (Φ : DV → List Blk → Prop) : (vcF cfg (E42 82 a b) 42 [.agg (a.cells ++ b.cells)] [] Φ) =
    ([Rf.dv a] = [Rf.dv a] ∧ [Rf.dv b] = [Rf.dv b] ∧ Φ (DV.agg [DV.int IntKind.i64 a.row, DV.int IntKind.i64 a.col, DV.bool a.rr, DV.bool a.rc, DV.int IntKind.i64 b.row, DV.int IntKind.i64 b.col, DV.bool b.rr, DV.bool b.rc]) []) := by kernel_rfl
theorem vc82 (a : Rf) (Φ : DV → List Blk → Prop) : (vcF cfg E0 82 [a.dv] [] Φ) =
    (Φ (Rf.dv a) []) := by kernel_rfl
section
variable {Pr Ow : Nat → List DV → DV → Prop}
theorem nt18 : ntOf cfg 18 = 37 := by kernel_rfl
theorem nd18 : nodupK (loops 0 (codeOf cfg 18)) = true := by kernel_rfl
theorem f81_ok (m s : Int) : SpecOK cfg Pr Ow 81 (callS [.agg [.int .i64 m, .int .i64 s]] (.agg [.int .i64 m, .int .i64 s])) := callS_ok fun Φ h =>
  fn_of0 E0_ok rfl (by rw [vc81]; exact h)
theorem f41_ok (v : Vl) : SpecOK cfg Pr Ow 41 (callS [v.dv] v.dv) := callS_ok fun Φ h =>
  fn_of0 (E := E41 81 v) (envOK ⟨f81_ok _ _, trivial⟩ trivial trivial) rfl (by rw [vc41]; exact ⟨rfl, h⟩)
theorem f82_ok (a : Rf) : SpecOK cfg Pr Ow 82 (callS [a.dv] a.dv) := callS_ok fun Φ h =>
  fn_of0 E0_ok rfl (by rw [vc82]; exact h)
theorem f42_ok (t : Tr) : SpecOK cfg Pr Ow 42 (callS [areas t] (areas t)) := callS_ok fun Φ h =>
  fn_of0 (E := E42 82 t.a t.b) (envOK trivial ⟨f82_ok _, f82_ok _, trivial⟩ trivial) rfl (by unfold areas; rw [vc42]; exact ⟨rfl, rfl, h⟩)

theorem loop18_1 {t : Tr} (hn : t.count ≤ 1000000) (ih : ∀ i, i < t.kids.length → ∀ Φ : DV → List Blk → Prop, Φ (kid t i).dv [] → GoC cfg Pr Ow 18 [(kid t i).dv] [] Φ) {K : Ex → St → Prop} (hK : K (.exit 0) (ex18_1 t t.kids.length)) :
    ∀ i, i ≤ t.kids.length → GoL cfg Pr Ow 18 37 (bodyOf cfg 18 0) (hd18_1 t i) K := by
  have hc := kids_count t
  refine count_loop (E := fun i => E18b 18 t i) (ks := [1, 2, 3, 4]) (bs := [1, 2, 3, 34]) (ks2 := [1, 2, 3]) (bs2 := [1, 2, 3, 34]) nt18 (fun i _ => envOK trivial ⟨callG_ok (ih i), trivial⟩ trivial) (fun _ => ⟨rfl, rfl⟩) ?_
  intro i hi L hL
  rw [vc18_1]
  refine brB_of (fun h => ?_) (fun h => ?_)
  · have hlt : i < t.kids.length := by simpa [Tr.encs_len] using h
    simp only [obB_iff, decide_eq_true_eq, Tr.encs_len, List.length_take]
    refine ⟨hlt, encs_kid hlt, hlt, trivial, by omega, roomy_of (by omega) (by omega), inR64 (by omega), ?_⟩
    rw [take_encs, encs_snoc hlt, ← cast_succ]
    exact hL hlt
  · simp only [decide_eq_false_iff_not, Tr.encs_len] at h
    obtain rfl : i = t.kids.length := by omega
    exact hK

theorem loop18_0 {t : Tr} (hn : t.count ≤ 1000000) (ih : ∀ i, i < t.kids.length → ∀ Φ : DV → List Blk → Prop, Φ (kid t i).dv [] → GoC cfg Pr Ow 18 [(kid t i).dv] [] Φ) {K : Ex → St → Prop} (hK : F18 t K) :
    GoL cfg Pr Ow 18 37 (bodyOf cfg 18 0) (hd18_0 t) K := by
  have hc := kids_count t
  unfold F18 at hK
  rw [brB_iff] at hK
  refine round_of (E := E18b 18 t 0) (L := fun st => 0 < t.kids.length ∧ st = hd18_1 t 1) (ks := [1, 2, 3, 4]) (bs := [1, 2, 3, 34]) (ks2 := [1, 2, 3]) (bs2 := [1, 2, 3, 34]) (envOK trivial ⟨callG_ok (ih 0), trivial⟩ trivial) nt18 rfl ?_ ?_
  · rw [vc18_0]
    refine brB_of (fun h => ?_) (fun h => ?_)
    · have hlt : 0 < t.kids.length := by simpa [Tr.encs_len] using h
      simp only [obB_iff, decide_eq_true_eq, Tr.encs_len]
      refine ⟨hlt, encs_kid hlt, hlt, trivial, hlt, ?_⟩
      have := encs_snoc hlt
      simp only [List.take_zero, Tr.encs, List.nil_append] at this
      rw [this]; rfl
    · simp only [decide_eq_false_iff_not, Tr.encs_len] at h
      exact hK.1 (by rw [List.isEmpty_iff, ← List.length_eq_zero_iff]; omega)
  · rintro _ ⟨h0, rfl⟩
    refine loop18_1 hn ih (hK.2 ?_) 1 h0
    cases hk : t.kids with
    | nil => rw [hk] at h0; simp at h0
    | cons _ _ => rfl

theorem of_go : ∀ (t : Tr), t.count ≤ 1000000 → ∀ Φ : DV → List Blk → Prop, Φ t.dv [] → GoC cfg Pr Ow 18 [t.dv] [] Φ := by
  intro t
  induction hm : t.count using Nat.strongRecOn generalizing t with
  | _ m ih =>
    subst hm
    intro hn Φ hΦ
    have ih' : ∀ i, i < t.kids.length → ∀ Φ : DV → List Blk → Prop, Φ (kid t i).dv [] → GoC cfg Pr Ow 18 [(kid t i).dv] [] Φ := fun i hi =>
      ih _ (kid_count hi) (kid t i) rfl (by have := kid_count hi; omega)
    refine go_wk (WkL.refl _) (fn_of (E := E18 41 42 t fun st => st = hd18_0 t) (envOK trivial ⟨f41_ok _, f42_ok _, trivial⟩ trivial) nt18 nd18 ?_ ?_)
    · intro b sp hl st k hs
      simp only [E18, look] at hl
      cases hb : Nat.beq b 0 with
      | false => rw [hb] at hl; simp at hl
      | true =>
        obtain rfl := Nat.eq_of_beq_eq_true hb
        simp only [Nat.beq_refl, cond_true, Option.some.injEq] at hl
        subst hl
        exact loopS_ok (fun st hst k hk => by subst hst; exact loop18_0 hn ih' hk) hs
    · rw [vc18]
      refine ⟨rfl, rfl, rfl, brB_of (fun h => ?_) (fun h => ?_)⟩
      · refine ⟨_, .inr (wk_cells t 18), ?_⟩
        have : t.kids = [] := by simpa using h
        have hd : t.dv = .agg (t.cellsK (.psl 18 [])) := by unfold Tr.dv Tr.cells; rw [this]; rfl
        rwa [← hd]
      · simp only [obB_iff, decide_eq_true_eq, Tr.encs_len, List.length_take, encs_all, take_all_encs]
        exact ⟨by omega, _, .inl rfl, hΦ⟩
end
end Go.Det.Sea
end

section
set_option linter.unusedVariables false
set_option linter.unusedSimpArgs false
namespace Go.Det.Sea
open Go Go.Det

def hd17 (t : Tr) (i : Nat) : St := mkS 67 [(2, .ptr 2 18 0 0), (3, .ptr 3 18 0 0), (5, .int .i64 i)] [(2, .box t.cells), (3, .box t.cells)] []
def E17b (t : Tr) (i : Nat) : Env := { ss := [(65, 17, callG (i < t.kids.length) [(kid t i).dv, (kid t i).dv] (.bool true))], an := [(59, (kid t i).dv), (64, (kid t i).dv)] }
def F17 (k : Ex → St → Prop) : Prop := k (.exit 0) (mkS 67 [] [] [])
def E17 (L : St → Prop) : Env := { ls := [(0, loopS [2, 3, 5] [2, 3] 67 L F17)] }
theorem vc17 (t : Tr) (L : St → Prop) (Φ : DV → List Blk → Prop) : (vcF cfg (E17 L) 17 [t.dv, t.dv] [] Φ) =
    (brB (Tr.kind t != Tr.kind t || !((Tr.v t).kind == (Tr.v t).kind && ((Tr.v t).m == (Tr.v t).m && ((Tr.v t).s == (Tr.v t).s && true) && ((Tr.v t).txt == (Tr.v t).txt && ((Tr.v t).b == (Tr.v t).b && ((Tr.v t).e == (Tr.v t).e && true))))) || !((Tr.a t).row == (Tr.a t).row && ((Tr.a t).col == (Tr.a t).col && ((Tr.a t).rr == (Tr.a t).rr && ((Tr.a t).rc == (Tr.a t).rc && true))) && ((Tr.b t).row == (Tr.b t).row && ((Tr.b t).col == (Tr.b t).col && ((Tr.b t).rr == (Tr.b t).rr && ((Tr.b t).rc == (Tr.b t).rc && true))) && true)) || Tr.sheet t != Tr.sheet t || Tr.op t != Tr.op t || (↑(List.length (Tr.encs (Tr.kids t))) : Int) != (↑(List.length (Tr.encs (Tr.kids t))) : Int)) (Φ (DV.bool false) []) (L (mkS 67 [(2, DV.ptr 2 18 0 0), (3, DV.ptr 3 18 0 0), (5, DV.int IntKind.i64 (0 : Int))] [(2, Blk.box (Tr.cells t)), (3, Blk.box (Tr.cells t))] []) ∧ Φ (DV.bool true) [])) := by kernel_rfl
theorem vc17_1 (t : Tr) (i : Nat) (L : St → Prop) (K : Ex → St → Prop) : (vcB cfg (E17b t i) 17 0 (hd17 t i) (bodyK L [2, 3, 5] [2, 3] [4] [] 67 K)) =
    (brB (decide ((↑i : Int) < (↑(List.length (Tr.encs (Tr.kids t))) : Int))) (obB (decide (i < List.length (Tr.encs (Tr.kids t)))) ((Tr.encs (Tr.kids t))[Int.toNat (↑i : Int)]? = some (Tr.dv (kid t i)) ∧ obB (decide (i < List.length (Tr.encs (Tr.kids t)))) ((Tr.encs (Tr.kids t))[Int.toNat (↑i : Int)]? = some (Tr.dv (kid t i)) ∧ i < List.length (Tr.kids t) ∧ [Tr.dv (kid t i), Tr.dv (kid t i)] = [Tr.dv (kid t i), Tr.dv (kid t i)] ∧ obB (inR IntKind.i64 ((↑i : Int) + (1 : Int))) (L (mkS 67 [(2, DV.ptr 2 18 0 0), (3, DV.ptr 3 18 0 0), (5, DV.int IntKind.i64 ((↑i : Int) + (1 : Int)))] [(2, Blk.box (Tr.cells t)), (3, Blk.box (Tr.cells t))] []))))) (K (Ex.exit 0) (mkS 67 [] [] []))) := by kernel_rfl
def anyB (xs0 : List DV) : Spec := fun xs ex k => match ex with
  | [] => xs = xs0 ∧ ∀ b : Bool, k (.bool b) []
  | _ :: _ => False
def anyBG (c : Prop) (xs0 : List DV) : Spec := fun xs ex k => match ex with
  | [] => c ∧ xs = xs0 ∧ ∀ b : Bool, k (.bool b) []
  | _ :: _ => False
def hd14 (t : Tr) (i : Nat) : St := mkS 28 [(1, .ptr 1 18 0 0), (3, .int .i64 i)] [(1, .box t.cells)] []
def E14b (t : Tr) (i : Nat) : Env := { ss := [(27, 14, anyBG (i < t.kids.length) [(kid t i).dv])], an := [(26, (kid t i).dv)] }
def F14 (k : Ex → St → Prop) : Prop := k .ret (mkS 28 [(2, .bool true)] [] []) ∧ k (.exit 0) (mkS 28 [] [] [])
def E14 (L : St → Prop) : Env := { ls := [(0, loopS [1, 3] [1] 28 L F14)] }
theorem vc14 (t : Tr) (L : St → Prop) (Φ : DV → List Blk → Prop) : (vcF cfg (E14 L) 14 [t.dv] [] Φ) =
    (brB ((Tr.v t).kind == (1 : Int) && (Tr.v t).m == (-9223372036854775808 : Int)) (Φ (DV.bool true) []) (L (mkS 28 [(1, DV.ptr 1 18 0 0), (3, DV.int IntKind.i64 (0 : Int))] [(1, Blk.box (Tr.cells t))] []) ∧ Φ (DV.bool true) [] ∧ Φ (DV.bool false) [])) := by kernel_rfl
theorem vc14_1 (t : Tr) (i : Nat) (L : St → Prop) (K : Ex → St → Prop) : (vcB cfg (E14b t i) 14 0 (hd14 t i) (bodyK L [1, 3] [1] [2] [] 28 K)) =
    (brB (decide ((↑i : Int) < (↑(List.length (Tr.encs (Tr.kids t))) : Int))) (obB (decide (i < List.length (Tr.encs (Tr.kids t)))) ((Tr.encs (Tr.kids t))[Int.toNat (↑i : Int)]? = some (Tr.dv (kid t i)) ∧ i < List.length (Tr.kids t) ∧ [Tr.dv (kid t i)] = [Tr.dv (kid t i)] ∧ ∀ (b : Bool), brB b (K Ex.ret (mkS 28 [(2, DV.bool true)] [] [])) (obB (inR IntKind.i64 ((↑i : Int) + (1 : Int))) (L (mkS 28 [(1, DV.ptr 1 18 0 0), (3, DV.int IntKind.i64 ((↑i : Int) + (1 : Int)))] [(1, Blk.box (Tr.cells t))] []))))) (K (Ex.exit 0) (mkS 28 [] [] []))) := by kernel_rfl
def hd28 (t : Tr) (deep : Int) (n : Int) (i : Nat) : St := mkS 50 [(1, .int .i64 deep), (2, .int .i64 300), (3, .ptr 50 1 0 0), (4, .ptr 4 18 0 0), (9, .int .i64 i)] [(4, .box t.cells)] [.box [.int .i64 n]]
def ret28 (b : Bool) (n : Int) : St := mkS 50 [(8, .bool b)] [] [.box [.int .i64 n]]
def fewK (t : Tr) (c : Int) (k : DV → List Blk → Prop) : Prop := ∀ (b : Bool) (n : Int), (b = true → (n = c + t.count ∧ n ≤ 300) ∧ shortT t) → c < n → n ≤ 301 → k (.bool b) [.box [.int .i64 n]]
def fewS (g : Prop) (t : Tr) (deep : Int) : Spec := fun xs ex k => match ex with
  | [.box [.int .i64 c]] => g ∧ xs = [t.dv, .int .i64 deep, .int .i64 300, .ptr 50 1 0 0] ∧ 0 ≤ deep ∧ deep ≤ 40 ∧ 0 ≤ c ∧ c ≤ 300 ∧ fewK t c k
  | _ => False
def E28b (t : Tr) (deep : Int) (i : Nat) : Env := { ss := [(48, 28, fewS (i < t.kids.length) (kid t i) (deep - 1))], an := [(43, (kid t i).dv)] }
def F28 (t : Tr) (c : Int) (k : Ex → St → Prop) : Prop := (∀ n, c < n → n ≤ 301 → k .ret (ret28 false n)) ∧ (c + t.count ≤ 300 → shortTs t.kids → k (.exit 0) (mkS 50 [] [] [.box [.int .i64 (c + t.count)]]))
def E28 (t : Tr) (c : Int) (L : St → Prop) : Env := { ls := [(0, loopS [1, 2, 3, 4, 9] [4] 50 L (F28 t c))] }
theorem vc28 (t : Tr) (deep c : Int) (L : St → Prop) (Φ : DV → List Blk → Prop) : (vcF cfg (E28 t c L) 28 [t.dv, .int .i64 deep, .int .i64 300, .ptr 50 1 0 0] [.box [.int .i64 c]] Φ) =
    (obB (inR IntKind.i64 (c + (1 : Int))) (brB (deep == (0 : Int) || decide (c + (1 : Int) > (300 : Int)) || decide ((↑(List.length (Tr.v t).txt) : Int) > (3000 : Int))) (Φ (DV.bool false) [Blk.box [DV.int IntKind.i64 (c + (1 : Int))]]) (L (mkS 50 [(1, DV.int IntKind.i64 deep), (2, DV.int IntKind.i64 (300 : Int)), (3, DV.ptr 50 1 0 0), (4, DV.ptr 4 18 0 0), (9, DV.int IntKind.i64 (0 : Int))] [(4, Blk.box (Tr.cells t))] [Blk.box [DV.int IntKind.i64 (c + (1 : Int))]]) ∧ (∀ (n : Int), c < n → n ≤ (301 : Int) → Φ (DV.bool false) [Blk.box [DV.int IntKind.i64 n]]) ∧ (c + (↑(Tr.count t) : Int) ≤ (300 : Int) → shortTs (Tr.kids t) → Φ (DV.bool true) [Blk.box [DV.int IntKind.i64 (c + (↑(Tr.count t) : Int))]])))) := by kernel_rfl
theorem vc28_1 (t : Tr) (deep n : Int) (i : Nat) (L : St → Prop) (K : Ex → St → Prop) : (vcB cfg (E28b t deep i) 28 0 (hd28 t deep n i) (bodyK L [1, 2, 3, 4, 9] [4] [8] [] 50 K)) =
    (brB (decide ((↑i : Int) < (↑(List.length (Tr.encs (Tr.kids t))) : Int))) (obB (decide (i < List.length (Tr.encs (Tr.kids t)))) ((Tr.encs (Tr.kids t))[Int.toNat (↑i : Int)]? = some (Tr.dv (kid t i)) ∧ obB (inR IntKind.i64 (deep - (1 : Int))) (i < List.length (Tr.kids t) ∧ [Tr.dv (kid t i), DV.int IntKind.i64 (deep - (1 : Int)), DV.int IntKind.i64 (300 : Int), DV.ptr 50 1 0 0] = [Tr.dv (kid t i), DV.int IntKind.i64 (deep - (1 : Int)), DV.int IntKind.i64 (300 : Int), DV.ptr 50 1 0 0] ∧ (0 : Int) ≤ deep - (1 : Int) ∧ deep - (1 : Int) ≤ (40 : Int) ∧ (0 : Int) ≤ n ∧ n ≤ (300 : Int) ∧ ∀ (b : Bool) (n_1 : Int), (b = true → (n_1 = n + (↑(Tr.count (kid t i)) : Int) ∧ n_1 ≤ (300 : Int)) ∧ shortT (kid t i)) → n < n_1 → n_1 ≤ (301 : Int) → brB (!b) (K Ex.ret (mkS 50 [(8, DV.bool false)] [] [Blk.box [DV.int IntKind.i64 n_1]])) (obB (inR IntKind.i64 ((↑i : Int) + (1 : Int))) (L (mkS 50 [(1, DV.int IntKind.i64 deep), (2, DV.int IntKind.i64 (300 : Int)), (3, DV.ptr 50 1 0 0), (4, DV.ptr 4 18 0 0), (9, DV.int IntKind.i64 ((↑i : Int) + (1 : Int)))] [(4, Blk.box (Tr.cells t))] [Blk.box [DV.int IntKind.i64 n_1]])))))) (K (Ex.exit 0) (mkS 50 [] [] [Blk.box [DV.int IntKind.i64 n]]))) := by kernel_rfl
def E9 (t : Tr) : Env := { cs := [(28, fewS True t 40)] }
theorem vc9 (t : Tr) (Φ : DV → List Blk → Prop) : (vcF cfg (E9 t) 9 [t.dv, .int .i64 300] [] Φ) =
    (True ∧ [Tr.dv t, DV.int IntKind.i64 (40 : Int), DV.int IntKind.i64 (300 : Int), DV.ptr 50 1 0 0] = [Tr.dv t, DV.int IntKind.i64 (40 : Int), DV.int IntKind.i64 (300 : Int), DV.ptr 50 1 0 0] ∧ (0 : Int) ≤ (40 : Int) ∧ (40 : Int) ≤ (40 : Int) ∧ (0 : Int) ≤ (0 : Int) ∧ (0 : Int) ≤ (300 : Int) ∧ ∀ (b : Bool) (n : Int), (b = true → (n = (0 : Int) + (↑(Tr.count t) : Int) ∧ n ≤ (300 : Int)) ∧ shortT t) → (0 : Int) < n → n ≤ (301 : Int) → Φ (DV.bool b) []) := by kernel_rfl
theorem look_one {E : Env} {sp0 : LSpec} (hE : E.ls = [(0, sp0)]) {b : Nat} {sp : LSpec} (hl : look b E.ls = some sp) : b = 0 ∧ sp = sp0 := by
  rw [hE] at hl
  simp only [look] at hl
  cases hb : Nat.beq b 0 with
  | false => rw [hb] at hl; simp at hl
  | true =>
    rw [hb] at hl
    simp only [cond_true, Option.some.injEq] at hl
    exact ⟨Nat.eq_of_beq_eq_true hb, hl.symm⟩

section
variable {Pr Ow : Nat → List DV → DV → Prop}
theorem nt17 : ntOf cfg 17 = 67 := by kernel_rfl
theorem nd17 : nodupK (loops 0 (codeOf cfg 17)) = true := by kernel_rfl
theorem same_go : ∀ (t : Tr), t.count ≤ 1000000 → ∀ Φ : DV → List Blk → Prop, Φ (.bool true) [] → GoC cfg Pr Ow 17 [t.dv, t.dv] [] Φ := by
  intro t
  induction hm : t.count using Nat.strongRecOn generalizing t with
  | _ m ih =>
    subst hm
    intro hn Φ hΦ
    have hc := kids_count t
    refine fn_of (E := E17 fun st => st = hd17 t 0) (envOK trivial trivial trivial) nt17 nd17 ?_ ?_
    · intro b sp hl st k hs
      obtain ⟨rfl, rfl⟩ := look_one rfl hl
      refine loopS_ok (fun st hst k hk => ?_) hs
      subst hst
      refine count_loop (n := t.kids.length) (E := fun i => E17b t i) (ks := [2, 3, 5]) (bs := [2, 3]) (ks2 := [4]) (bs2 := []) nt17
        (fun i _ => envOK trivial ⟨callG_ok fun hi => ih _ (kid_count hi) (kid t i) rfl (by have := kid_count hi; omega), trivial⟩ trivial) (fun _ => ⟨rfl, rfl⟩) ?_ 0 (Nat.zero_le _)
      intro i hi L hL
      rw [vc17_1]
      refine brB_of (fun h => ?_) (fun h => hk)
      have hlt : i < t.kids.length := by simpa [Tr.encs_len] using h
      simp only [obB_iff, decide_eq_true_eq, Tr.encs_len]
      refine ⟨hlt, encs_kid hlt, hlt, encs_kid hlt, hlt, trivial, inR64 (by omega), ?_⟩
      rw [← cast_succ]; exact hL hlt
    · rw [vc17]
      refine brB_of (fun h => ?_) (fun h => ⟨rfl, hΦ⟩)
      simp at h

theorem nt14 : ntOf cfg 14 = 28 := by kernel_rfl
theorem nd14 : nodupK (loops 0 (codeOf cfg 14)) = true := by kernel_rfl
theorem anyB_ok {g : Nat} {xs : List DV} (h : ∀ Φ : DV → List Blk → Prop, (∀ b : Bool, Φ (.bool b) []) → GoC cfg Pr Ow g xs [] Φ) : SpecOK cfg Pr Ow g (anyB xs) := by
  intro xs' ex k hk
  cases ex with
  | nil => obtain ⟨rfl, hk⟩ := hk; exact h k hk
  | cons _ _ => exact hk.elim
theorem anyBG_ok {g : Nat} {c : Prop} {xs : List DV} (h : c → ∀ Φ : DV → List Blk → Prop, (∀ b : Bool, Φ (.bool b) []) → GoC cfg Pr Ow g xs [] Φ) : SpecOK cfg Pr Ow g (anyBG c xs) := by
  intro xs' ex k hk
  cases ex with
  | nil => obtain ⟨hc, rfl, hk⟩ := hk; exact h hc k hk
  | cons _ _ => exact hk.elim
theorem least_go : ∀ (t : Tr), t.count ≤ 1000000 → ∀ Φ : DV → List Blk → Prop, (∀ b : Bool, Φ (.bool b) []) → GoC cfg Pr Ow 14 [t.dv] [] Φ := by
  intro t
  induction hm : t.count using Nat.strongRecOn generalizing t with
  | _ m ih =>
    subst hm
    intro hn Φ hΦ
    have hc := kids_count t
    refine fn_of (E := E14 fun st => st = hd14 t 0) (envOK trivial trivial trivial) nt14 nd14 ?_ ?_
    · intro b sp hl st k hs
      obtain ⟨rfl, rfl⟩ := look_one rfl hl
      refine loopS_ok (fun st hst k hk => ?_) hs
      subst hst
      refine count_loop (n := t.kids.length) (E := fun i => E14b t i) (ks := [1, 3]) (bs := [1]) (ks2 := [2]) (bs2 := []) nt14
        (fun i _ => envOK trivial ⟨anyBG_ok fun hi => ih _ (kid_count hi) (kid t i) rfl (by have := kid_count hi; omega), trivial⟩ trivial) (fun _ => ⟨rfl, rfl⟩) ?_ 0 (Nat.zero_le _)
      intro i hi L hL
      rw [vc14_1]
      refine brB_of (fun h => ?_) (fun h => hk.2)
      have hlt : i < t.kids.length := by simpa [Tr.encs_len] using h
      simp only [obB_iff, decide_eq_true_eq, Tr.encs_len]
      refine ⟨hlt, encs_kid hlt, hlt, trivial, fun b => brB_of (fun _ => hk.1) fun _ => ⟨inR64 (by omega), ?_⟩⟩
      rw [← cast_succ]; exact hL hlt
    · rw [vc14]
      exact brB_of (fun h => hΦ _) (fun h => ⟨rfl, hΦ _, hΦ _⟩)

theorem nt28 : ntOf cfg 28 = 50 := by kernel_rfl
theorem nd28 : nodupK (loops 0 (codeOf cfg 28)) = true := by kernel_rfl
theorem fewS_ok {g : Prop} {t : Tr} {deep : Int} (h : g → ∀ c : Int, 0 ≤ deep → deep ≤ 40 → 0 ≤ c → c ≤ 300 → ∀ Φ : DV → List Blk → Prop, fewK t c Φ → GoC cfg Pr Ow 28 [t.dv, .int .i64 deep, .int .i64 300, .ptr 50 1 0 0] [.box [.int .i64 c]] Φ) :
    SpecOK cfg Pr Ow 28 (fewS g t deep) := by
  intro xs ex k hk
  unfold fewS at hk
  split at hk
  · obtain ⟨hg, rfl, h1, h2, h3, h4, h5⟩ := hk
    exact h hg _ h1 h2 h3 h4 k h5
  · exact hk.elim
theorem few_go : ∀ (t : Tr) (deep c : Int), 0 ≤ deep → deep ≤ 40 → 0 ≤ c → c ≤ 300 → ∀ Φ : DV → List Blk → Prop, fewK t c Φ → GoC cfg Pr Ow 28 [t.dv, .int .i64 deep, .int .i64 300, .ptr 50 1 0 0] [.box [.int .i64 c]] Φ := by
  intro t
  induction hm : t.count using Nat.strongRecOn generalizing t with
  | _ m ih =>
    subst hm
    intro deep c hd1 hd2 hc1 hc2 Φ hΦ
    have hcnt := Tr.count_eq t
    by_cases hdeep : 1 ≤ deep ∧ c + 1 ≤ 300
    · obtain ⟨hdeep, hc3⟩ := hdeep
      refine fn_of (E := E28 t c fun st => st = hd28 t deep (c + 1) 0) (envOK trivial trivial trivial) nt28 nd28 ?_ ?_
      · intro b sp hl st k hs
        obtain ⟨rfl, rfl⟩ := look_one rfl hl
        refine loopS_ok (fun st hst k hk => ?_) hs
        subst hst
        have h0 : hd28 t deep (c + 1) 0 = (fun i : Nat => hd28 t deep (c + 1 + (Tr.counts (t.kids.take i) : Nat)) i) 0 := by simp [Tr.counts]
        rw [h0]
        -- only while it is few
        have key : ∀ d i, i + d = t.kids.length → c + 1 + (Tr.counts (t.kids.take i) : Nat) ≤ 300 → shortTs (t.kids.take i) → GoL cfg Pr Ow 28 50 (bodyOf cfg 28 0) (hd28 t deep (c + 1 + (Tr.counts (t.kids.take i) : Nat)) i) k := by
          intro d
          induction d with
          | zero =>
            intro i hi hle hsh
            obtain rfl : i = t.kids.length := hi
            refine round_of (E := E28b t deep t.kids.length) (envOK trivial ⟨fewS_ok fun hg => absurd hg (Nat.lt_irrefl _), trivial⟩ trivial) nt28 rfl (L := fun _ => False) (ks := [1, 2, 3, 4, 9]) (bs := [4]) (ks2 := [8]) (bs2 := []) ?_ (fun _ h => h.elim)
            rw [vc28_1]
            refine brB_of (fun h => ?_) (fun h => ?_)
            · simp [Tr.encs_len] at h
            · have := counts_all t
              have e : c + 1 + ((Tr.counts (t.kids.take t.kids.length) : Nat) : Int) = c + t.count := by omega
              rw [e] at hle ⊢
              exact hk.2 hle (by rwa [List.take_length] at hsh)
          | succ d ihd =>
            intro i hi hle hsh
            have hlt : i < t.kids.length := by omega
            have hle2 := counts_le t i (Nat.le_of_lt hlt)
            have hct := counts_take hlt
            refine round_of (E := E28b t deep i) (envOK trivial ⟨fewS_ok fun hg => ?_, trivial⟩ trivial) nt28 rfl (L := fun st => st = hd28 t deep (c + 1 + (Tr.counts (t.kids.take (i + 1)) : Nat)) (i + 1) ∧ c + 1 + (Tr.counts (t.kids.take (i + 1)) : Nat) ≤ 300 ∧ shortTs (t.kids.take (i + 1)))
              (ks := [1, 2, 3, 4, 9]) (bs := [4]) (ks2 := [8]) (bs2 := []) ?_ ?_
            · intro c' a1 a2 a3 a4
              exact ih _ (kid_count hlt) (kid t i) rfl (deep - 1) c' a1 a2 a3 a4
            · rw [vc28_1]
              refine brB_of (fun h => ?_) (fun h => ?_)
              · simp only [obB_iff, decide_eq_true_eq, Tr.encs_len]
                refine ⟨hlt, encs_kid hlt, inR64 (by omega), hlt, trivial, by omega, by omega, by omega, hle, fun b n hb h1 h2 => brB_of (fun _ => hk.1 n (by omega) h2) fun hbt => ⟨inR64 (by omega), ?_⟩⟩
                have hb := hb (by simpa using hbt)
                refine ⟨?_, by omega, shortTs_take hlt hsh hb.2⟩
                have e : n = c + 1 + ((Tr.counts (t.kids.take (i + 1)) : Nat) : Int) := by omega
                rw [e, ← cast_succ]; rfl
              · simp [Tr.encs_len] at h; omega
            · rintro _ ⟨rfl, h, h'⟩
              exact ihd (i + 1) (by omega) h h'
        exact key t.kids.length 0 (by omega) (by simp [Tr.counts]; omega) trivial
      · rw [vc28]
        simp only [obB_iff]
        refine ⟨inR64 (by omega), brB_of (fun h => ?_) (fun h => ?_)⟩
        · exact hΦ false _ (by simp) (by omega) (by omega)
        · have hs : t.v.txt.length ≤ 3000 := by
            have : (t.v.txt.length : Int) ≤ 3000 := by simp at h; omega
            omega
          exact ⟨rfl, fun n h1 h2 => hΦ false n (by simp) h1 h2, fun h h' => hΦ true _ (fun _ => ⟨⟨rfl, h⟩, (shortT_eq t).2 ⟨hs, h'⟩⟩) (by omega) (by omega)⟩
    · refine fn_of (E := E28 t c fun _ => False) (envOK trivial trivial trivial) nt28 nd28 ?_ ?_
      · intro b sp hl st k hs
        obtain ⟨rfl, rfl⟩ := look_one rfl hl
        exact hs.1.elim
      · rw [vc28]
        simp only [obB_iff]
        refine ⟨inR64 (by omega), brB_of (fun h => ?_) (fun h => ?_)⟩
        · exact hΦ false _ (by simp) (by omega) (by omega)
        · exfalso
          simp at h
          omega
theorem Few_go (t : Tr) (Φ : DV → List Blk → Prop) (hΦ : ∀ b : Bool, (b = true → t.count ≤ 300 ∧ shortT t) → Φ (.bool b) []) : GoC cfg Pr Ow 9 [t.dv, .int .i64 300] [] Φ := by
  refine fn_of0 (E := E9 t) (envOK ⟨fewS_ok fun _ c a1 a2 a3 a4 => few_go t 40 c a1 a2 a3 a4, trivial⟩ trivial trivial) rfl ?_
  rw [vc9]
  refine ⟨trivial, rfl, by omega, by omega, by omega, by omega, fun b n h1 h2 h3 => hΦ b fun hb => ?_⟩
  have := h1 hb
  exact ⟨by omega, this.2⟩
end
end Go.Det.Sea
end

section
set_option linter.unusedVariables false
set_option linter.unusedSimpArgs false
namespace Go.Det

/-! Without brackets. -/
def Tr.withKids : Tr → List Tr → Tr
  | .mk k v a b s o _, l => .mk k v a b s o l
def Vl.neg (v : Vl) : Vl := { v with m := IntKind.i64.wrap (0 - v.m) }
def rf0 : Rf := ⟨0, 0, false, false⟩
/-- A sign ahead of a number? -/
def signed (t k : Tr) : Bool := t.kind == 7 && t.op == 1 && k.kind == 1 && k.v.kind == 1 && decide (k.v.m > 0)
/-- The document's. -/
def foldR (t : Tr) (ks : List Tr) : Tr := match ks with
  | [k] => if signed t k then .mk 1 k.v.neg rf0 rf0 0 0 [] else t.withKids ks
  | ks => t.withKids ks
mutual
def stripR : Tr → Tr
  | .mk k v a b s o ks => if k == 10 && ks.length == 1 then (match stripRs ks with
      | [x] => x
      | _ => .mk k v a b s o ks) else foldR (.mk k v a b s o ks) (stripRs ks)
def stripRs : List Tr → List Tr
  | [] => []
  | t :: l => stripR t :: stripRs l
end
/-- The program's. -/
def Tr.neg : Tr → Tr
  | .mk k v a b s o l => .mk k v.neg a b s o l
def foldF (t : Tr) (ks : List Tr) : Tr := match ks with
  | [k] => if t.kind == 10 then k else if signed t k then k.neg else t.withKids ks
  | ks => t.withKids ks
mutual
def stripF : Tr → Tr
  | .mk k v a b s o ks => foldF (.mk k v a b s o ks) (stripFs ks)
def stripFs : List Tr → List Tr
  | [] => []
  | t :: l => stripF t :: stripFs l
end
theorem stripRs_eq : ∀ l : List Tr, stripRs l = l.map stripR
  | [] => rfl
  | t :: l => by simp [stripRs, stripRs_eq l]
theorem stripFs_eq : ∀ l : List Tr, stripFs l = l.map stripF
  | [] => rfl
  | t :: l => by simp [stripFs, stripFs_eq l]
theorem stripF_eq (t : Tr) : stripF t = foldF t (t.kids.map stripF) := by
  cases t with | mk k v a b s o ks => unfold stripF; rw [stripFs_eq]; rfl
theorem stripR_eq (t : Tr) : stripR t = if t.kind == 10 && t.kids.length == 1 then stripR (kid t 0) else foldR t (t.kids.map stripR) := by
  cases t with
  | mk k v a b s o ks =>
    show stripR (.mk k v a b s o ks) = if k == 10 && ks.length == 1 then stripR (kid (.mk k v a b s o ks) 0) else foldR (.mk k v a b s o ks) (ks.map stripR)
    have h : stripR (.mk k v a b s o ks) = if k == 10 && ks.length == 1 then (match ks.map stripR with
      | [x] => x
      | _ => .mk k v a b s o ks) else foldR (.mk k v a b s o ks) (ks.map stripR) := by rw [← stripRs_eq]; simp only [stripR]
    rw [h]
    by_cases hc : (k == 10 && ks.length == 1) = true
    · rw [if_pos hc, if_pos hc]
      simp only [Bool.and_eq_true, beq_iff_eq] at hc
      match ks, hc.2 with
      | [x], _ => rfl
    · rw [if_neg hc, if_neg hc]
/-- A constant has nothing else. -/
def cleanN (t : Tr) : Prop := t.kind = 1 → t.a = rf0 ∧ t.b = rf0 ∧ t.sheet = 0 ∧ t.op = 0 ∧ t.kids = []
mutual
def cleanT : Tr → Prop
  | .mk k v a b s o ks => cleanN (.mk k v a b s o ks) ∧ cleanTs ks
def cleanTs : List Tr → Prop
  | [] => True
  | t :: l => cleanT t ∧ cleanTs l
end
theorem cleanT_eq (t : Tr) : cleanT t ↔ cleanN t ∧ cleanTs t.kids := by cases t; rfl
theorem cleanTs_mem : ∀ {l : List Tr} {t : Tr}, cleanTs l → t ∈ l → cleanT t
  | [], _, _, h => by simp at h
  | x :: l, t, hc, h => by
    rcases List.mem_cons.1 h with rfl | h
    · exact hc.1
    · exact cleanTs_mem hc.2 h
theorem cleanTs_of : ∀ {l : List Tr}, (∀ t ∈ l, cleanT t) → cleanTs l
  | [], _ => trivial
  | x :: l, h => ⟨h x List.mem_cons_self, cleanTs_of fun t ht => h t (List.mem_cons_of_mem _ ht)⟩
theorem cleanTs_take {t : Tr} {i : Nat} (hi : i < t.kids.length) (h : cleanTs (t.kids.take i)) (hk : cleanT (kid t i)) : cleanTs (t.kids.take (i + 1)) := by
  apply cleanTs_of
  intro x hx
  rw [List.take_add_one, List.getElem?_eq_getElem hi] at hx
  simp only [Option.toList_some, List.mem_append, List.mem_singleton] at hx
  rcases hx with hx | hx
  · exact cleanTs_mem h hx
  · rw [hx]
    unfold kid at hk
    rw [List.getD_eq_getElem?_getD, List.getElem?_eq_getElem hi] at hk
    exact hk

theorem stripR_clean_const : ∀ (t : Tr), cleanT t → cleanN (stripR t) := by
  intro t
  induction hm : t.count using Nat.strongRecOn generalizing t with
  | _ m ih =>
    subst hm
    intro h
    rw [stripR_eq]
    rw [cleanT_eq] at h
    split
    · rename_i hp
      simp only [Bool.and_eq_true, beq_iff_eq] at hp
      have hl : 0 < t.kids.length := by omega
      refine ih _ (kid_count hl) (kid t 0) rfl (cleanTs_mem h.2 ?_)
      unfold kid
      rw [List.getD_eq_getElem?_getD, List.getElem?_eq_getElem hl]
      exact List.getElem_mem hl
    · have hw : ∀ ks, (t.kids = [] → ks = []) → cleanN (t.withKids ks) := by
        intro ks hks
        cases t with
        | mk k v a b s o l =>
          intro hk
          obtain ⟨h1, h2, h3, h4, h5⟩ := h.1 hk
          exact ⟨h1, h2, h3, h4, hks h5⟩
      unfold foldR
      split
      · split
        · intro _; exact ⟨rfl, rfl, rfl, rfl, rfl⟩
        · rename_i k hk _
          exact hw _ fun e => by rw [e] at hk; simp at hk
      · rename_i hk
        exact hw _ fun e => by rw [e]; rfl

/-- On what may be, both are the same. -/
theorem strip_same : ∀ (t : Tr), cleanT t → stripF t = stripR t := by
  intro t
  induction hm : t.count using Nat.strongRecOn generalizing t with
  | _ m ih =>
    subst hm
    intro h
    have hk : t.kids.map stripF = t.kids.map stripR := by
      apply List.map_congr_left
      intro x hx
      obtain ⟨i, hi, rfl⟩ := List.getElem_of_mem hx
      have hkid : kid t i = t.kids[i] := by unfold kid; rw [List.getD_eq_getElem?_getD, List.getElem?_eq_getElem hi]; rfl
      rw [← hkid]
      exact ih _ (kid_count hi) _ rfl (by rw [hkid]; exact cleanTs_mem ((cleanT_eq t).1 h).2 hx)
    rw [stripF_eq, stripR_eq, hk]
    by_cases hp : t.kids.length = 1
    · obtain ⟨x, hx⟩ : ∃ x, t.kids = [x] := List.length_eq_one_iff.1 hp
      have hcx : cleanT x := cleanTs_mem ((cleanT_eq t).1 h).2 (by rw [hx]; exact List.mem_cons_self)
      have hk0 : kid t 0 = x := by unfold kid; rw [hx]; rfl
      rw [hk0, hx]
      simp only [List.map_cons, List.map_nil, foldF, foldR, List.length_cons, List.length_nil]
      by_cases h10 : t.kind = 10
      · simp [h10]
      · have : (t.kind == 10) = false := by simpa using h10
        simp only [this, Bool.false_and, Bool.false_eq_true, if_false]
        split
        · rename_i hs
          have hcl := stripR_clean_const x hcx
          cases hsx : stripR x with
          | mk k v a b s o l =>
            rw [hsx] at hcl hs
            have hk1 : k = 1 := by
              simp only [signed, Bool.and_eq_true, beq_iff_eq] at hs
              exact hs.1.1.2
            obtain ⟨h1, h2, h3, h4, h5⟩ := hcl hk1
            simp only [Tr.a, Tr.b, Tr.sheet, Tr.op, Tr.kids] at h1 h2 h3 h4 h5
            subst h1 h2 h3 h4 h5 hk1
            simp [Tr.neg, Vl.neg, Tr.v]
        · rfl
    · have : (t.kids.length == 1) = false := by simpa using hp
      simp only [this, Bool.and_false, Bool.false_eq_true, if_false]
      have hl : ∀ ks : List Tr, ks.length ≠ 1 → foldF t ks = t.withKids ks ∧ foldR t ks = t.withKids ks := by
        intro ks hks
        match ks, hks with
        | [], _ => exact ⟨rfl, rfl⟩
        | _ :: _ :: _, _ => exact ⟨rfl, rfl⟩
      obtain ⟨e1, e2⟩ := hl (t.kids.map stripR) (by simpa using hp)
      rw [e1, e2]
end Go.Det
end

section
set_option linter.unusedVariables false
set_option linter.unusedSimpArgs false
namespace Go.Det.Sea
open Go Go.Det

def hd20_0 (t : Tr) : St := mkS 88 [(1, .ptr 1 18 0 0), (2, .ptr 2 18 0 0), (3, .nilsl), (4, .int .i64 0)] [(1, .box t.cells), (2, .box zeroE)] []
def hd20_1 (t : Tr) (ls : List Tr) (i : Nat) : St := mkS 88 [(1, .ptr 1 18 0 0), (2, .ptr 2 18 0 0), (3, .rsl 35 18 0 i), (4, .int .i64 i)] [(1, .box t.cells), (2, .box zeroE), (35, .row 18 (Tr.encs ls))] []
def ex20_0 (t : Tr) : St := mkS 88 [(1, .ptr 1 18 0 0), (2, .ptr 2 18 0 0), (3, .nilsl)] [(1, .box t.cells), (2, .box zeroE)] []
def ex20_1 (t : Tr) (ls : List Tr) (i : Nat) : St := mkS 88 [(1, .ptr 1 18 0 0), (2, .ptr 2 18 0 0), (3, .rsl 35 18 0 i)] [(1, .box t.cells), (2, .box zeroE), (35, .row 18 (Tr.encs ls))] []
def F20 (t : Tr) (ls : List Tr) (k : Ex → St → Prop) : Prop := brB (t.kids.isEmpty) (k (.exit 0) (ex20_0 t)) (k (.exit 0) (ex20_1 t ls t.kids.length))
def E20b (t x : Tr) (i : Nat) : Env := { ss := [(33, 20, callG (i < t.kids.length) [(kid t i).dv] x.dv)], an := [(32, (kid t i).dv)] }
def E20 (t x y : Tr) (ls : List Tr) (L : St → Prop) : Env := { ss := [(19, 20, callG (t.kids.length = 1) [(kid t 0).dv] x.dv)], an := [(18, (kid t 0).dv), (55, y.dv), (63, y.dv), (72, y.dv), (78, y.dv)], sp := [9], wr := [82], ls := [(0, loopS [1, 2, 3, 4] [1, 2, 35] 88 L (F20 t ls))] }
theorem vc20 (t x y : Tr) (ls : List Tr) (L : St → Prop) (Φ : DV → List Blk → Prop) : (vcF cfg (E20 t x y ls L) 20 [t.dv] [] Φ) =
    (brB (Tr.kind t == (10 : Int) && (↑(List.length (Tr.encs (Tr.kids t))) : Int) == (1 : Int)) (obB (decide (0 < List.length (Tr.encs (Tr.kids t)))) ((Tr.encs (Tr.kids t))[Int.toNat (0 : Int)]? = some (Tr.dv (kid t 0)) ∧ List.length (Tr.kids t) = 1 ∧ [Tr.dv (kid t 0)] = [Tr.dv (kid t 0)] ∧ Φ (Tr.dv x) [])) (L (mkS 88 [(1, DV.ptr 1 18 0 0), (2, DV.ptr 2 18 0 0), (3, DV.nilsl), (4, DV.int IntKind.i64 (0 : Int))] [(1, Blk.box (Tr.cells t)), (2, Blk.box zeroE)] []) ∧ brB (List.isEmpty (Tr.kids t)) (brB (Tr.kind t == (7 : Int)) (brB (Tr.op t == (1 : Int)) (Φ (DV.agg (Tr.cellsK t DV.nilsl)) []) (Φ (DV.agg (Tr.cellsK t DV.nilsl)) [])) (Φ (DV.agg (Tr.cellsK t DV.nilsl)) [])) (brB (Tr.kind t == (7 : Int)) (brB (Tr.op t == (1 : Int)) (brB ((↑(List.length (Tr.kids t)) : Int) == (1 : Int)) (obB (decide (0 < List.length (Tr.kids t))) ((Tr.encs ls)[0 + Int.toNat (0 : Int)]? = some (Tr.dv y) ∧ brB (Tr.kind y == (1 : Int)) (obB (decide (0 < List.length (Tr.kids t))) ((Tr.encs ls)[0 + Int.toNat (0 : Int)]? = some (Tr.dv y) ∧ brB ((Tr.v y).kind == (1 : Int)) (obB (decide (0 < List.length (Tr.kids t))) ((Tr.encs ls)[0 + Int.toNat (0 : Int)]? = some (Tr.dv y) ∧ brB (decide ((Tr.v y).m > (0 : Int))) (obB (decide (0 < List.length (Tr.kids t))) ((Tr.encs ls)[0 + Int.toNat (0 : Int)]? = some (Tr.dv y) ∧ Φ (DV.agg [DV.int IntKind.i64 (1 : Int), DV.int IntKind.i64 (Tr.v y).kind, DV.int IntKind.i64 (IntKind.wrap IntKind.i64 ((0 : Int) - (Tr.v y).m)), DV.int IntKind.i64 (Tr.v y).s, DV.str (Tr.v y).txt, DV.bool (Tr.v y).b, DV.int IntKind.i64 (Tr.v y).e, DV.int IntKind.i64 (0 : Int), DV.int IntKind.i64 (0 : Int), DV.bool false, DV.bool false, DV.int IntKind.i64 (0 : Int), DV.int IntKind.i64 (0 : Int), DV.bool false, DV.bool false, DV.int IntKind.i64 (0 : Int), DV.int IntKind.i64 (0 : Int), DV.nilsl]) [])) (obB (decide (0 + List.length (Tr.kids t) ≤ List.length (Tr.encs ls))) (Φ (DV.agg (Tr.cellsK t (DV.psl 18 (List.take (List.length (Tr.kids t)) (Tr.encs ls))))) [])))) (obB (decide (0 + List.length (Tr.kids t) ≤ List.length (Tr.encs ls))) (Φ (DV.agg (Tr.cellsK t (DV.psl 18 (List.take (List.length (Tr.kids t)) (Tr.encs ls))))) [])))) (obB (decide (0 + List.length (Tr.kids t) ≤ List.length (Tr.encs ls))) (Φ (DV.agg (Tr.cellsK t (DV.psl 18 (List.take (List.length (Tr.kids t)) (Tr.encs ls))))) [])))) (obB (decide (0 + List.length (Tr.kids t) ≤ List.length (Tr.encs ls))) (Φ (DV.agg (Tr.cellsK t (DV.psl 18 (List.take (List.length (Tr.kids t)) (Tr.encs ls))))) []))) (obB (decide (0 + List.length (Tr.kids t) ≤ List.length (Tr.encs ls))) (Φ (DV.agg (Tr.cellsK t (DV.psl 18 (List.take (List.length (Tr.kids t)) (Tr.encs ls))))) []))) (obB (decide (0 + List.length (Tr.kids t) ≤ List.length (Tr.encs ls))) (Φ (DV.agg (Tr.cellsK t (DV.psl 18 (List.take (List.length (Tr.kids t)) (Tr.encs ls))))) []))))) := by kernel_rfl
theorem vc20_0 (t x : Tr) (L : St → Prop) (K : Ex → St → Prop) : (vcB cfg (E20b t x 0) 20 0 (hd20_0 t) (bodyK L [1, 2, 3, 4] [1, 2, 35] [1, 2, 3] [1, 2, 35] 88 K)) =
    (brB (decide ((0 : Int) < (↑(List.length (Tr.encs (Tr.kids t))) : Int))) (obB (decide (0 < List.length (Tr.encs (Tr.kids t)))) ((Tr.encs (Tr.kids t))[Int.toNat (0 : Int)]? = some (Tr.dv (kid t 0)) ∧ 0 < List.length (Tr.kids t) ∧ [Tr.dv (kid t 0)] = [Tr.dv (kid t 0)] ∧ L (mkS 88 [(1, DV.ptr 1 18 0 0), (2, DV.ptr 2 18 0 0), (3, DV.rsl 35 18 0 1), (4, DV.int IntKind.i64 (1 : Int))] [(1, Blk.box (Tr.cells t)), (2, Blk.box zeroE), (35, Blk.row 18 [Tr.dv x])] []))) (K (Ex.exit 0) (mkS 88 [(1, DV.ptr 1 18 0 0), (2, DV.ptr 2 18 0 0), (3, DV.nilsl)] [(1, Blk.box (Tr.cells t)), (2, Blk.box zeroE)] []))) := by kernel_rfl
theorem vc20_1 (t x : Tr) (ls : List Tr) (i : Nat) (L : St → Prop) (K : Ex → St → Prop) : (vcB cfg (E20b t x i) 20 0 (hd20_1 t ls i) (bodyK L [1, 2, 3, 4] [1, 2, 35] [1, 2, 3] [1, 2, 35] 88 K)) =
    (brB (decide ((↑i : Int) < (↑(List.length (Tr.encs (Tr.kids t))) : Int))) (obB (decide (i < List.length (Tr.encs (Tr.kids t)))) ((Tr.encs (Tr.kids t))[Int.toNat (↑i : Int)]? = some (Tr.dv (kid t i)) ∧ i < List.length (Tr.kids t) ∧ [Tr.dv (kid t i)] = [Tr.dv (kid t i)] ∧ obB (decide (0 + i ≤ List.length (Tr.encs ls))) (obB (roomy 152 (i + 1)) (obB (inR IntKind.i64 ((↑i : Int) + (1 : Int))) (L (mkS 88 [(1, DV.ptr 1 18 0 0), (2, DV.ptr 2 18 0 0), (3, DV.rsl 35 18 0 (i + 1)), (4, DV.int IntKind.i64 ((↑i : Int) + (1 : Int)))] [(1, Blk.box (Tr.cells t)), (2, Blk.box zeroE), (35, Blk.row 18 (List.take i (Tr.encs ls) ++ [Tr.dv x]))] [])))))) (K (Ex.exit 0) (mkS 88 [(1, DV.ptr 1 18 0 0), (2, DV.ptr 2 18 0 0), (3, DV.rsl 35 18 0 i)] [(1, Blk.box (Tr.cells t)), (2, Blk.box zeroE), (35, Blk.row 18 (Tr.encs ls))] []))) := by kernel_rfl
section
variable {Pr Ow : Nat → List DV → DV → Prop}
theorem nt20 : ntOf cfg 20 = 88 := by kernel_rfl
theorem nd20 : nodupK (loops 0 (codeOf cfg 20)) = true := by kernel_rfl
theorem stripR_len (t : Tr) : (t.kids.map stripR).length = t.kids.length := List.length_map _
theorem map_get {f : Tr → Tr} {t : Tr} {i : Nat} (h : i < t.kids.length) : (t.kids.map f)[i]? = some (f (kid t i)) := by
  rw [List.getElem?_map, List.getElem?_eq_getElem h]
  unfold kid
  rw [List.getD_eq_getElem?_getD, List.getElem?_eq_getElem h]; rfl
theorem map_snoc {f : Tr → Tr} {t : Tr} {i : Nat} (h : i < t.kids.length) : Tr.encs ((t.kids.map f).take i) ++ [(f (kid t i)).dv] = Tr.encs ((t.kids.map f).take (i + 1)) := by
  rw [List.take_add_one, map_get h, Tr.encs_eq, Tr.encs_eq, List.map_append]
  simp [Tr.enc_eq]
theorem loop20_1 {t : Tr} (hn : t.count ≤ 1000000) (ih : ∀ i, i < t.kids.length → ∀ Φ : DV → List Blk → Prop, Φ (stripR (kid t i)).dv [] → GoC cfg Pr Ow 20 [(kid t i).dv] [] Φ) {K : Ex → St → Prop} (hK : K (.exit 0) (ex20_1 t (t.kids.map stripR) t.kids.length)) :
    ∀ i, i ≤ t.kids.length → GoL cfg Pr Ow 20 88 (bodyOf cfg 20 0) (hd20_1 t ((t.kids.map stripR).take i) i) K := by
  have hc := kids_count t
  refine count_loop (hd := fun i => hd20_1 t ((t.kids.map stripR).take i) i) (E := fun i => E20b t (stripR (kid t i)) i) (ks := [1, 2, 3, 4]) (bs := [1, 2, 35]) (ks2 := [1, 2, 3]) (bs2 := [1, 2, 35]) nt20 (fun i _ => envOK trivial ⟨callG_ok (ih i), trivial⟩ trivial) (fun _ => ⟨rfl, rfl⟩) ?_
  intro i hi L hL
  rw [vc20_1]
  have hlen : (Tr.encs ((t.kids.map stripR).take i)).length = i := by rw [Tr.encs_len, List.length_take, stripR_len]; omega
  refine brB_of (fun h => ?_) (fun h => ?_)
  · have hlt : i < t.kids.length := by simpa [Tr.encs_len] using h
    simp only [obB_iff, decide_eq_true_eq]
    refine ⟨by rwa [Tr.encs_len], encs_kid hlt, hlt, trivial, by omega, roomy_of (by omega) (by omega), inR64 (by omega), ?_⟩
    rw [take_encs, map_snoc hlt, ← cast_succ]
    exact hL hlt
  · simp only [decide_eq_false_iff_not, Tr.encs_len] at h
    obtain rfl : i = t.kids.length := by omega
    have : (t.kids.map stripR).take t.kids.length = t.kids.map stripR := by rw [← stripR_len t, List.take_length]
    rw [this]
    exact hK
theorem loop20_0 {t : Tr} (hn : t.count ≤ 1000000) (ih : ∀ i, i < t.kids.length → ∀ Φ : DV → List Blk → Prop, Φ (stripR (kid t i)).dv [] → GoC cfg Pr Ow 20 [(kid t i).dv] [] Φ) {K : Ex → St → Prop} (hK : F20 t (t.kids.map stripR) K) :
    GoL cfg Pr Ow 20 88 (bodyOf cfg 20 0) (hd20_0 t) K := by
  have hc := kids_count t
  unfold F20 at hK
  rw [brB_iff] at hK
  refine round_of (E := E20b t (stripR (kid t 0)) 0) (L := fun st => 0 < t.kids.length ∧ st = hd20_1 t ((t.kids.map stripR).take 1) 1) (ks := [1, 2, 3, 4]) (bs := [1, 2, 35]) (ks2 := [1, 2, 3]) (bs2 := [1, 2, 35]) (envOK trivial ⟨callG_ok (ih 0), trivial⟩ trivial) nt20 rfl ?_ ?_
  · rw [vc20_0]
    refine brB_of (fun h => ?_) (fun h => ?_)
    · have hlt : 0 < t.kids.length := by simpa [Tr.encs_len] using h
      simp only [obB_iff, decide_eq_true_eq, Tr.encs_len]
      refine ⟨hlt, encs_kid hlt, hlt, trivial, hlt, ?_⟩
      have := map_snoc (f := stripR) hlt
      simp only [List.take_zero, Tr.encs, List.nil_append] at this
      rw [this]; rfl
    · simp only [decide_eq_false_iff_not, Tr.encs_len] at h
      exact hK.1 (by rw [List.isEmpty_iff, ← List.length_eq_zero_iff]; omega)
  · rintro _ ⟨h0, rfl⟩
    refine loop20_1 hn ih (hK.2 ?_) 1 h0
    cases hk : t.kids with
    | nil => rw [hk] at h0; simp at h0
    | cons _ _ => rfl

/-- What values a tree has that is right in its size. -/
theorem withKids_dv (t : Tr) (l : List Tr) : (t.withKids l).dv = .agg (t.cellsK (.psl 18 (Tr.encs l))) := by cases t; rfl
theorem stripR_go : ∀ (t : Tr), t.count ≤ 1000000 → ∀ Φ : DV → List Blk → Prop, Φ (stripR t).dv [] → GoC cfg Pr Ow 20 [t.dv] [] Φ := by
  intro t
  induction hm : t.count using Nat.strongRecOn generalizing t with
  | _ m ih =>
    subst hm
    intro hn Φ hΦ
    have ih' : ∀ i, i < t.kids.length → ∀ Φ : DV → List Blk → Prop, Φ (stripR (kid t i)).dv [] → GoC cfg Pr Ow 20 [(kid t i).dv] [] Φ := fun i hi =>
      ih _ (kid_count hi) (kid t i) rfl (by have := kid_count hi; omega)
    refine go_wk (WkL.refl _) (fn_of (E := E20 t (stripR (kid t 0)) (stripR (kid t 0)) (t.kids.map stripR) fun st => st = hd20_0 t) (envOK trivial ⟨callG_ok fun h1 => ih' 0 (by omega), trivial⟩ trivial) nt20 nd20 ?_ ?_)
    · intro b sp hl st k hs
      obtain ⟨rfl, rfl⟩ := look_one rfl hl
      exact loopS_ok (fun st hst k hk => by subst hst; exact loop20_0 hn ih' hk) hs
    · rw [stripR_eq] at hΦ
      rw [vc20]
      have hlm : (Tr.encs (t.kids.map stripR)).length = t.kids.length := by rw [Tr.encs_len, stripR_len]
      refine brB_of (fun h => ?_) (fun h => ?_)
      · simp only [Bool.and_eq_true, beq_iff_eq, Tr.encs_len] at h
        have h1 : t.kids.length = 1 := by omega
        rw [if_pos (by simp [h.1, h1])] at hΦ
        simp only [obB_iff, decide_eq_true_eq, Tr.encs_len]
        exact ⟨by omega, encs_kid (by omega), h1, trivial, _, .inl rfl, hΦ⟩
      · have hc : ¬ (t.kind == 10 && t.kids.length == 1) = true := by
          intro hc
          simp only [Bool.and_eq_true, beq_iff_eq] at hc
          simp [hc.1, hc.2, Tr.encs_len] at h
        rw [if_neg hc] at hΦ
        refine ⟨rfl, brB_of (fun he => ?_) (fun he => ?_)⟩
        · have hk : t.kids = [] := by simpa using he
          have hnil : ∃ r', (DV.agg (t.cellsK .nilsl) = r' ∨ WkV (.agg (t.cellsK .nilsl)) r') ∧ Φ r' [] := by
            refine ⟨_, .inr (wk_cells t 18), ?_⟩
            rw [hk] at hΦ
            simp only [List.map_nil, foldR, withKids_dv, Tr.encs] at hΦ
            exact hΦ
          exact brB_of (fun _ => brB_of (fun _ => hnil) (fun _ => hnil)) (fun _ => hnil)
        · have hrest : (t.kids.length = 1 → signed t (stripR (kid t 0)) = false) → obB (decide (0 + t.kids.length ≤ (Tr.encs (t.kids.map stripR)).length))
              (∃ r', (DV.agg (t.cellsK (.psl 18 ((Tr.encs (t.kids.map stripR)).take t.kids.length))) = r' ∨ WkV (.agg (t.cellsK (.psl 18 ((Tr.encs (t.kids.map stripR)).take t.kids.length)))) r') ∧ Φ r' []) := by
            intro hs
            refine obB_of (by simp [hlm]) ⟨_, .inl rfl, ?_⟩
            have e : (Tr.encs (t.kids.map stripR)).take t.kids.length = Tr.encs (t.kids.map stripR) := by rw [← hlm, List.take_length]
            rw [e, ← withKids_dv]
            have ef : foldR t (t.kids.map stripR) = t.withKids (t.kids.map stripR) := by
              by_cases h1 : t.kids.length = 1
              · obtain ⟨x, hx⟩ : ∃ x, t.kids = [x] := List.length_eq_one_iff.1 h1
                have hk0 : kid t 0 = x := by unfold kid; rw [hx]; rfl
                have hs := hs h1
                rw [hk0] at hs
                rw [hx]
                simp only [List.map_cons, List.map_nil, foldR, hs, Bool.false_eq_true, if_false]
              · match hm : t.kids.map stripR with
                | [] => rfl
                | [_] => have := stripR_len t; rw [hm] at this; simp at this; omega
                | _ :: _ :: _ => rfl
            rwa [ef] at hΦ
          have hget : t.kids.length = 1 → (Tr.encs (t.kids.map stripR))[0 + Int.toNat (0 : Int)]? = some (stripR (kid t 0)).dv := by
            intro h1
            rw [Tr.encs_eq, List.getElem?_map]
            have := map_get (f := stripR) (t := t) (i := 0) (by omega)
            simp only [Int.toNat_zero, Nat.add_zero]
            rw [this]; simp [Tr.enc_eq]
          refine brB_of (fun q1 => brB_of (fun q2 => brB_of (fun q3 => ?_) (fun q3 => ?_)) (fun q2 => ?_)) (fun q1 => ?_)
          · have h1 : t.kids.length = 1 := by
              have : (t.kids.length : Int) = 1 := by simpa using q3
              omega
            have hp : decide (0 < t.kids.length) = true := by simp [h1]
            refine obB_of hp ⟨hget h1, brB_of (fun q4 => obB_of hp ⟨hget h1, brB_of (fun q5 => obB_of hp ⟨hget h1, brB_of (fun q6 => obB_of hp ⟨hget h1, ?_⟩) (fun q6 => ?_)⟩) (fun q5 => ?_)⟩) (fun q4 => ?_)⟩
            · have hs : signed t (stripR (kid t 0)) = true := by
                simp only [signed, q1, q2, q4, q5, q6, Bool.and_self]
              obtain ⟨x, hx⟩ : ∃ x, t.kids = [x] := List.length_eq_one_iff.1 h1
              have hk0 : kid t 0 = x := by unfold kid; rw [hx]; rfl
              rw [hk0] at hs ⊢
              rw [hx] at hΦ
              simp only [List.map_cons, List.map_nil, foldR, hs, if_true] at hΦ
              exact ⟨_, .inr (wk_cells (.mk 1 (stripR x).v.neg rf0 rf0 0 0 []) 18), hΦ⟩
            · exact hrest fun _ => by simp [signed, q6]
            · exact hrest fun _ => by simp [signed, q5]
            · exact hrest fun _ => by simp [signed, q4]
          · exact hrest fun h1 => by simp [h1] at q3
          · exact hrest fun _ => by simp [signed, q2]
          · exact hrest fun _ => by simp [signed, q1]
end
end Go.Det.Sea
end

section
set_option linter.unusedVariables false
set_option linter.unusedSimpArgs false
namespace Go.Det.Sea
open Go Go.Det

def cloneS (es : List DV) : OSpec := fun xs k => xs = [.psl 18 es] ∧ k (.psl 18 es)
def hd19 (t : Tr) (n : Nat) (ls : List Tr) (i : Nat) : St := mkS 76 [(1, .ptr 1 18 0 0), (2, .ptr 2 18 0 0), (11, .rsl 8 18 0 n), (12, .int .i64 n), (13, .int .i64 i)] [(1, .box (t.cellsK (.rsl 8 18 0 n))), (2, .box zeroE), (8, .row 18 (Tr.encs ls))] []
def ex19 (t : Tr) (n : Nat) (ls : List Tr) : St := mkS 76 [(1, .ptr 1 18 0 0), (2, .ptr 2 18 0 0)] [(1, .box (t.cellsK (.rsl 8 18 0 n))), (2, .box zeroE), (8, .row 18 (Tr.encs ls))] []
def F19 (t : Tr) (n : Nat) (ls : List Tr) (k : Ex → St → Prop) : Prop := k (.exit 0) (ex19 t n ls)
def E19b (g : Prop) (x y : Tr) : Env := { ss := [(22, 19, callG g [x.dv] y.dv)], an := [(17, x.dv)] }
def E19 (t : Tr) (e : DV) (r : List DV) (y : Tr) (ls : List Tr) (n : Nat) (L : St → Prop) : Env := { ow := [(43, cloneS (e :: r))], an := [(33, y.dv)], wr := [70], ls := [(0, loopS [1, 2, 11, 12, 13] [1, 2, 8] 76 L (F19 t n ls))] }
def E19n (t : Tr) (L : St → Prop) : Env := { ow := [(43, cloneS [])], ls := [(0, loopS [1, 2, 11, 12, 13] [1, 2] 76 L (fun k => k (.exit 0) (mkS 76 [(1, .ptr 1 18 0 0), (2, .ptr 2 18 0 0)] [(1, .box (t.cellsK (.psl 18 []))), (2, .box zeroE)] [])))] }
theorem vc19n (t : Tr) (L : St → Prop) (Φ : DV → List Blk → Prop) : (vcF cfg (E19n t L) 19 [.agg (t.cellsK (.psl 18 []))] [] Φ) =
    ([DV.psl 18 []] = [DV.psl 18 []] ∧ L (mkS 76 [(1, DV.ptr 1 18 0 0), (2, DV.ptr 2 18 0 0), (11, DV.psl 18 []), (12, DV.int IntKind.i64 (0 : Int)), (13, DV.int IntKind.i64 (0 : Int))] [(1, Blk.box (Tr.cellsK t (DV.psl 18 []))), (2, Blk.box zeroE)] []) ∧ Φ (DV.agg (Tr.cellsK t (DV.psl 18 []))) []) := by kernel_rfl
theorem vc19n_1 (t : Tr) (L : St → Prop) (K : Ex → St → Prop) : (vcB cfg E0 19 0 (mkS 76 [(1, .ptr 1 18 0 0), (2, .ptr 2 18 0 0), (11, .psl 18 []), (12, .int .i64 0), (13, .int .i64 0)] [(1, .box (t.cellsK (.psl 18 []))), (2, .box zeroE)] []) (bodyK L [] [] [1, 2] [1, 2] 76 K)) =
    (K (Ex.exit 0) (mkS 76 [(1, DV.ptr 1 18 0 0), (2, DV.ptr 2 18 0 0)] [(1, Blk.box (Tr.cellsK t (DV.psl 18 []))), (2, Blk.box zeroE)] [])) := by kernel_rfl
theorem vc19 (t : Tr) (e : DV) (r : List DV) (y : Tr) (ls : List Tr) (n : Nat) (L : St → Prop) (Φ : DV → List Blk → Prop) : (vcF cfg (E19 t e r y ls n L) 19 [.agg (t.cellsK (.psl 18 (e :: r)))] [] Φ) =
    ([DV.psl 18 (e :: r)] = [DV.psl 18 (e :: r)] ∧ L (mkS 76 [(1, DV.ptr 1 18 0 0), (2, DV.ptr 2 18 0 0), (11, DV.rsl 8 18 0 (List.length (e :: r))), (12, DV.int IntKind.i64 (↑(List.length (e :: r)) : Int)), (13, DV.int IntKind.i64 (0 : Int))] [(1, Blk.box (Tr.cellsK t (DV.rsl 8 18 0 (List.length (e :: r))))), (2, Blk.box zeroE), (8, Blk.row 18 (e :: r))] []) ∧ brB ((↑n : Int) != (1 : Int)) (obB (decide (0 + n ≤ List.length (Tr.encs ls))) (Φ (DV.agg (Tr.cellsK t (DV.psl 18 (List.take n (Tr.encs ls))))) [])) (obB (decide (0 < n)) ((Tr.encs ls)[0 + Int.toNat (0 : Int)]? = some (Tr.dv y) ∧ brB (Tr.kind t == (10 : Int)) (Φ (Tr.dv y) []) (brB (Tr.kind t == (7 : Int) && Tr.op t == (1 : Int) && Tr.kind y == (1 : Int) && (Tr.v y).kind == (1 : Int) && decide ((Tr.v y).m > (0 : Int))) (Φ (DV.agg [DV.int IntKind.i64 (Tr.kind y), DV.int IntKind.i64 (Tr.v y).kind, DV.int IntKind.i64 (IntKind.wrap IntKind.i64 ((0 : Int) - (Tr.v y).m)), DV.int IntKind.i64 (Tr.v y).s, DV.str (Tr.v y).txt, DV.bool (Tr.v y).b, DV.int IntKind.i64 (Tr.v y).e, DV.int IntKind.i64 (Tr.a y).row, DV.int IntKind.i64 (Tr.a y).col, DV.bool (Tr.a y).rr, DV.bool (Tr.a y).rc, DV.int IntKind.i64 (Tr.b y).row, DV.int IntKind.i64 (Tr.b y).col, DV.bool (Tr.b y).rr, DV.bool (Tr.b y).rc, DV.int IntKind.i64 (Tr.sheet y), DV.int IntKind.i64 (Tr.op y), DV.psl 18 (Tr.encs (Tr.kids y))]) []) (obB (decide (0 + n ≤ List.length (Tr.encs ls))) (Φ (DV.agg (Tr.cellsK t (DV.psl 18 (List.take n (Tr.encs ls))))) [])))))) := by kernel_rfl
theorem vc19_1 (t x y : Tr) (g : Prop) (n : Nat) (ls : List Tr) (i : Nat) (L : St → Prop) (K : Ex → St → Prop) : (vcB cfg (E19b g x y) 19 0 (hd19 t n ls i) (bodyK L [1, 2, 11, 12, 13] [1, 2, 8] [1, 2] [1, 2, 8] 76 K)) =
    (brB (decide ((↑i : Int) < (↑n : Int))) (obB (decide (i < n)) ((Tr.encs ls)[0 + Int.toNat (↑i : Int)]? = some (Tr.dv x) ∧ g ∧ [Tr.dv x] = [Tr.dv x] ∧ obB (decide (i < n)) (obB (decide (0 + i < List.length (Tr.encs ls))) (obB (inR IntKind.i64 ((↑i : Int) + (1 : Int))) (L (mkS 76 [(1, DV.ptr 1 18 0 0), (2, DV.ptr 2 18 0 0), (11, DV.rsl 8 18 0 n), (12, DV.int IntKind.i64 (↑n : Int)), (13, DV.int IntKind.i64 ((↑i : Int) + (1 : Int)))] [(1, Blk.box (Tr.cellsK t (DV.rsl 8 18 0 n))), (2, Blk.box zeroE), (8, Blk.row 18 (List.set (Tr.encs ls) (0 + i) (Tr.dv y)))] [])))))) (K (Ex.exit 0) (mkS 76 [(1, DV.ptr 1 18 0 0), (2, DV.ptr 2 18 0 0)] [(1, Blk.box (Tr.cellsK t (DV.rsl 8 18 0 n))), (2, Blk.box zeroE), (8, Blk.row 18 (Tr.encs ls))] []))) := by kernel_rfl
section
variable {Pr Ow : Nat → List DV → DV → Prop}
theorem nt19 : ntOf cfg 19 = 76 := by kernel_rfl
theorem nd19 : nodupK (loops 0 (codeOf cfg 19)) = true := by kernel_rfl
/-- What has been put in so far, and what has not. -/
def half (t : Tr) (i : Nat) : List Tr := (t.kids.map stripF).take i ++ t.kids.drop i
theorem half_len {t : Tr} {i : Nat} (h : i ≤ t.kids.length) : (half t i).length = t.kids.length := by simp [half]; omega
theorem half_get {t : Tr} {i : Nat} (h : i < t.kids.length) : (Tr.encs (half t i))[i]? = some (kid t i).dv := by
  rw [Tr.encs_eq, List.getElem?_map]
  have : (half t i)[i]? = some (kid t i) := by
    unfold half
    rw [List.getElem?_append_right (by simp; omega)]
    simp only [List.length_take, List.length_map]
    rw [show i - min i t.kids.length = 0 by omega, List.getElem?_drop, Nat.add_zero, List.getElem?_eq_getElem h]
    unfold kid
    rw [List.getD_eq_getElem?_getD, List.getElem?_eq_getElem h]; rfl
  rw [this]; simp [Tr.enc_eq]
theorem half_set {t : Tr} {i : Nat} (h : i < t.kids.length) : (Tr.encs (half t i)).set i (stripF (kid t i)).dv = Tr.encs (half t (i + 1)) := by
  rw [Tr.encs_eq, Tr.encs_eq, ← Tr.enc_eq, ← List.map_set]
  congr 1
  apply List.ext_getElem?
  intro j
  rw [List.getElem?_set]
  have hk : t.kids[i] = kid t i := by unfold kid; rw [List.getD_eq_getElem?_getD, List.getElem?_eq_getElem h]; rfl
  unfold half
  by_cases hj : i = j
  · subst hj
    rw [if_pos rfl, if_pos (by simp; omega)]
    rw [List.getElem?_append_left (by simp; omega), List.getElem?_take, if_pos (by omega), map_get h]
  · rw [if_neg hj]
    rcases Nat.lt_or_ge j i with hlt | hge
    · rw [List.getElem?_append_left (by simp; omega), List.getElem?_append_left (by simp; omega), List.getElem?_take, List.getElem?_take, if_pos hlt, if_pos (by omega)]
    · rw [List.getElem?_append_right (by simp; omega), List.getElem?_append_right (by simp; omega), List.getElem?_drop, List.getElem?_drop]
      simp only [List.length_take, List.length_map]
      congr 1
      omega
theorem half_all (t : Tr) : half t t.kids.length = t.kids.map stripF := by
  unfold half
  have : (t.kids.map stripF).take t.kids.length = t.kids.map stripF := by
    have e : (t.kids.map stripF).length = t.kids.length := List.length_map _
    rw [← e, List.take_length]
  rw [this]; simp
theorem loop19 {t : Tr} (hn : t.count ≤ 1000000) (ih : ∀ i, i < t.kids.length → ∀ Φ : DV → List Blk → Prop, Φ (stripF (kid t i)).dv [] → GoC cfg Pr Ow 19 [(kid t i).dv] [] Φ) {K : Ex → St → Prop} (hK : F19 t t.kids.length (t.kids.map stripF) K) :
    ∀ i, i ≤ t.kids.length → GoL cfg Pr Ow 19 76 (bodyOf cfg 19 0) (hd19 t t.kids.length (half t i) i) K := by
  have hc := kids_count t
  refine count_loop (hd := fun i => hd19 t t.kids.length (half t i) i) (E := fun i => E19b (i < t.kids.length) (kid t i) (stripF (kid t i))) (ks := [1, 2, 11, 12, 13]) (bs := [1, 2, 8]) (ks2 := [1, 2]) (bs2 := [1, 2, 8]) nt19 (fun i _ => envOK trivial ⟨callG_ok (ih i), trivial⟩ trivial) (fun _ => ⟨rfl, rfl⟩) ?_
  intro i hi L hL
  rw [vc19_1]
  refine brB_of (fun h => ?_) (fun h => ?_)
  · have hlt : i < t.kids.length := by simpa using h
    have hg := half_get hlt
    simp only [obB_iff, decide_eq_true_eq, Tr.encs_len, Nat.zero_add, half_len hi]
    refine ⟨hlt, hg, hlt, trivial, hlt, hlt, inR64 (by omega), ?_⟩
    rw [half_set hlt, ← cast_succ]
    exact hL hlt
  · simp only [decide_eq_false_iff_not] at h
    obtain rfl : i = t.kids.length := by omega
    rw [half_all]
    exact hK
theorem clone_ok {es : List DV} (hl : es.length ≤ 1000000) (hcl : ∀ es : List DV, es.length ≤ 1000000 → Ow 43 [.psl 18 es] (.psl 18 es)) : OSpecOK cfg Ow 43 (cloneS es) := by
  rintro xs k ⟨rfl, hk⟩
  exact ⟨_, hcl es hl, hk⟩
theorem foldF_one {t x : Tr} : foldF t [x] = if t.kind == 10 then x else if signed t x then x.neg else t.withKids [x] := rfl
theorem stripF_go (hcl : ∀ es : List DV, es.length ≤ 1000000 → Ow 43 [.psl 18 es] (.psl 18 es)) : ∀ (t : Tr), t.count ≤ 1000000 → ∀ Φ : DV → List Blk → Prop, Φ (stripF t).dv [] → GoC cfg Pr Ow 19 [t.dv] [] Φ := by
  intro t
  induction hm : t.count using Nat.strongRecOn generalizing t with
  | _ m ih =>
    subst hm
    intro hn Φ hΦ
    have ih' : ∀ i, i < t.kids.length → ∀ Φ : DV → List Blk → Prop, Φ (stripF (kid t i)).dv [] → GoC cfg Pr Ow 19 [(kid t i).dv] [] Φ := fun i hi =>
      ih _ (kid_count hi) (kid t i) rfl (by have := kid_count hi; omega)
    rw [stripF_eq] at hΦ
    cases hk : t.kids with
    | nil =>
      have hd : t.dv = .agg (t.cellsK (.psl 18 [])) := by unfold Tr.dv Tr.cells; rw [hk]; rfl
      rw [hd]
      rw [hk] at hΦ
      simp only [List.map_nil, foldF, withKids_dv, Tr.encs] at hΦ
      refine fn_of (E := E19n t fun st => st = mkS 76 [(1, .ptr 1 18 0 0), (2, .ptr 2 18 0 0), (11, .psl 18 []), (12, .int .i64 0), (13, .int .i64 0)] [(1, .box (t.cellsK (.psl 18 []))), (2, .box zeroE)] []) (envOK trivial trivial ⟨clone_ok (by simp) hcl, trivial⟩) nt19 nd19 ?_ ?_
      · intro b sp hl st k hs
        obtain ⟨rfl, rfl⟩ := look_one rfl hl
        refine loopS_ok (fun st hst k hk => ?_) hs
        subst hst
        refine round_of (E := E0) (L := fun _ => False) (ks := []) (bs := []) (ks2 := [1, 2]) (bs2 := [1, 2]) E0_ok nt19 rfl ?_ (fun _ h => h.elim)
        rw [vc19n_1]; exact hk
      · rw [vc19n]
        exact ⟨rfl, rfl, hΦ⟩
    | cons x l =>
      have hd : t.dv = .agg (t.cellsK (.psl 18 (x.enc :: Tr.encs l))) := by unfold Tr.dv Tr.cells; rw [hk]; rfl
      have hlen : t.kids.length = (x.enc :: Tr.encs l).length := by rw [hk]; simp [Tr.encs_len]
      have hlm : (Tr.encs (t.kids.map stripF)).length = t.kids.length := by rw [Tr.encs_len, List.length_map]
      have h0 : 0 < t.kids.length := by rw [hlen]; simp
      rw [hd]
      refine fn_of (E := E19 t x.enc (Tr.encs l) (stripF (kid t 0)) (t.kids.map stripF) t.kids.length fun st => st = hd19 t t.kids.length (half t 0) 0) (envOK trivial trivial ⟨clone_ok (by rw [← hlen]; have := kids_count t; omega) hcl, trivial⟩) nt19 nd19 ?_ ?_
      · intro b sp hl st k hs
        obtain ⟨rfl, rfl⟩ := look_one rfl hl
        exact loopS_ok (fun st hst k hk => by subst hst; exact loop19 hn ih' hk 0 (Nat.zero_le _)) hs
      · rw [vc19]
        have hall : (Tr.encs (t.kids.map stripF)).take t.kids.length = Tr.encs (t.kids.map stripF) := by rw [← hlm, List.take_length]
        have hget : (Tr.encs (t.kids.map stripF))[0 + Int.toNat (0 : Int)]? = some (stripF (kid t 0)).dv := by
          rw [Tr.encs_eq, List.getElem?_map]
          have := map_get (f := stripF) h0
          simp only [Int.toNat_zero, Nat.add_zero]
          rw [this]; simp [Tr.enc_eq]
        refine ⟨rfl, ?_, brB_of (fun q => ?_) (fun q => ?_)⟩
        · have : half t 0 = x :: l := by simp [half, hk]
          rw [this, ← hlen]; rfl
        · refine obB_of (by simp [hlm]) ?_
          rw [hall, ← withKids_dv]
          have ef : foldF t (t.kids.map stripF) = t.withKids (t.kids.map stripF) := by
            match hm : t.kids.map stripF with
            | [] => rfl
            | [_] =>
              have e : (t.kids.map stripF).length = t.kids.length := List.length_map _
              rw [hm] at e
              simp at e
              simp at q; omega
            | _ :: _ :: _ => rfl
          rwa [ef] at hΦ
        · have h1 : t.kids.length = 1 := by
            have : (t.kids.length : Int) = 1 := by simpa using q
            omega
          obtain ⟨y, hy⟩ : ∃ y, t.kids = [y] := List.length_eq_one_iff.1 h1
          have hk0 : kid t 0 = y := by unfold kid; rw [hy]; rfl
          refine obB_of (by simp [h1]) ⟨hget, ?_⟩
          rw [hk0]
          rw [hy] at hΦ
          simp only [List.map_cons, List.map_nil, foldF_one] at hΦ
          refine brB_of (fun q1 => ?_) (fun q1 => brB_of (fun q2 => ?_) (fun q2 => ?_))
          · rwa [if_pos q1] at hΦ
          · rw [if_neg (by simp [q1]), if_pos (by simpa [signed] using q2)] at hΦ
            revert hΦ
            cases stripF y
            exact fun hΦ => hΦ
          · rw [if_neg (by simp [q1]), if_neg (by simp only [signed]; rw [q2]; simp)] at hΦ
            refine obB_of (by simp [hlm, Tr.encs_len]) ?_
            rw [hall, ← withKids_dv, hy]
            exact hΦ
end
end Go.Det.Sea
end
