/-
  A part of the proof of the claim that this folder bears.
-/
import Derived.Test.YtbmepcipnnlcnaaDoorKA
import Derived.ProofKit
import Derived.Deep.Slices
import Derived.Deep.Fields
import Derived.ChangeSame
import Derived.Laws.StructEq
import Derived.MapKept
import Derived.Scope
import Derived.RangeFuncOwn
import Derived.TacticsIn
import Derived.SizedLaws
import Derived.Laws.Shifts
import Derived.Maps.RangeRun
import Derived.Lib.AppendZerosOnto
import Derived.Laws.IdiomCopy
import Derived.Laws.BytesArg
import Derived.Laws.IdiomStrings
import Derived.Deep.Upon
/- The text K13. -/
set_option linter.unusedVariables false
set_option linter.unusedSimpArgs false
namespace Go.KK

/-! A region that draws its order and ends in writes of what it has read: 'E' are the operations behind which the condition need not hold; what is taken first must come before each of them. -/
def closedB (ops : Array Oper) (listed : Array Bool) : Bool :=
  (List.range ops.size).all fun k => !listed.getD k true || match ops[k]? with
    | some o => o.after.all fun e => !Region.binds .any e || listed.getD e.on false
    | none => true
def ancB (ops : Array Oper) (i : Nat) : Nat → Nat → Bool
  | 0, _ => false
  | n + 1, k => match ops[k]? with
    | some o => o.after.any fun e => Region.binds .any e && (e.on == i || ancB ops i n e.on)
    | none => false

def Closed (ops : Array Oper) (listed : Array Bool) : Prop :=
  ∀ k o, ops[k]? = some o → listed.getD k true = true → ∀ e ∈ o.after, Region.binds .any e = true → listed.getD e.on false = true

theorem anc_waits {ops : Array Oper} {listed : Array Bool} {i : Nat} (hc : Closed ops listed) (hi : listed.getD i false = false) :
    ∀ n k, ancB ops i n k = true → ∃ o, ops[k]? = some o ∧ ∃ e ∈ o.after, Region.binds .any e = true ∧ listed.getD e.on false = false := by
  intro n
  induction n with
  | zero => intro k h; simp [ancB] at h
  | succ n ih =>
    intro k h
    simp only [ancB] at h
    cases hk : ops[k]? with
    | none => simp [hk] at h
    | some o =>
      simp only [hk] at h
      obtain ⟨e, he, hh⟩ : ∃ e ∈ o.after, (Region.binds .any e && (e.on == i || ancB ops i n e.on)) = true := by
        obtain ⟨j, hj, hh⟩ := Array.any_eq_true.1 h
        exact ⟨_, Array.getElem_mem hj, hh⟩
      simp only [Bool.and_eq_true, Bool.or_eq_true, beq_iff_eq] at hh
      obtain ⟨hb, hh⟩ := hh
      refine ⟨o, rfl, ?_⟩
      rcases hh with rfl | hh
      · exact ⟨e, he, hb, hi⟩
      · obtain ⟨o2, ho2, e2, he2, hb2, hl2⟩ := ih e.on hh
        refine ⟨e, he, hb, ?_⟩
        cases hl : listed.getD e.on false with
        | false => rfl
        | true =>
          have hl' : listed.getD e.on true = true := by
            rw [Array.getD_eq_getD_getElem?] at hl ⊢
            cases hx : listed[e.on]? with
            | none => rfl
            | some b => simp [hx] at hl ⊢; exact hl
          have := hc e.on o2 ho2 hl' e2 he2 hb2
          rw [this] at hl2; cases hl2

section
variable {P : Program} {ops : Array Oper} {Q : Exit → Act → World → Prop} {S : World → Prop}

/-- One of the operations behind which the condition need not hold has come up. -/
def hit (E : List Nat) (l : Array Bool) : Prop := ∃ e ∈ E, l.getD e false = true
def wpAnyE (P : Program) (ops : Array Oper) (Q : Exit → Act → World → Prop) (S : World → Prop) (E : List Nat) : Nat → Array Bool → Act → World → Prop
  | 0, listed, a, w => Region.ready .any ops listed = [] ∧ Q .normal a w
  | fuel + 1, listed, a, w =>
    (Region.ready .any ops listed = [] → Q .normal a w) ∧
    ∀ i ∈ Region.ready .any ops listed, wpOp P ops Q i (fun a' w' => (hit E (listed.setIfInBounds i true) ∨ S w') ∧ wpAnyE P ops Q S E fuel (listed.setIfInBounds i true) a' w') a w

theorem wpAny_of_E {E : List Nat} : ∀ (fuel : Nat) (listed : Array Bool) (a : Act) (w : World), wpAnyE P ops Q S E fuel listed a w → wpAny P .any ops Q fuel listed a w
  | 0, _, _, _, h => h
  | fuel + 1, _, _, _, h => ⟨h.1, fun i hi => wpOp_mono (fun a' w' h' => wpAny_of_E fuel _ a' w' h'.2) (h.2 i hi)⟩

theorem closed_set {listed : Array Bool} {j : Nat} (hc : Closed ops listed) (hj : j ∈ Region.ready .any ops listed) : Closed ops (listed.setIfInBounds j true) := by
  intro k o hk hl e he hb
  obtain ⟨h0, oj, hoj, hall⟩ := mem_ready.1 hj
  by_cases hkj : k = j
  · subst hkj
    rw [hk] at hoj; cases hoj
    exact getD_set_true (hall e he hb)
  · rw [getD_set_ne true (Ne.symm hkj)] at hl
    exact getD_set_true (hc k o hk hl e he hb)

theorem wpAnyE_first {E : List Nat} {i n : Nat} {oi : Oper} {v : Value} (hi : ops[i]? = some oi) (hsel : ∀ (j : Nat) (o : Oper) cs b, ops[j]? = some o → o.op ≠ .select cs b)
    (hQ : ∀ c a w, Q (.panic c) (a.put oi.dst v) w → Q (.panic c) a w) (hE : ∀ e ∈ E, ancB ops i n e = true) :
    ∀ (fuel : Nat) (listed : Array Bool) (a : Act) (w : World), Closed ops listed →
      (∀ j oj, ops[j]? = some oj → j ≠ i → listed.getD j true = false → (∀ e ∈ oj.after, Region.binds .any e = true → e.on ≠ i) → oi.apart ops oj = true) →
      i ∈ Region.ready .any ops listed → YieldsIf P ops S oi v a → S w →
      wpAnyE P ops Q S E fuel (listed.setIfInBounds i true) (a.put oi.dst v) w → wpAnyE P ops Q S E (fuel + 1) listed a w := by
  intro fuel
  induction fuel with
  | zero =>
    intro listed a w _ _ hr hy hS H
    refine ⟨fun h => (by rw [h] at hr; cases hr), fun j hj => ?_⟩
    by_cases hji : j = i
    · subst hji; exact hy.wpOp hi hS ⟨.inr hS, H⟩
    · have := ready_mono hj hji
      rw [H.1] at this
      cases this
  | succ fuel ih =>
    intro listed a w hc hfree hr hy hS H
    refine ⟨fun h => (by rw [h] at hr; cases hr), fun j hj => ?_⟩
    by_cases hji : j = i
    · subst hji; exact hy.wpOp hi hS ⟨.inr hS, H⟩
    obtain ⟨hjun, oj, hoj, hall⟩ := mem_ready.1 hj
    have hi0 : listed.getD i true = false := (mem_ready.1 hr).1
    have hi1 : listed.getD i false = false := by
      rw [Array.getD_eq_getD_getElem?] at hi0 ⊢
      cases hx : listed[i]? with
      | none => rfl
      | some b => simp [hx] at hi0 ⊢; exact hi0
    have hnot : ∀ e ∈ oj.after, Region.binds .any e = true → e.on ≠ i := fun e he hb heq => by
      have h1 := hall e he hb
      rw [heq, hi1] at h1; cases h1
    have hnoE : ¬ hit E ((listed.setIfInBounds i true).setIfInBounds j true) := fun ⟨e, he, hl⟩ => by
      obtain ⟨o, ho, e2, he2, hb, hl2⟩ := anc_waits hc hi1 n e (hE e he)
      by_cases hej : e = j
      · subst hej
        rw [hoj] at ho; cases ho
        have := hall e2 he2 hb
        rw [this] at hl2; cases hl2
      · by_cases hei : e = i
        · subst hei
          obtain ⟨_, oi2, hoi2, hall2⟩ := mem_ready.1 hr
          rw [hoi2] at ho; cases ho
          have := hall2 e2 he2 hb
          rw [this] at hl2; cases hl2
        · rw [getD_set_ne false (Ne.symm hej), getD_set_ne false (Ne.symm hei)] at hl
          have hl' : listed.getD e true = true := by
            rw [Array.getD_eq_getD_getElem?] at hl ⊢
            cases hx : listed[e]? with
            | none => rfl
            | some b => simp [hx] at hl ⊢; exact hl
          have := hc e o ho hl' e2 he2 hb
          rw [this] at hl2; cases hl2
    have h1 := H.2 j (ready_mono hj hji)
    have h2 := wpOp_putIf hoj (hfree j oj hoj hji hjun hnot) (fun cs b => hsel i oi cs b hi) (fun cs b => hsel j oj cs b hoj) hQ hy h1
    refine wpOp_mono (fun a' w' h3 => ?_) h2
    have hS' : S w' := h3.2.1.resolve_left hnoE
    refine ⟨.inr hS', ih (listed.setIfInBounds j true) a' w' (closed_set hc hj) ?_ (ready_mono hr (Ne.symm hji)) h3.1 hS' ?_⟩
    · intro k ok hk hki hun hno
      refine hfree k ok hk hki ?_ hno
      by_cases hjk : j = k
      · subst hjk; exact hjun
      · rwa [getD_set_ne true hjk] at hun
    · rw [Array.setIfInBounds_comm _ _ hji]
      exact h3.2.2
theorem hit_mono {E : List Nat} {l : Array Bool} {i : Nat} (h : hit E l) : hit E (l.setIfInBounds i true) := by
  obtain ⟨e, he, hl⟩ := h
  exact ⟨e, he, getD_set_true hl⟩
theorem hit_drop {E : List Nat} {l : Array Bool} {i j : Nat} (hij : j ≠ i) (hi : i ∉ E) (h : hit E ((l.setIfInBounds i true).setIfInBounds j true)) : hit E (l.setIfInBounds j true) := by
  obtain ⟨e, he, hl⟩ := h
  refine ⟨e, he, ?_⟩
  rw [Array.setIfInBounds_comm _ _ (Ne.symm hij)] at hl
  rwa [getD_set_ne false (fun (e2 : i = e) => hi (e2 ▸ he))] at hl
/-- What yields whatever the heap may be taken first at any time. -/
theorem wpAnyE_firstT {E : List Nat} {i : Nat} {oi : Oper} {v : Value} (hi : ops[i]? = some oi) (hsel : ∀ (j : Nat) (o : Oper) cs b, ops[j]? = some o → o.op ≠ .select cs b)
    (hQ : ∀ c a w, Q (.panic c) (a.put oi.dst v) w → Q (.panic c) a w) (hiE : i ∉ E) :
    ∀ (fuel : Nat) (listed : Array Bool) (a : Act) (w : World),
      (∀ j oj, ops[j]? = some oj → j ≠ i → listed.getD j true = false → (∀ e ∈ oj.after, Region.binds .any e = true → e.on ≠ i) → oi.apart ops oj = true) →
      i ∈ Region.ready .any ops listed → YieldsIf P ops (fun _ => True) oi v a → (hit E listed ∨ S w) →
      wpAnyE P ops Q S E fuel (listed.setIfInBounds i true) (a.put oi.dst v) w → wpAnyE P ops Q S E (fuel + 1) listed a w := by
  intro fuel
  induction fuel with
  | zero =>
    intro listed a w _ hr hy hS H
    refine ⟨fun h => (by rw [h] at hr; cases hr), fun j hj => ?_⟩
    by_cases hji : j = i
    · subst hji; exact hy.wpOp hi trivial ⟨hS.imp hit_mono id, H⟩
    · have := ready_mono hj hji
      rw [H.1] at this
      cases this
  | succ fuel ih =>
    intro listed a w hfree hr hy hS H
    refine ⟨fun h => (by rw [h] at hr; cases hr), fun j hj => ?_⟩
    by_cases hji : j = i
    · subst hji; exact hy.wpOp hi trivial ⟨hS.imp hit_mono id, H⟩
    obtain ⟨hjun, oj, hoj, hall⟩ := mem_ready.1 hj
    have hi0 : listed.getD i true = false := (mem_ready.1 hr).1
    have hi1 : listed.getD i false = false := by
      rw [Array.getD_eq_getD_getElem?] at hi0 ⊢
      cases hx : listed[i]? with
      | none => rfl
      | some b => simp [hx] at hi0 ⊢; exact hi0
    have hnot : ∀ e ∈ oj.after, Region.binds .any e = true → e.on ≠ i := fun e he hb heq => by
      have h1 := hall e he hb
      rw [heq, hi1] at h1; cases h1
    have h1 := H.2 j (ready_mono hj hji)
    have h2 := wpOp_putIf hoj (hfree j oj hoj hji hjun hnot) (fun cs b => hsel i oi cs b hi) (fun cs b => hsel j oj cs b hoj) hQ hy h1
    refine wpOp_mono (fun a' w' h3 => ?_) h2
    have hS' : hit E (listed.setIfInBounds j true) ∨ S w' := h3.2.1.imp (hit_drop hji hiE) id
    refine ⟨hS', ih (listed.setIfInBounds j true) a' w' ?_ (ready_mono hr (Ne.symm hji)) h3.1 hS' ?_⟩
    · intro k ok hk hki hun hno
      refine hfree k ok hk hki ?_ hno
      by_cases hjk : j = k
      · subst hjk; exact hjun
      · rwa [getD_set_ne true hjk] at hun
    · rw [Array.setIfInBounds_comm _ _ hji]
      exact h3.2.2
end

end Go.KK

/- The text K14. -/
set_option linter.unusedVariables false
set_option linter.unusedSimpArgs false
namespace Go.KK

theorem sl_nil_new {α : Type} {E : Enc α} {L : List Asn} {h : Hp} (hs : Sat h L) : Sat h (sl E none 0 [] :: L) :=
  ⟨fun _ => none, h, fun _ => .inl rfl, (fun _ _ hx => (by cases hx)), Hp.le_refl _, sl_iff.2 (.inl ⟨rfl, rfl, rfl⟩), hs⟩

theorem CallS.ent {P : Program} {f : FuncId} {args : Array Value} {L : List Asn} {Q : Value → List Asn → Prop}
    (h : CallS P f args L (fun v M => ∃ v' M', Q v' M' ∧ v = v' ∧ ∀ h, Sat h M → Sat h M')) : CallS P f args L Q :=
  h.mono fun v M ⟨v', M', q, e, hm⟩ => ⟨M', by rw [e]; exact q, hm⟩

theorem SlH.le {α : Type} {E : Enc α} {L : List Asn} {a : Option Addr} {cap : Nat} {xs : List α} {f : Asn → List Asn} [hh : SlH E L a cap xs f] {h : Hp} (hs : Sat h L) : xs.length ≤ cap := by
  rcases hh.own hs with ⟨_, _, h0⟩ | ⟨_, _, _, h1, _⟩
  · subst h0; simp
  · exact h1
theorem SlH.nil {α : Type} {E : Enc α} {L : List Asn} {a : Option Addr} {cap : Nat} {xs : List α} {f : Asn → List Asn} [hh : SlH E L a cap xs f] {h : Hp} (hs : Sat h L) : a = none → xs = [] ∧ cap = 0 := by
  intro ha
  rcases hh.own hs with ⟨_, h1, h0⟩ | ⟨b, _, h1, _⟩
  · exact ⟨h0, h1⟩
  · rw [ha] at h1; cases h1

section
variable {P : Program} {F : Fr} {L : List Asn} {dst : Option Tmp} {ty : TypeId} {pos : String} {aft : Array Edge} {gd : Option (Nat × Bool)}

/-- How two elements of a type are held against each other. -/
class EqE {α : Type} [DecidableEq α] (P : Program) (t : TypeId) (E : outParam (Enc α)) : Prop where
  guard : P.eqGuardType P.depth t = false
  run : ∀ (x y : α) (w : World), (Op.equal t (.agg (E.enc x).toArray) (.agg (E.enc y).toArray)).run P w = .ok (decide (x = y)) w

theorem run_eqGuard_agg {t : TypeId} {op : BinOp} {x y : Operand} {cs ds : Array Value} (h : P.eqGuardType P.depth t = false) (w : World) : (eqGuard op t x y (.agg cs) (.agg ds)).run P w = .ok () w := by
  unfold eqGuard
  cases op <;> simp [h]

theorem Pur.eqlE {α : Type} [DecidableEq α] {E : Enc α} {t t' : Nat} [he : EqE P t E] {x y : Operand} {a b : α} (hx : ev F x = some (.agg (E.enc a).toArray)) (hy : ev F y = some (.agg (E.enc b).toArray)) :
    Pur P F L ⟨dst, .binOp .eql t x y t', ty, pos, aft, gd⟩ (.bool (decide (a = b))) := fun ρ w hρ _ => by
  have h1 := run_eqGuard_agg (P := P) (op := .eql) (x := x) (y := y) (cs := (E.enc a).toArray) (ds := (E.enc b).toArray) he.guard w
  have h2 := he.run a b w
  unfold execOp
  simp only [Sem.run_bind, hρ _ _ hx, hρ _ _ hy, h1, Result.andThen_ok]
  simp [binOp, h2]
end

/-- A law on one assertion ahead, used wherever it stands. -/
theorem CallS.atM {P : Program} {fn : FuncId} {args : Array Value} {L : List Asn} {A B : Asn} {X : Value} {f : Asn → List Asn} (h : ∀ R, CallS P fn args (A :: R) (fun v M => v = X ∧ M = B :: R)) (hr : ∀ B, Rep A B L (f B)) :
    CallS P fn args L (fun v M => v = X ∧ M = f B) :=
  (CallS.at (Q := fun v B' => v = X ∧ B' = B) (fun R => (h R).mono fun v M ⟨e1, e2⟩ => ⟨M, ⟨B, ⟨e1, rfl⟩, e2⟩, fun _ h => h⟩) hr).mono fun v M ⟨B', ⟨e1, e2⟩, e3⟩ => ⟨M, ⟨e1, by rw [e3, e2]⟩, fun _ h => h⟩
theorem CallS.atR {P : Program} {fn : FuncId} {args : Array Value} {L : List Asn} {A : Asn} {X : Value} {f : Asn → List Asn} (h : ∀ R, CallS P fn args (A :: R) (fun v M => v = X ∧ M = A :: R)) (hr : ∀ B, Rep A B L (f B)) :
    CallS P fn args L (fun v M => v = X ∧ M = L) :=
  (CallS.atM h hr).mono fun v M ⟨e1, e2⟩ => ⟨M, ⟨e1, by rw [e2, ← Rep.same (hr A)]⟩, fun _ h => h⟩
end Go.KK

/- The text K15. -/
set_option linter.unusedVariables false
set_option linter.unusedSimpArgs false
namespace Go.KK
theorem SlIn.takeN {α : Type} {E : Enc α} {L : List Asn} {a : Option Addr} {xs : List α} (h : SlIn E L a xs) (k : Nat) : SlIn E L a (xs.take k) := ⟨fun hh hs => by
  rcases h.out hh hs with h0 | ⟨b, off, C, T, fz, ha, hb, hc⟩
  · subst h0; exact .inl (by simp)
  · refine .inr ⟨b, off, C, T, fz, ha, hb, fun j v hj => hc j v ?_⟩
    have e : E.all xs = E.all (xs.take k) ++ E.all (xs.drop k) := by rw [← E.all_append, List.take_append_drop]
    rw [e, List.getElem?_append_left (List.getElem?_eq_some_iff.1 hj).1]; exact hj⟩
theorem JO.effR {c : Cx} {F : Fr} {L : List Asn} {k : List Item} {ops rest : List Oper} {o : Oper} {d : Nat} {v0 : Value} (hw : wantF ops F o = some true) (hd : o.dst = some d) (hn : Nat.blt d c.n = true) (he : Eff c.P F L o (fun v M => v = v0 ∧ M = L))
    (h : JO c ops ((d, v0) :: F) L rest k) : JO c ops F L (o :: rest) k :=
  JO.eff hw hd hn he (fun v M ⟨e1, e2⟩ => by rw [e1, e2]; exact h)
end Go.KK

/- The text K16. -/
set_option linter.unusedVariables false
set_option linter.unusedSimpArgs false
namespace Go.KK

/-! The same with what has come up as the bits of a number: the side conditions are reckoned faster. -/
def lm (n m : Nat) : Array Bool := ((List.range n).map (fun k => m.testBit k)).toArray
theorem lm_get (n m k : Nat) (d : Bool) : (lm n m).getD k d = if k < n then m.testBit k else d := by
  unfold lm
  rw [Array.getD_eq_getD_getElem?]
  by_cases h : k < n
  · simp [h]
  · simp [h]
theorem lm_set {n m i : Nat} : (lm n m).setIfInBounds i true = lm n (m ||| 2 ^ i) := by
  apply Array.ext_getElem?
  intro k
  rw [Array.getElem?_setIfInBounds]
  unfold lm
  simp only [List.getElem?_toArray, List.getElem?_map, Nat.testBit_or, Nat.testBit_two_pow, List.size_toArray, List.length_map, List.length_range]
  by_cases hk : i = k
  · subst hk
    by_cases h : i < n <;> simp [h]
  · by_cases h : k < n <;> simp [h, hk]

def readyB (ops : List Oper) (m i : Nat) : Bool :=
  match ops[i]? with
  | some o => !m.testBit i && o.after.toList.all fun e => !Region.binds .any e || m.testBit e.on
  | none => false
def freeGo (all : Array Oper) (oi : Oper) (m i : Nat) : Nat → List Oper → Bool
  | _, [] => true
  | j, o :: r => (Nat.beq j i || m.testBit j || oi.apart all o || o.after.toList.any (fun e => Region.binds .any e && Nat.beq e.on i)) && freeGo all oi m i (j + 1) r
def freeB (ops : List Oper) (m i : Nat) : Bool :=
  match ops[i]? with
  | some oi => freeGo ops.toArray oi m i 0 ops
  | none => false
def ancF (ops : List Oper) (i : Nat) : Nat → Nat → Bool
  | 0, _ => false
  | n + 1, k => match ops[k]? with
    | some o => o.after.toList.any (fun e => Region.binds .any e && Nat.beq e.on i) || o.after.toList.any (fun e => Region.binds .any e && ancF ops i n e.on)
    | none => false
def selB (ops : List Oper) : Bool := ops.all fun o => match o.op with | .select .. => false | _ => true
def okT (ops : List Oper) (E : List Nat) (m i : Nat) : Bool := readyB ops m i && freeB ops m i && E.all (fun e => ancF ops i 4 e)

theorem ready_iff {ops : List Oper} {m j : Nat} (hedge : ∀ o ∈ ops, ∀ e ∈ o.after, Region.binds .any e = true → e.on < ops.length) :
    j ∈ Region.ready .any ops.toArray (lm ops.length m) ↔ readyB ops m j = true := by
  rw [mem_ready]
  unfold readyB
  constructor
  · rintro ⟨h0, o, ho, hall⟩
    have ho' : ops[j]? = some o := by simpa using ho
    have hlt : j < ops.length := (List.getElem?_eq_some_iff.1 ho').1
    rw [ho']
    rw [lm_get, if_pos hlt] at h0
    simp only [h0, Bool.not_false, Bool.true_and, List.all_eq_true]
    intro e he
    cases hb : Region.binds .any e with
    | false => rfl
    | true =>
      have := hall e (by simpa using he) hb
      rw [lm_get, if_pos (hedge o (List.mem_of_getElem? ho') e (by simpa using he) hb)] at this
      simp [this]
  · intro h
    cases ho : ops[j]? with
    | none => simp [ho] at h
    | some o =>
      simp only [ho, Bool.and_eq_true, Bool.not_eq_true', List.all_eq_true] at h
      have hlt : j < ops.length := (List.getElem?_eq_some_iff.1 ho).1
      refine ⟨by rw [lm_get, if_pos hlt]; exact h.1, o, by simpa using ho, fun e he hb => ?_⟩
      have := h.2 e (by simpa using he)
      rw [lm_get, if_pos (hedge o (List.mem_of_getElem? ho) e he hb)]
      simpa [hb] using this

def edgeB (ops : List Oper) : Bool := ops.all fun o => o.after.toList.all fun e => !Region.binds .any e || Nat.blt e.on ops.length
theorem edge_of {ops : List Oper} (h : edgeB ops = true) : ∀ o ∈ ops, ∀ e ∈ o.after, Region.binds .any e = true → e.on < ops.length := by
  intro o ho e he hb
  have h1 := List.all_eq_true.1 h o ho
  have h2 := List.all_eq_true.1 h1 e (by simpa using he)
  simp only [hb, Bool.not_true, Bool.false_or, Nat.blt_eq] at h2
  exact h2

theorem freeGo_spec {all : Array Oper} {oi : Oper} {m i : Nat} : ∀ (l : List Oper) (k : Nat), freeGo all oi m i k l = true → ∀ j o, l[j]? = some o → k + j ≠ i → m.testBit (k + j) = false → (∀ e ∈ o.after, Region.binds .any e = true → e.on ≠ i) → oi.apart all o = true
  | [], k, _, j, o, h, _, _, _ => by simp at h
  | x :: l, k, hf, j, o, h, hne, hun, hno => by
    simp only [freeGo, Bool.and_eq_true] at hf
    cases j with
    | zero =>
      simp at h; subst h
      have h1 := hf.1
      simp only [Nat.add_zero] at hne hun
      have hb : Nat.beq k i = false := by cases hb : Nat.beq k i with | true => exact absurd (Nat.eq_of_beq_eq_true hb) hne | false => rfl
      simp only [hb, hun, Bool.false_or, Bool.or_eq_true] at h1
      rcases h1 with h1 | h1
      · exact h1
      · simp only [List.any_eq_true, Bool.and_eq_true] at h1
        obtain ⟨e, he, hbd, heq⟩ := h1
        exact absurd (Nat.eq_of_beq_eq_true heq) (hno e (by simpa using he) hbd)
    | succ j =>
      simp at h
      exact freeGo_spec l (k + 1) hf.2 j o h (by omega) (by rw [show k + 1 + j = k + (j + 1) from by omega]; exact hun) hno

theorem ancF_anc {ops : List Oper} {i : Nat} : ∀ n k, ancF ops i n k = true → ancB ops.toArray i n k = true
  | 0, k, h => by simp [ancF] at h
  | n + 1, k, h => by
    simp only [ancF] at h
    cases hk : ops[k]? with
    | none => simp [hk] at h
    | some o =>
      simp only [hk, Bool.or_eq_true, List.any_eq_true, Bool.and_eq_true] at h
      simp only [ancB, List.getElem?_toArray, hk]
      rw [Array.any_eq_true]
      rcases h with ⟨e, he, hb, hq⟩ | ⟨e, he, hb, hq⟩
      · obtain ⟨j, hj, rfl⟩ := List.mem_iff_getElem.1 he
        refine ⟨j, by simpa using hj, ?_⟩
        have := Nat.eq_of_beq_eq_true hq
        simp only [Array.getElem_toList] at hb this
        simp [hb, this]
      · obtain ⟨j, hj, rfl⟩ := List.mem_iff_getElem.1 he
        refine ⟨j, by simpa using hj, ?_⟩
        simp only [Array.getElem_toList] at hb hq
        have := ancF_anc n _ hq
        simp [hb, this]

def JM (c : Cx) (ops : List Oper) (E : List Nat) (fuel m : Nat) (Lk : List Asn) (F : Fr) (L : List Asn) (k : List Item) : Prop :=
  ∀ a w, (selB ops && edgeB ops) = true → Closed ops.toArray (lm ops.length m) → OkF c.n F a → Sat (hp w) L → wpAnyE c.P ops.toArray (Qk c k w) (fun w => Sat (hp w) Lk) E fuel (lm ops.length m) a w
def JMi (c : Cx) (ops : List Oper) (E : List Nat) (fuel m i : Nat) (Lk : List Asn) (F : Fr) (L : List Asn) (k : List Item) : Prop :=
  ∀ a w, (selB ops && edgeB ops) = true → Closed ops.toArray (lm ops.length (m ||| 2 ^ i)) → OkF c.n F a → Sat (hp w) L → wpOp c.P ops.toArray (Qk c k w) i (fun a' w' => (hit E (lm ops.length (m ||| 2 ^ i)) ∨ Sat (hp w') Lk) ∧ wpAnyE c.P ops.toArray (Qk c k w) (fun w => Sat (hp w) Lk) E fuel (lm ops.length (m ||| 2 ^ i)) a' w') a w

theorem sel_of {ops : List Oper} (h : selB ops = true) : Region.noSelect ops.toArray = true := by
  unfold Region.noSelect
  rw [List.all_toArray]
  exact h

theorem closed0 (ops : List Oper) : Closed ops.toArray (lm ops.length 0) := by
  intro k o hk hl
  have hlt : k < ops.length := by
    have : ops[k]? = some o := by simpa using hk
    exact (List.getElem?_eq_some_iff.1 this).1
  rw [lm_get, if_pos hlt] at hl
  simp at hl

/-- One of E has come up. -/
def lateB (E : List Nat) (n m : Nat) : Bool := E.any fun e => Nat.blt e n && m.testBit e
theorem lateB_hit {E : List Nat} {n m : Nat} (h : lateB E n m = true) : hit E (lm n m) := by
  unfold lateB at h
  rw [List.any_eq_true] at h
  obtain ⟨e, he, h2⟩ := h
  simp only [Bool.and_eq_true, Nat.blt_eq] at h2
  exact ⟨e, he, by rw [lm_get, if_pos h2.1]; exact h2.2⟩
theorem mem_hit {E : List Nat} {n m i m' : Nat} (hm : m ||| 2 ^ i = m') (hi : i < n) (h : i ∈ E) : hit E (lm n m') := by
  subst hm
  refine ⟨i, h, ?_⟩
  rw [lm_get, if_pos hi, Nat.testBit_or, Nat.testBit_two_pow]; simp
section rules
variable {c : Cx} {F : Fr} {L : List Asn} {k : List Item} {ops : List Oper} {o : Oper} {fuel i m m' : Nat} {E : List Nat} {Lk : List Asn}

theorem J.mask {x : Code} {n : Nat} (E : List Nat) (Lk : List Asn) (hk : kind x = 2) (hm : c.P.follows .mixedOrders = true) (hl : (cOps x).length = n) (hse : (selB (cOps x) && edgeB (cOps x)) = true)
    (h : JM c (cOps x) E n 0 Lk F L k) : J c F L (.code x :: k) := fun a w hF hs => by
  cases x <;> simp only [kind, reduceCtorEq, Nat.reduceEqDiff, Nat.succ_ne_self] at hk
  case region id ops d =>
    cases d <;> simp only [kind, reduceCtorEq, Nat.reduceEqDiff] at hk
    intro fn hf hr cs
    have h1 : (Code.region id ops true).wp c.P (Qk c k w) a w := by
      refine wp_region_any hm (wpAny_of_E (S := fun w => Sat (hp w) Lk) (E := E) _ _ _ _ ?_)
      have := h a { w with drawn := w.drawn + 1 } hse (closed0 _) hF hs
      rw [Qk.to (w := w) (w' := { w with drawn := w.drawn + 1 }) rfl] at this
      simp only [cOps, Array.length_toList] at hl this
      subst hl
      have e : lm ops.size 0 = Array.replicate ops.size false := by
        apply Array.ext_getElem?
        intro j
        unfold lm
        by_cases hj : j < ops.size <;> simp [hj]
      rw [e] at this
      simpa using this
    obtain ⟨e, a', w', hq, harr⟩ := h1 (bse c.f) k cs
    cases e <;> simp only [Qk] at hq
    obtain ⟨v, L', w'', fr, q, s, hv, st, e', l⟩ := hq.2 fn hf hr cs
    exact ⟨v, L', w'', fr, q, s, hv.trans hq.1, Steps.trans harr st, e', l⟩
theorem J.mask0 {x : Code} {n : Nat} (E : List Nat) (hk : kind x = 2) (hm : c.P.follows .mixedOrders = true) (hl : (cOps x).length = n) (hse : (selB (cOps x) && edgeB (cOps x)) = true) (h : JM c (cOps x) E n 0 L F L k) : J c F L (.code x :: k) := J.mask E L hk hm hl hse h
theorem JM.take0 {d : Nat} {v : Value} (i : Nat) (hk : ∀ h, Sat h L → Sat h Lk) (hi : ops[i]? = some o) (hc : okT ops E m i = true)
    (hy : ∀ a, OkF c.n F a → YieldsIf c.P ops.toArray (fun w => Sat (hp w) Lk) o v a) (hd : o.dst = some d) (hn : Nat.blt d c.n = true) (hm : Nat.lor m (2 ^ i) = m')
    (h : JM c ops E fuel m' Lk ((d, v) :: F) L k) : JM c ops E (fuel + 1) m Lk F L k := fun a w hse hcl hF hs => by
  unfold okT at hc
  simp only [Bool.and_eq_true] at hc hse
  obtain ⟨⟨h1, h2⟩, h5⟩ := hc
  have hedge := edge_of hse.2
  have hi' : ops.toArray[i]? = some o := by simpa using hi
  have hri := (ready_iff hedge).2 h1
  have hm2 : m' = m ||| 2 ^ i := hm.symm
  have hcl' : Closed ops.toArray (lm ops.length m') := by rw [hm2, ← lm_set]; exact closed_set hcl hri
  refine wpAnyE_first (n := 4) hi' (Region.noSelect_spec (sel_of hse.1)) (fun _ _ _ h => h) (fun e he => ancF_anc _ _ (List.all_eq_true.1 h5 e he)) fuel _ a w hcl ?_ hri (hy a hF) (hk _ hs) ?_
  · intro j oj hj hji hun hno
    have hj' : ops[j]? = some oj := by simpa using hj
    have hlt : j < ops.length := (List.getElem?_eq_some_iff.1 hj').1
    rw [lm_get, if_pos hlt] at hun
    unfold freeB at h2
    rw [hi] at h2
    exact freeGo_spec ops 0 h2 j oj hj' (by omega) (by simpa using hun) hno
  · rw [lm_set, ← hm2, hd]
    exact h _ w (by simp [hse]) hcl' (hF.put hn) hs
theorem JM.take {d : Nat} {v : Value} (i : Nat) (hk : ∀ h, Sat h L → Sat h Lk) (hi : ops[i]? = some o) (hc : okT ops E m i = true)
    (hw : wantF ops F o = some true) (hd : o.dst = some d) (hn : Nat.blt d c.n = true) (hm : Nat.lor m (2 ^ i) = m') (hp : Pur c.P F Lk o v)
    (h : JM c ops E fuel m' Lk ((d, v) :: F) L k) : JM c ops E (fuel + 1) m Lk F L k :=
  JM.take0 i hk hi hc (fun a hF => .inl ⟨wantF_ok hF hw, fun w' hs' => hp a.eval w' hF.ev hs'⟩) hd hn hm h
theorem JM.takeNo {d : Nat} (i : Nat) (hk : ∀ h, Sat h L → Sat h Lk) (hi : ops[i]? = some o) (hc : okT ops E m i = true)
    (hw : wantF ops F o = some false) (hd : o.dst = some d) (hn : Nat.blt d c.n = true) (hm : Nat.lor m (2 ^ i) = m')
    (h : JM c ops E fuel m' Lk ((d, undef) :: F) L k) : JM c ops E (fuel + 1) m Lk F L k :=
  JM.take0 i hk hi hc (fun a hF => .inr ⟨wantF_ok hF hw, rfl⟩) hd hn hm h

theorem JM.takeF {d : Nat} {v : Value} (i : Nat) (hk : lateB E ops.length m = true ∨ ∀ h, Sat h L → Sat h Lk) (hi : ops[i]? = some o) (hc : (readyB ops m i && freeB ops m i && !E.contains i) = true)
    (hw : wantF ops F o = some true) (hd : o.dst = some d) (hn : Nat.blt d c.n = true) (hm : Nat.lor m (2 ^ i) = m') (hp : Pur c.P F [] o v)
    (h : JM c ops E fuel m' Lk ((d, v) :: F) L k) : JM c ops E (fuel + 1) m Lk F L k := fun a w hse hcl hF hs => by
  simp only [Bool.and_eq_true, Bool.not_eq_true'] at hc hse
  obtain ⟨⟨h1, h2⟩, h5⟩ := hc
  have hedge := edge_of hse.2
  have hi' : ops.toArray[i]? = some o := by simpa using hi
  have hri := (ready_iff hedge).2 h1
  have hm2 : m' = m ||| 2 ^ i := hm.symm
  have hcl' : Closed ops.toArray (lm ops.length m') := by rw [hm2, ← lm_set]; exact closed_set hcl hri
  refine wpAnyE_firstT hi' (Region.noSelect_spec (sel_of hse.1)) (fun _ _ _ h => h) (fun he => by simp [he] at h5) fuel _ a w ?_ hri (.inl ⟨wantF_ok hF hw, fun w' _ => hp a.eval w' hF.ev trivial⟩) (hk.imp lateB_hit (fun g => g _ hs)) ?_
  · intro j oj hj hji hun hno
    have hj' : ops[j]? = some oj := by simpa using hj
    have hlt : j < ops.length := (List.getElem?_eq_some_iff.1 hj').1
    rw [lm_get, if_pos hlt] at hun
    unfold freeB at h2
    rw [hi] at h2
    exact freeGo_spec ops 0 h2 j oj hj' (by omega) (by simpa using hun) hno
  · rw [lm_set, ← hm2, hd]
    exact h _ w (by simp [hse]) hcl' (hF.put hn) hs
theorem JM.done (hr : Nat.beq (2 ^ ops.length) (m + 1) = true) (h : J c F L k) : JM c ops E fuel m Lk F L k := fun a w hse hcl hF hs => by
  have hm : m = 2 ^ ops.length - 1 := by have := Nat.eq_of_beq_eq_true hr; omega
  have hr' : Region.ready .any ops.toArray (lm ops.length m) = [] := by
    rw [List.eq_nil_iff_forall_not_mem]
    intro j hj
    obtain ⟨h0, o, ho, _⟩ := mem_ready.1 hj
    have hlt : j < ops.length := by
      have : ops[j]? = some o := by simpa using ho
      exact (List.getElem?_eq_some_iff.1 this).1
    rw [lm_get, if_pos hlt, hm, Nat.testBit_two_pow_sub_one] at h0
    simp [hlt] at h0
  cases fuel with
  | zero => exact ⟨hr', rfl, h a w hF hs⟩
  | succ n => exact ⟨fun _ => ⟨rfl, h a w hF hs⟩, by rw [hr']; simp⟩

theorem JM.many {rs : List Nat} (hr : (List.range ops.length).filter (readyB ops m) = rs) (hne : rs.isEmpty = false) (h : ∀ i ∈ rs, JMi c ops E fuel m i Lk F L k) : JM c ops E (fuel + 1) m Lk F L k := fun a w hse hcl hF hs => by
  have hse' := hse
  simp only [Bool.and_eq_true] at hse'
  have hedge := edge_of hse'.2
  have hiff : ∀ j, j ∈ Region.ready .any ops.toArray (lm ops.length m) ↔ j ∈ rs := by
    intro j
    rw [ready_iff hedge, ← hr, List.mem_filter, List.mem_range]
    constructor
    · intro hj
      refine ⟨?_, hj⟩
      unfold readyB at hj
      cases ho : ops[j]? with
      | none => simp [ho] at hj
      | some o => exact (List.getElem?_eq_some_iff.1 ho).1
    · exact fun hj => hj.2
  refine ⟨fun h0 => ?_, fun j hj => ?_⟩
  · cases rs with
    | nil => simp at hne
    | cons x r => have := (hiff x).2 (by simp); rw [h0] at this; cases this
  · rw [lm_set]
    exact h j ((hiff j).1 hj) a w hse (by rw [← lm_set]; exact closed_set hcl hj) hF hs
theorem JM.one (hr : (List.range ops.length).filter (readyB ops m) = [i]) (h : JMi c ops E fuel m i Lk F L k) : JM c ops E (fuel + 1) m Lk F L k :=
  JM.many hr rfl (fun j hj => by simp only [List.mem_singleton] at hj; subst hj; exact h)

theorem JMi.eff {d : Nat} {Q : Value → List Asn → Prop} (hi : ops[i]? = some o) (hw : wantF ops F o = some true) (hd : o.dst = some d) (hn : Nat.blt d c.n = true) (hm : Nat.lor m (2 ^ i) = m') (he : Eff c.P F L o Q)
    (h : ∀ v M, Q v M → ((i ∈ E ∨ lateB E ops.length m' = true) ∨ ∀ h, Sat h M → Sat h Lk) ∧ JM c ops E fuel m' Lk ((d, v) :: F) M k) : JMi c ops E fuel m i Lk F L k := fun a w hse hcl hF hs => by
  unfold wpOp
  have hm2 : m ||| 2 ^ i = m' := hm
  simp only [List.getElem?_toArray, hi]
  rw [if_pos (wantF_ok hF hw)]
  rw [hm2] at hcl ⊢
  refine .inl (he a w trivial hF.ev hs _ _ fun v w' M hq hs' hv => ?_)
  rw [hd, ← Qk.to hv]
  exact ⟨(h v M hq).1.imp (fun g => g.elim (mem_hit hm2 (List.getElem?_eq_some_iff.1 hi).1) lateB_hit) (fun g => g _ hs'), (h v M hq).2 _ _ hse hcl (hF.put hn) hs'⟩
theorem JMi.effN {Q : Value → List Asn → Prop} (hi : ops[i]? = some o) (hw : wantF ops F o = some true) (hd : o.dst = none) (hm : Nat.lor m (2 ^ i) = m') (he : Eff c.P F L o Q)
    (h : ∀ v M, Q v M → ((i ∈ E ∨ lateB E ops.length m' = true) ∨ ∀ h, Sat h M → Sat h Lk) ∧ JM c ops E fuel m' Lk F M k) : JMi c ops E fuel m i Lk F L k := fun a w hse hcl hF hs => by
  unfold wpOp
  have hm2 : m ||| 2 ^ i = m' := hm
  simp only [List.getElem?_toArray, hi]
  rw [if_pos (wantF_ok hF hw)]
  rw [hm2] at hcl ⊢
  refine .inl (he a w trivial hF.ev hs _ _ fun v w' M hq hs' hv => ?_)
  rw [hd, ← Qk.to hv]
  exact ⟨(h v M hq).1.imp (fun g => g.elim (mem_hit hm2 (List.getElem?_eq_some_iff.1 hi).1) lateB_hit) (fun g => g _ hs'), (h v M hq).2 _ _ hse hcl hF.none hs'⟩
theorem JMi.effR {d : Nat} {v0 : Value} (hk : ∀ h, Sat h L → Sat h Lk) (hi : ops[i]? = some o) (hw : wantF ops F o = some true) (hd : o.dst = some d) (hn : Nat.blt d c.n = true) (hm : Nat.lor m (2 ^ i) = m') (he : Eff c.P F L o (fun v M => v = v0 ∧ M = L))
    (h : JM c ops E fuel m' Lk ((d, v0) :: F) L k) : JMi c ops E fuel m i Lk F L k :=
  JMi.eff hi hw hd hn hm he (fun v M ⟨e1, e2⟩ => by rw [e1, e2]; exact ⟨.inr hk, h⟩)
theorem JMi.no {d : Nat} (hi : ops[i]? = some o) (hw : wantF ops F o = some false) (hd : o.dst = some d) (hn : Nat.blt d c.n = true) (hm : Nat.lor m (2 ^ i) = m') (hk : ∀ h, Sat h L → Sat h Lk)
    (h : JM c ops E fuel m' Lk ((d, undef) :: F) L k) : JMi c ops E fuel m i Lk F L k := fun a w hse hcl hF hs => by
  unfold wpOp
  have hm2 : m ||| 2 ^ i = m' := hm
  simp only [List.getElem?_toArray, hi]
  rw [if_neg (by rw [wantF_ok hF hw]; simp), hd]
  rw [hm2] at hcl ⊢
  exact ⟨.inr (hk _ hs), h _ _ hse hcl (hF.put hn) hs⟩
theorem JM.splitB {b : Bool} (t : Nat) (ht : get F t = some (.bool b)) (h1 : b = true → JM c ops E fuel m Lk ((t, .bool true) :: F) L k) (h2 : b = false → JM c ops E fuel m Lk ((t, .bool false) :: F) L k) : JM c ops E fuel m Lk F L k := fun a w hse hcl hF hs => by
  cases b
  · exact h2 rfl a w hse hcl (get_split ht hF) hs
  · exact h1 rfl a w hse hcl (get_split ht hF) hs
theorem JM.setv {u u' : Value} (t : Nat) (ht : get F t = some u) (e : u = u') (h : JM c ops E fuel m Lk ((t, u') :: F) L k) : JM c ops E fuel m Lk F L k := fun a w hse hcl hF hs => h a w hse hcl (get_set (e ▸ ht) hF) hs
theorem JM.fact {p : Prop} (hp : ∀ h, Sat h L → p) (h : p → JM c ops E fuel m Lk F L k) : JM c ops E fuel m Lk F L k := fun a w hse hcl hF hs => h (hp _ hs) a w hse hcl hF hs
theorem JM.imp {M : List Asn} (hL : ∀ h, Sat h L → Sat h M) (h : JM c ops E fuel m Lk F M k) : JM c ops E fuel m Lk F L k := fun a w hse hcl hF hs => h a w hse hcl hF (hL _ hs)
end rules
end Go.KK

/- The text K17. -/
set_option linter.unusedVariables false
set_option linter.unusedSimpArgs false
namespace Go.KK
open Go.ChangeShapes Go.WideShapes Go.ChangeAt Go.RowKit

/-- The heap that the call met is there still. -/
@[irreducible] def inp (h0 : Hp) : Asn := fun h => Hp.le h0 h
theorem inp_iff {h0 h : Hp} : inp h0 h ↔ Hp.le h0 h := by unfold inp; exact Iff.rfl
class Inp {α : outParam Type} (E : outParam (Enc α)) (h0 : Hp) (a : Option Addr) (xs : outParam (List α)) : Prop where
  out : slR E h0 a xs
instance Inp.slIn {α : Type} {E : Enc α} {h0 : Hp} {L : List Asn} {a : Option Addr} {xs : List α} [hh : Inp E h0 a xs] : SlIn E (inp h0 :: L) a xs := ⟨fun h hs => by
  obtain ⟨h1, l, s⟩ := hs.head
  exact hh.out.mono (Hp.le_trans (inp_iff.1 s) l)⟩

theorem sat_inp (w : World) : Sat (hp w) [inp (hp w)] := ⟨hp w, fun _ => none, fun _ => .inr rfl, Hp.le_refl _, (fun _ _ h => by cases h), inp_iff.2 (Hp.le_refl _), trivial⟩

/-- What the call leaves: below the heap's old size nothing has turned. -/
theorem below_of {W W' : World} (hs : Sat (hp W') [inp (hp W)]) (he : env W' = env W) : Below W.heap.size W W' := by
  obtain ⟨h1, l, s⟩ := hs.head
  have hl : Hp.le (hp W) (hp W') := Hp.le_trans (inp_iff.1 s) l
  unfold env at he
  simp only [Prod.mk.injEq] at he
  have hb : ∀ k, k < W.heap.size → W'.heap[k]? = W.heap[k]? := fun k hk => by
    have h2 : W.heap[k]? = some W.heap[k] := Array.getElem?_eq_getElem hk
    rw [h2]; exact hl _ _ h2
  refine ⟨he.1, he.2.1, he.2.2, ?_, hb⟩
  by_cases h0 : W.heap.size = 0
  · omega
  · have := hb (W.heap.size - 1) (by omega)
    rw [Array.getElem?_eq_getElem (show W.heap.size - 1 < W.heap.size by omega)] at this
    have := (Array.getElem?_eq_some_iff.1 this).1
    omega

theorem CallS.run {P : Program} {f : FuncId} {args : Array Value} {W : World} {v0 : Value} (h : CallS P f args [inp (hp W)] (fun v M => v = v0 ∧ M = [inp (hp W)])) :
    Calls P f args W fun e W' => e = .returned v0 ∧ Below W.heap.size W W' :=
  (h W (sat_inp W)).mono fun e W' ⟨v, M, ⟨e1, e2⟩, he, hs, hv⟩ => ⟨by rw [he, e1], below_of (by rw [← e2]; exact hs) hv⟩

theorem Enc.all_at {α : Type} (E : Enc α) : ∀ (xs : List α) (j : Nat) (v : Value), (E.all xs)[j]? = some v → ∃ i k x, j = i * E.m + k ∧ k < E.m ∧ xs[i]? = some x ∧ (E.enc x)[k]? = some v
  | [], j, v, h => by simp [Enc.all] at h
  | y :: ys, j, v, h => by
    have e : E.all (y :: ys) = E.enc y ++ E.all ys := by simp [Enc.all]
    rw [e] at h
    by_cases hj : j < E.m
    · rw [List.getElem?_append_left (by rw [E.len]; exact hj)] at h
      exact ⟨0, j, y, by simp, hj, rfl, h⟩
    · rw [List.getElem?_append_right (by rw [E.len]; omega), E.len] at h
      obtain ⟨i, k, x, h1, h2, h3, h4⟩ := E.all_at ys _ v h
      exact ⟨i + 1, k, x, by rw [Nat.add_mul]; omega, h2, by simpa using h3, h4⟩

theorem slR_of {α : Type} {E : Enc α} {w : World} {a : Addr} {xs : List α} (hm : 0 < E.m)
    (hc : ∀ i x, xs[i]? = some x → ∀ k v, k < E.m → (E.enc x)[k]? = some v → w.cell? (a.add (i * E.m + k)) = some v) : slR E (hp w) (some a) xs := by
  match xs, hc with
  | [], _ => exact .inl rfl
  | y :: ys, hc =>
    have hl : 0 < (E.enc y).length := by rw [E.len]; exact hm
    have h0 := hc 0 y rfl 0 _ hm (List.getElem?_eq_getElem hl)
    have hz : a.add (0 * E.m + 0) = a := by unfold Addr.add; simp
    rw [hz, cell?_eq] at h0
    obtain ⟨b, off, spot⟩ := a
    unfold cellH at h0
    simp only at h0
    split at h0
    · rename_i C T fz hb
      split at h0
      · cases h0
      · rename_i hs
        have : spot = none := by cases spot <;> simp_all
        subst this
        refine .inr ⟨b, off, C, T, fz, rfl, hb, fun j v hj => ?_⟩
        obtain ⟨i, k, x, rfl, hk, hx, hv⟩ := E.all_at _ j v hj
        have := hc i x hx k v hk hv
        rw [cell?_eq] at this
        have e : (⟨b, off, none⟩ : Addr).add (i * E.m + k) = ⟨b, off + (i * E.m + k), none⟩ := by unfold Addr.add; split <;> simp_all
        rw [e] at this
        simpa [cellH, hb] using this
    · cases h0

section
open Go.Deep
variable {H : Type} {enc : TypeId × Value → H} {P : Program} {w : World} {base : Nat} {spare : Nat → Bool} {held : Bool}
end
end Go.KK

/- The text K18. -/
set_option linter.unusedVariables false
set_option linter.unusedSimpArgs false
set_option linter.unusedSectionVars false
namespace Go.KK

/-! Strings. -/
theorem str_beq (a b : ByteArray) : (a == b) = decide (a = b) := by
  obtain ⟨⟨x⟩⟩ := a
  obtain ⟨⟨y⟩⟩ := b
  show ((⟨x⟩ : Array UInt8) == ⟨y⟩) = _
  by_cases h : x = y
  · subst h; simp
  · simp [h]
theorem str_eq (a b : ByteArray) : (a.toList == b.toList) = decide (a = b) := by rw [← beq_toListBytes, str_beq]
section
variable {P : Program} {F : Fr} {L : List Asn} {dst : Option Tmp} {ty : TypeId} {pos : String} {aft : Array Edge} {gd : Option (Nat × Bool)}

class StT' (P : Program) (t : TypeId) : Prop where out : P.underlying t = some .string
theorem Pur.eqlT {t t' : Nat} [ha : StT' P t] {x y : Operand} {a b : ByteArray} (hx : ev F x = some (.string a)) (hy : ev F y = some (.string b)) :
    Pur P F L ⟨dst, .binOp .eql t x y t', ty, pos, aft, gd⟩ (.bool (decide (a = b))) := fun ρ w hρ _ => by
  simp [execOp, hρ _ _ hx, hρ _ _ hy, eqGuard, binOp, Op.stringOp, str_eq, go_sem]
theorem Pur.neqT {t t' : Nat} [ha : StT' P t] {x y : Operand} {a b : ByteArray} (hx : ev F x = some (.string a)) (hy : ev F y = some (.string b)) :
    Pur P F L ⟨dst, .binOp .neq t x y t', ty, pos, aft, gd⟩ (.bool (decide (a ≠ b))) := fun ρ w hρ _ => by
  simp [execOp, hρ _ _ hx, hρ _ _ hy, eqGuard, binOp, Op.stringOp, str_eq, go_sem]
theorem Pur.lenT {x : Operand} {t : Nat} [ha : StT' P t] {s : ByteArray} (hx : ev F x = some (.string s)) :
    Pur P F L ⟨dst, .call ⟨.builtin .len, #[x], #[t]⟩, ty, pos, aft, gd⟩ (.int .i64 (s.size : Int)) := fun ρ w hρ _ => by
  have hu := ha.out
  simp [execOp, resolve, invoke, builtin, Builtin.len_, hρ _ _ hx, hu, underlying, goInt, go_sem]

/-! Functions as values. -/
theorem Pur.makeFunc {f : Fn} {xs ys : List Operand} {us vs : List Value} (hx : evL F xs = some us) (hy : evL F ys = some vs) :
    Pur P F L ⟨dst, .makeFunc f xs.toArray ys.toArray, ty, pos, aft, gd⟩ (.func f us.toArray vs.toArray) := fun ρ w hρ _ => by
  have h1 := evL_ok hρ hx
  have h2 := evL_ok hρ hy
  simp [execOp, Instr.makeFunc, h1, h2, go_sem]
theorem Eff.callV {f : Nat} [hb : Body P f] {g : Operand} {xs : List Operand} {vs cs : List Value} {tys : Array TypeId} {Q : Value → List Asn → Prop}
    (hg : ev F g = some (.func (.func f) #[] cs.toArray)) (hv : evL F xs = some vs) (h : CallS P f (vs ++ cs).toArray L Q) :
    Eff P F L ⟨dst, .call ⟨.value g, xs.toArray, tys⟩, ty, pos, aft, gd⟩ Q := fun a w hd ha hs next Qx hn => by
  have h0 := hb.out
  unfold hasBody at h0
  split at h0
  · rename_i fn hf
    simp only [Bool.and_eq_true, Bool.not_eq_true'] at h0
    obtain ⟨h1, h2⟩ := h0
    have hbn : fn.body.isNone = false := by cases hbb : fn.body <;> simp_all
    have hargs : (xs.toArray.map a.eval) = vs.toArray := by
      have := evL_ok ha hv
      simp [this]
    have hfe : a.eval g = .func (.func f) #[] cs.toArray := ha _ _ hg
    have hr : (execOp a.eval ⟨dst, .call ⟨.value g, xs.toArray, tys⟩, ty, pos, aft, gd⟩).run P w = .ok (.enter f (vs ++ cs).toArray) w := by
      unfold execOp
      simp only [resolve, hargs, hfe, Deferred.ofValue, Sem.run_bind, Sem.run_pure, Result.andThen_ok]
      simp [invoke, callFunc, hf, hbn, go_sem]
      rw [if_neg (by simpa using h2), if_neg (by cases hbb : fn.body <;> simp_all)]
    unfold Oper.wp
    rw [hr, Oper.upon_enter]
    refine (h w hs).mono fun e w' ⟨v, M, hq, he, hs', hv⟩ => ?_
    subst he
    exact hn v w' M hq hs' hv
  · cases h0
end

/-! Maps. -/
class MapT (P : Program) (t : TypeId) (k e : outParam TypeId) : Prop where out : P.underlying t = some (.map k e)

/-- How keys of a kind look. -/
structure KeyE (κ : Type) where
  v : κ → Value
  kind : TypeDesc
  now : ∀ a b : κ, ∀ d : Decidable (a = b), Instr.sameNow kind (v a) (v b) = some (@decide (a = b) d)
  scalar : ∀ (P : Program) (w : World) (t : TypeId) (a : κ) (em : Bool), P.underlying t = some kind → (Instr.checkKey em 10000 t (v a)).run P w = .ok () w
  bits : ∀ a b : κ, a = b → Instr.sameBits 10000 (v a) (v b) = true

def strK : KeyE ByteArray := ⟨.string, .string, fun a b d => by
  show some (a == b) = _
  rw [str_beq]
  congr 1
  cases d with
  | isTrue h => simp [h]
  | isFalse h => simp [h], fun P w t a em h => by
    have hu := run_underlying (P := P) h w
    rw [show (10000 : Nat) = 9999 + 1 from rfl, Instr.checkKey.eq_def]
    simp [Sem.run_bind, hu, go_sem], fun a b h => by
    subst h
    rw [show (10000 : Nat) = 9999 + 1 from rfl, Instr.sameBits.eq_def]; simp [str_beq]⟩
def intK : KeyE Int := ⟨.int .i64, .int .i64, fun a b d => by
  show (if IntKind.i64 = IntKind.i64 then some (a == b) else none) = _
  rw [if_pos rfl]
  congr 1
  cases d with
  | isTrue h => subst h; simp
  | isFalse h => simp [h], fun P w t a em h => by
    have hu := run_underlying (P := P) h w
    rw [show (10000 : Nat) = 9999 + 1 from rfl, Instr.checkKey.eq_def]
    simp [Sem.run_bind, hu, go_sem], fun a b h => by
    subst h
    rw [show (10000 : Nat) = 9999 + 1 from rfl, Instr.sameBits.eq_def]; simp⟩

section
variable {κ : Type} [DecidableEq κ]
def alook (m : List (κ × Value)) (k : κ) : Option Value := (m.find? (fun p => decide (k = p.1))).map (·.2)
def aset (m : List (κ × Value)) (k : κ) (v : Value) : List (κ × Value) := if (alook m k).isSome then m.map (fun p => if k = p.1 then (p.1, v) else p) else m ++ [(k, v)]

def ents (K : KeyE κ) (es : Array MapEntry) (m : List (κ × Value)) : Prop := es.toList.map (fun e => (e.key, e.val)) = m.map (fun p => (K.v p.1, p.2)) ∧ (m.map (·.1)).Nodup
/-- The entries' times of birth differ, and lie in the past. -/
def bornOk (es : Array MapEntry) (clock : Nat) : Prop := (es.toList.map (·.born)).Nodup ∧ ∀ e ∈ es.toList, e.born < clock
@[irreducible] def mp (K : KeyE κ) (b : Nat) (m : List (κ × Value)) : Asn := fun h => ∃ es clock, h b = some (.map es clock) ∧ ents K es m ∧ bornOk es clock
theorem mp_iff {K : KeyE κ} {b : Nat} {m : List (κ × Value)} {h : Hp} : mp K b m h ↔ ∃ es clock, h b = some (.map es clock) ∧ ents K es m ∧ bornOk es clock := by unfold mp; exact Iff.rfl

end

section
variable {κ : Type} [DecidableEq κ] {P : Program} {F : Fr} {L : List Asn} {dst : Option Tmp} {ty : TypeId} {pos : String} {aft : Array Edge} {gd : Option (Nat × Bool)}

end
class MpIn {κ : outParam Type} (K : outParam (KeyE κ)) (L : List Asn) (b : Nat) (m : outParam (List (κ × Value))) (f : outParam (Asn → List Asn)) : Prop where out : ∀ B, Rep (mp K b m) B L (f B)
instance MpIn.head {κ : Type} {K : KeyE κ} {L : List Asn} {b : Nat} {m : List (κ × Value)} : MpIn K (mp K b m :: L) b m (fun B => B :: L) := ⟨fun _ => .head⟩
instance (priority := 900) MpIn.tail {κ : Type} {K : KeyE κ} {A : Asn} {L : List Asn} {b : Nat} {m : List (κ × Value)} {f : Asn → List Asn} [h : MpIn K L b m f] : MpIn K (A :: L) b m (fun B => A :: f B) := ⟨fun B => .tail (h.out B)⟩
end Go.KK

/- The text K19. -/
set_option linter.unusedVariables false
set_option linter.unusedSimpArgs false
set_option linter.unusedSectionVars false
namespace Go.KK

section
variable {κ : Type} [DecidableEq κ]
theorem MpIn.get {K : KeyE κ} {L : List Asn} {b : Nat} {m : List (κ × Value)} {f : Asn → List Asn} [h : MpIn K L b m f] {hh : Hp} (hs : Sat hh L) : ∃ es clock, hh b = some (.map es clock) ∧ ents K es m := by
  obtain ⟨h1, l, a⟩ := Sat.memRep (h.out (mp K b m)) hs
  obtain ⟨es, clock, e1, e2, _⟩ := mp_iff.1 a
  exact ⟨es, clock, l _ _ e1, e2⟩
theorem MpIn.getB {K : KeyE κ} {L : List Asn} {b : Nat} {m : List (κ × Value)} {f : Asn → List Asn} [h : MpIn K L b m f] {hh : Hp} (hs : Sat hh L) : ∃ es clock, hh b = some (.map es clock) ∧ ents K es m ∧ bornOk es clock := by
  obtain ⟨h1, l, a⟩ := Sat.memRep (h.out (mp K b m)) hs
  obtain ⟨es, clock, e1, e2⟩ := mp_iff.1 a
  exact ⟨es, clock, l _ _ e1, e2⟩
variable {P : Program} {F : Fr} {L : List Asn} {dst : Option Tmp} {ty : TypeId} {pos : String} {aft : Array Edge} {gd : Option (Nat × Bool)}

class ZeV (P : Program) (t : TypeId) (z : outParam Value) : Prop where out : (P.info? t).bind (·.zero) = some z
class KeyIs (P : Program) (t : TypeId) (K : KeyE κ) : Prop where out : P.underlying t = some K.kind

theorem ents_len {K : KeyE κ} {es : Array MapEntry} {m : List (κ × Value)} (he : ents K es m) : es.size = m.length := by
  have := congrArg List.length he.1
  simpa using this
end
end Go.KK

/- The text K20. -/
set_option linter.unusedVariables false
set_option linter.unusedSimpArgs false
set_option linter.unusedSectionVars false
namespace Go.KK

/-! Slices of slices: the headers are a slice of their own, the rows are owned together. -/
structure Hdr where
  a : Option Addr
  n : Nat
  cap : Nat
  deriving Inhabited
def hdrE (T : TypeId) : Enc Hdr := ⟨T, 1, fun h => [.slice h.a h.n h.cap], fun _ => rfl, fun s v h => by
  simp only [List.mem_cons, List.not_mem_nil, or_false] at h; rcases h with rfl; rfl⟩

section
variable {α : Type} {E : Enc α}
def rowL (E : Enc α) (hs : List Hdr) (xss : List (List α)) : List Asn := (hs.zip xss).map fun p => sl E p.1.a p.1.cap p.2
@[irreducible] def rows (E : Enc α) (hs : List Hdr) (xss : List (List α)) : Asn := fun h => hs.map (·.n) = xss.map (·.length) ∧ Sat h (rowL E hs xss)
/-- All rows but one. -/
@[irreducible] def rowsBut (E : Enc α) (i : Nat) (hs : List Hdr) (xss : List (List α)) : Asn := fun h => hs.map (·.n) = xss.map (·.length) ∧ Sat h ((rowL E hs xss).eraseIdx i)

theorem rowL_get {hs : List Hdr} {xss : List (List α)} {i : Nat} {hd : Hdr} {xs : List α} (h1 : hs[i]? = some hd) (h2 : xss[i]? = some xs) : (rowL E hs xss)[i]? = some (sl E hd.a hd.cap xs) := by
  have h := (List.getElem?_zip_eq_some (l₁ := hs) (l₂ := xss) (z := (hd, xs)) (i := i)).2 ⟨h1, h2⟩
  simp only [rowL, List.getElem?_map, h, Option.map_some]

theorem rows_iff {hs : List Hdr} {xss : List (List α)} {L : List Asn} {h : Hp} : Sat h (rows E hs xss :: L) ↔ hs.map (·.n) = xss.map (·.length) ∧ Sat h (rowL E hs xss ++ L) := by
  rw [← Sat.star]
  constructor
  · rintro ⟨h1, h2, d, l1, l2, a, s⟩
    unfold rows at a
    exact ⟨a.1, h1, h2, d, l1, l2, a.2, s⟩
  · rintro ⟨e, h1, h2, d, l1, l2, a, s⟩
    refine ⟨h1, h2, d, l1, l2, ?_, s⟩
    unfold rows
    exact ⟨e, a⟩
theorem rowsBut_iff {i : Nat} {hs : List Hdr} {xss : List (List α)} {L : List Asn} {h : Hp} : Sat h (rowsBut E i hs xss :: L) ↔ hs.map (·.n) = xss.map (·.length) ∧ Sat h ((rowL E hs xss).eraseIdx i ++ L) := by
  rw [← Sat.star]
  constructor
  · rintro ⟨h1, h2, d, l1, l2, a, s⟩
    unfold rowsBut at a
    exact ⟨a.1, h1, h2, d, l1, l2, a.2, s⟩
  · rintro ⟨e, h1, h2, d, l1, l2, a, s⟩
    refine ⟨h1, h2, d, l1, l2, ?_, s⟩
    unfold rowsBut
    exact ⟨e, a⟩

theorem perm_erase {β : Type} : ∀ {l : List β} {i : Nat} {x : β}, l[i]? = some x → l.Perm (x :: l.eraseIdx i)
  | y :: l, 0, x, h => by simp at h; subst h; simp
  | y :: l, i + 1, x, h => by
    simp only [List.getElem?_cons_succ] at h
    simp only [List.eraseIdx_cons_succ]
    exact ((perm_erase h).cons y).trans (.swap _ _ _)
theorem rows_open {hs : List Hdr} {xss : List (List α)} {L : List Asn} {h : Hp} {i : Nat} {hd : Hdr} {xs : List α} (h1 : hs[i]? = some hd) (h2 : xss[i]? = some xs) (s : Sat h (rows E hs xss :: L)) :
    Sat h (sl E hd.a hd.cap xs :: rowsBut E i hs xss :: L) := by
  obtain ⟨e, s⟩ := rows_iff.1 s
  have p := (perm_erase (rowL_get (E := E) h1 h2)).append_right L
  have s2 := s.perm p
  simp only [List.cons_append] at s2
  obtain ⟨k1, k2, d, l1, l2, a, s3⟩ := s2
  exact ⟨k1, k2, d, l1, l2, a, rowsBut_iff.2 ⟨e, s3⟩⟩

end
class RowsIn {α : outParam Type} (E : outParam (Enc α)) (L : List Asn) (hs : List Hdr) (xss : outParam (List (List α))) : Prop where
  out : ∀ h, Sat h L → hs.map (·.n) = xss.map (·.length) ∧ ∀ A ∈ rowL E hs xss, ∃ h1, Hp.le h1 h ∧ A h1
instance RowsIn.head {α : Type} {E : Enc α} {L : List Asn} {hs : List Hdr} {xss : List (List α)} : RowsIn E (rows E hs xss :: L) hs xss := ⟨fun h s => by
  obtain ⟨e, s⟩ := rows_iff.1 s
  exact ⟨e, fun A hA => Sat.mem (List.mem_append_left _ hA) s⟩⟩
instance (priority := 900) RowsIn.tail {α : Type} {E : Enc α} {A : Asn} {L : List Asn} {hs : List Hdr} {xss : List (List α)} [hh : RowsIn E L hs xss] : RowsIn E (A :: L) hs xss := ⟨fun h s => hh.out h s.tail⟩
theorem RowsIn.row {α : Type} {E : Enc α} {L : List Asn} {hs : List Hdr} {xss : List (List α)} (hh : RowsIn E L hs xss) {i : Nat} {hd : Hdr} {xs : List α} (h1 : hs[i]? = some hd) (h2 : xss[i]? = some xs) : SlIn E L hd.a xs := ⟨fun h s => by
  obtain ⟨_, hA⟩ := hh.out h s
  obtain ⟨k, l, a⟩ := hA _ (List.mem_of_getElem? (rowL_get (E := E) h1 h2))
  exact (sl.slR a).mono l⟩
theorem RowsBut.row {α : Type} {E : Enc α} {L : List Asn} {hs : List Hdr} {xss : List (List α)} {i j : Nat} (hm : rowsBut E i hs xss ∈ L) (hij : i ≠ j) {hd : Hdr} {xs : List α} (h1 : hs[j]? = some hd) (h2 : xss[j]? = some xs) : SlIn E L hd.a xs := ⟨fun h s => by
  obtain ⟨k, l, a⟩ := Sat.mem hm s
  unfold rowsBut at a
  have hg := rowL_get (E := E) h1 h2
  have hmem : sl E hd.a hd.cap xs ∈ (rowL E hs xss).eraseIdx i := by
    rw [List.mem_eraseIdx_iff_getElem?]
    exact ⟨j, fun e => hij e.symm, hg⟩
  obtain ⟨k2, l2, a2⟩ := Sat.mem hmem a.2
  exact (sl.slR a2).mono (Hp.le_trans l2 l)⟩
end Go.KK

/- The text K21. -/
set_option linter.unusedVariables false
set_option linter.unusedSimpArgs false
namespace Go.KK
section
variable {P : Program} {F : Fr} {L : List Asn} {dst : Option Tmp} {ty : TypeId} {pos : String} {aft : Array Edge} {gd : Option (Nat × Bool)}
end
end Go.KK

/- The text K22. -/
/-!
  Lists of assertions put in another order, or shortened, by instances.
-/
set_option linter.unusedVariables false
set_option linter.unusedSimpArgs false
namespace Go.KK
class PullC (A : Asn) (L : List Asn) (R : outParam (List Asn)) : Prop where out : L.Perm (A :: R)
instance PullC.head {A : Asn} {L : List Asn} : PullC A (A :: L) L := ⟨.refl _⟩
instance (priority := 900) PullC.tail {A B : Asn} {L R : List Asn} [h : PullC A L R] : PullC A (B :: L) (B :: R) := ⟨(h.out.cons B).trans (.swap _ _ _)⟩
class SubC (L M : List Asn) : Prop where out : ∀ h, Sat h L → Sat h M
instance (priority := 1100) SubC.refl {L : List Asn} : SubC L L := ⟨fun _ h => h⟩
instance (priority := 1050) SubC.nil {L : List Asn} : SubC L [] := ⟨fun _ _ => trivial⟩
instance SubC.cons {A : Asn} {L R M : List Asn} [h : PullC A L R] [s : SubC R M] : SubC L (A :: M) := ⟨fun k hs => (hs.perm h.out).cons_imp (fun _ h => h) (fun _ h => s.out _ h)⟩
instance (priority := 800) SubC.drop {B : Asn} {L M : List Asn} [s : SubC L M] : SubC (B :: L) M := ⟨fun k hs => s.out k hs.tail⟩

section
variable {P : Program} {f : FuncId} {args : Array Value} {L : List Asn} {Q : Value → List Asn → Prop}
theorem CallS.p1 {A : Asn} {R : List Asn} (hp : PullC A L R) (h : CallS P f args (A :: R) Q) : CallS P f args L Q := h.pre fun _ hs => hs.perm hp.out
theorem CallS.p2 {A B : Asn} {R R' : List Asn} (hp : PullC A L R) (hq : PullC B R R') (h : CallS P f args (A :: B :: R') Q) : CallS P f args L Q := h.pre fun _ hs => hs.perm (hp.out.trans (hq.out.cons _))
end
section rules
variable {c : Cx} {F : Fr} {L M : List Asn} {k : List Item} {ops rest : List Oper}
/-- The ways through a block meet: what is behind it is walked once. -/
theorem J.cut {ι : Type} {x : Item} (good : ι → Prop) (I : ι → Fr) (F0 : Fr) (H : ι → List Asn) (hF0 : Picks F F0) (h1 : ∀ i, good i → J c (I i ++ F0) (H i) k)
    (h2 : (∀ i, good i → J c (I i ++ F0) (H i) k) → J c F L (x :: k)) : J c F L (x :: k) := h2 h1
end rules
class SlP {α : outParam Type} (E : outParam (Enc α)) (a : Option Addr) (cap : Nat) (L : List Asn) (xs : outParam (List α)) (R : outParam (List Asn)) : Prop where out : L.Perm (sl E a cap xs :: R)
instance SlP.head {α : Type} {E : Enc α} {a : Option Addr} {cap : Nat} {L : List Asn} {xs : List α} : SlP E a cap (sl E a cap xs :: L) xs L := ⟨.refl _⟩
instance (priority := 900) SlP.tail {α : Type} {E : Enc α} {a : Option Addr} {cap : Nat} {B : Asn} {L R : List Asn} {xs : List α} [h : SlP E a cap L xs R] : SlP E a cap (B :: L) xs (B :: R) := ⟨(h.out.cons B).trans (.swap _ _ _)⟩
class RowP {α : outParam Type} (E : outParam (Enc α)) (hs : List Hdr) (L : List Asn) (xss : outParam (List (List α))) (R : outParam (List Asn)) : Prop where out : L.Perm (rows E hs xss :: R)
instance RowP.head {α : Type} {E : Enc α} {hs : List Hdr} {L : List Asn} {xss : List (List α)} : RowP E hs (rows E hs xss :: L) xss L := ⟨.refl _⟩
instance (priority := 900) RowP.tail {α : Type} {E : Enc α} {hs : List Hdr} {B : Asn} {L R : List Asn} {xss : List (List α)} [h : RowP E hs L xss R] : RowP E hs (B :: L) xss (B :: R) := ⟨(h.out.cons B).trans (.swap _ _ _)⟩
class RBP {α : outParam Type} (E : outParam (Enc α)) (i : Nat) (hs : List Hdr) (L : List Asn) (xss : outParam (List (List α))) (R : outParam (List Asn)) : Prop where out : L.Perm (rowsBut E i hs xss :: R)
instance RBP.head {α : Type} {E : Enc α} {i : Nat} {hs : List Hdr} {L : List Asn} {xss : List (List α)} : RBP E i hs (rowsBut E i hs xss :: L) xss L := ⟨.refl _⟩
instance (priority := 900) RBP.tail {α : Type} {E : Enc α} {i : Nat} {hs : List Hdr} {B : Asn} {L R : List Asn} {xss : List (List α)} [h : RBP E i hs L xss R] : RBP E i hs (B :: L) xss (B :: R) := ⟨(h.out.cons B).trans (.swap _ _ _)⟩
section
variable {α : Type} {E : Enc α}
theorem RowsIn.n {L : List Asn} {hs : List Hdr} {xss : List (List α)} [hh : RowsIn E L hs xss] {h : Hp} (s : Sat h L) : hs.map (·.n) = xss.map (·.length) := (hh.out h s).1
theorem hdr_n {hs : List Hdr} {xss : List (List α)} (e : hs.map (·.n) = xss.map (·.length)) {i : Nat} {hd : Hdr} {xs : List α} (h1 : hs[i]? = some hd) (h2 : xss[i]? = some xs) : hd.n = xs.length := by
  have := congrArg (·[i]?) e
  simp only [List.getElem?_map, h1, h2, Option.map_some, Option.some.injEq] at this
  exact this
end
class RBIn {α : outParam Type} (E : outParam (Enc α)) (L : List Asn) (i : Nat) (hs : List Hdr) (xss : outParam (List (List α))) : Prop where out : rowsBut E i hs xss ∈ L
theorem RBIn.row {α : Type} {E : Enc α} {L : List Asn} {hs : List Hdr} {xss : List (List α)} {i j : Nat} (hh : RBIn E L i hs xss) (hij : i ≠ j) {hd : Hdr} {xs : List α} (h1 : hs[j]? = some hd) (h2 : xss[j]? = some xs) : SlIn E L hd.a xs := RowsBut.row hh.out hij h1 h2
instance RBIn.head {α : Type} {E : Enc α} {L : List Asn} {i : Nat} {hs : List Hdr} {xss : List (List α)} : RBIn E (rowsBut E i hs xss :: L) i hs xss := ⟨List.mem_cons_self⟩
instance (priority := 900) RBIn.tail {α : Type} {E : Enc α} {A : Asn} {L : List Asn} {i : Nat} {hs : List Hdr} {xss : List (List α)} [hh : RBIn E L i hs xss] : RBIn E (A :: L) i hs xss := ⟨List.mem_cons_of_mem _ hh.out⟩
end Go.KK

/- The text K23. -/
/-!
  Scopes, labels, results that lie in memory.
-/
set_option linter.unusedVariables false
set_option linter.unusedSimpArgs false
namespace Go.KK
def isLab : Code → Bool | .label _ => true | _ => false
section rules
variable {c : Cx} {F : Fr} {L M : List Asn} {k : List Item}
theorem J.label {x : Code} (hk : isLab x = true) (h : J c F L k) : J c F L (.code x :: k) := fun a w hF hs =>
  Go1.of_steps (fun cs => by
    cases x <;> simp only [isLab, Bool.false_eq_true, reduceCtorEq] at hk
    case label => exact .one step_label) (h a w hF hs)
theorem J.scope {x : Code} (hk : kind x = 8) (h : J c F L (.code (cL x) :: .inScope (cL x) :: k)) : J c F L (.code x :: k) := fun a w hF hs =>
  Go1.of_steps (fun cs => by
    cases x <;> simp only [kind, reduceCtorEq, Nat.reduceEqDiff, Nat.succ_ne_self] at hk
    case scope => exact .one step_scope
    case region id ops d => cases d <;> simp [kind] at hk) (h a w hF hs)
theorem J.inScope {x : Code} (h : J c F L k) : J c F L (.inScope x :: k) := fun a w hF hs => Go1.of_steps (fun _ => .one step_inScope) (h a w hF hs)
end rules

inductive ResL (P : Program) (F : Fr) (L : List Asn) : List ResultVar → List Value → Prop
  | nil : ResL P F L [] []
  | tmp {t : Nat} {v : Value} {r : List ResultVar} {vs : List Value} : get F t = some v → ResL P F L r vs → ResL P F L (.tmp t :: r) (v :: vs)
  | cell {a t : Nat} {p : Addr} {v : Value} {r : List ResultVar} {vs : List Value} : get F a = some (.pointer (some p)) → (∀ w, Sat (hp w) L → (loadVar t p).run P w = .ok v w) → ResL P F L r vs → ResL P F L (.cell a t :: r) (v :: vs)
theorem ResL.len {P : Program} {F : Fr} {L : List Asn} {rs : List ResultVar} {vs : List Value} (h : ResL P F L rs vs) : vs.length = rs.length := by
  induction h <;> simp_all

theorem run_mapM_res (P : Program) (w : World) (tmps : Array Value) (F : Fr) (L : List Asn) (hs : Sat (hp w) L) (hF : ∀ t v, get F t = some v → tmps.getD t undef = v) (g : ResultVar → Sem Value)
    (hg : ∀ t, g (.tmp t) = Pure.pure (tmps.getD t undef)) (hg2 : ∀ a t, g (.cell a t) = (do loadVar t (← asAddr (tmps.getD a undef)))) {rs : List ResultVar} {vs : List Value} (h : ResL P F L rs vs) :
    ∀ (acc : List Value), (List.mapM.loop g rs acc).run P w = .ok (acc.reverse ++ vs) w := by
  induction h with
  | nil => intro acc; simp [List.mapM.loop, run_pure]
  | @tmp t v r vs hv _ ih =>
    intro acc
    have e : List.mapM.loop g (.tmp t :: r) acc = (do let v ← g (.tmp t); List.mapM.loop g r (v :: acc)) := rfl
    rw [e, Sem.run_bind, hg, hF _ _ hv, run_pure]
    simp only [Result.andThen]
    rw [ih]; simp
  | @cell a t p v r vs hv hl _ ih =>
    intro acc
    have e : List.mapM.loop g (.cell a t :: r) acc = (do let v ← g (.cell a t); List.mapM.loop g r (v :: acc)) := rfl
    have e2 : (g (.cell a t)).run P w = .ok v w := by
      rw [hg2, hF _ _ hv]
      have := hl w hs
      simpa [asAddr, go_sem] using this
    rw [e, Sem.run_bind, e2]
    simp only [Result.andThen]
    rw [ih]; simp
theorem run_resultsC (fn : Func) (P : Program) (w : World) (tmps : Array Value) (F : Fr) (L : List Asn) (hs : Sat (hp w) L) (rs : List ResultVar) (vs : List Value) (hr : fn.results = rs.toArray)
    (hF : ∀ t v, get F t = some v → tmps.getD t undef = v) (h : ResL P F L rs vs) : (results fn tmps).run P w = .ok (tupV vs) w := by
  unfold results
  rw [hr]
  have h1 := run_mapM_res P w tmps F L hs hF (fun | .tmp t => Pure.pure (tmps.getD t undef) | .cell a t => do loadVar t (← asAddr (tmps.getD a undef))) (fun _ => rfl) (fun _ _ => rfl) h []
  rw [Sem.run_bind]
  have e : (Array.mapM (m := Sem) (fun | .tmp t => Pure.pure (tmps.getD t undef) | .cell a t => do loadVar t (← asAddr (tmps.getD a undef))) rs.toArray).run P w = .ok vs.toArray w := by
    rw [List.mapM_toArray]
    simp only [Functor.map, List.mapM]
    rw [Sem.run_bind', h1]
    rfl
  refine (congrArg (fun r => Result.andThen r _) e).trans ?_
  simp only [Result.andThen]
  have hl := h.len
  match vs, hl with
  | [], _ => rfl
  | [v], _ => rfl
  | v :: u :: r, _ => rfl
section
variable {P : Program} {L : List Asn}
theorem ld_agg {t n b o : Nat} [hs : Agg P t n] {cs : List Value} (hn : cs.length = n) (hc : CellsIn L ⟨b, o, none⟩ cs) : ∀ w, Sat (hp w) L → (loadVar t ⟨b, o, none⟩).run P w = .ok (.agg cs.toArray) w := fun w hw => by
  have h1 := Agg.run (w := w) hs.agg
  have h3 : (sizeOf t).run P w = .ok n w := run_sizeOf_of hs.size
  have h2 := run_loadCells_list (P := P) (w := w) ⟨b, o, none⟩ cs (fun j v hj => by
    have h := hc _ hw j v hj
    rw [cell?_eq]
    have : (⟨b, o, none⟩ : Addr).add j = ⟨b, o + j, none⟩ := by unfold Addr.add; split <;> simp_all
    rw [this]; exact h)
  rw [hn] at h2
  unfold loadCells at h2
  simp [loadVar, h1, h2, h3, loadCells, go_sem]
end
section rules
variable {c : Cx} {F : Fr} {L M : List Asn} {k : List Item}
theorem J.retC {x : Code} {vs : List Value} (hk : kind x = 9) (hv : ResL c.P F L c.res vs) (hq : c.Q (tupV vs) L) : J c F L (.code x :: k) := by
  intro a w hF hs fn hf hr cs
  cases x <;> simp only [kind, reduceCtorEq, Nat.reduceEqDiff, Nat.succ_ne_self] at hk
  case region id ops d => cases d <;> simp [kind] at hk
  case ret =>
    exact ⟨_, L, w, _, hq, hs, rfl, .one step_ret, rfl, rfl, by simp [Frame.at, hF.nodef], rfl, fn, hf, run_resultsC fn c.P w a.tmps F L hs c.res vs hr hF.val hv⟩
end rules
theorem CallS.fact {P : Program} {f : FuncId} {args : Array Value} {L : List Asn} {Q : Value → List Asn → Prop} {p : Prop} (hp : ∀ h, Sat h L → p) (h : p → CallS P f args L Q) : CallS P f args L Q := fun w hs => h (hp _ hs) w hs
theorem SlIn.nil {α : Type} {E : Enc α} {L : List Asn} {a : Option Addr} : SlIn E L a [] := ⟨fun _ _ => .inl rfl⟩
end Go.KK

/- The text K24. -/
/-!
  A slice argument of structs whose fields are ints, strings and bools, as a list.
-/
set_option linter.unusedVariables false
set_option linter.unusedSimpArgs false
namespace Go.KK
open Go.ChangeShapes Go.WideShapes Go.ChangeAt Go.RowKit
def isV : Nat → Value → Prop
  | 0, v => ∃ z : Int, v = .int .i64 z
  | 1, v => ∃ s : ByteArray, v = .string s
  | _, v => ∃ b : Bool, v = .bool b
def kindB (P : Program) (t : TypeId) : Option Nat :=
  match P.underlying t with
  | some (.int .i64) => some 0
  | some .string => some 1
  | some .bool => some 2
  | _ => none
section
open Go.Deep
variable {H : Type} {enc : TypeId × Value → H} {P : Program} {w : World} {base : Nat} {spare : Nat → Bool} {held : Bool}
end
end Go.KK

/- The text K25. -/
/-!
  A string's bytes; an array within a block.
-/
set_option linter.unusedVariables false
set_option linter.unusedSimpArgs false
namespace Go.KK
section
variable {P : Program} {F : Fr} {L : List Asn} {dst : Option Tmp} {ty : TypeId} {pos : String} {aft : Array Edge} {gd : Option (Nat × Bool)}
theorem Pur.indexT {t : Nat} [ht : StT' P t] {x ix : Operand} {s : ByteArray} {k : IntKind} {i : Int} {n : Nat} {b : UInt8} (hx : ev F x = some (.string s)) (hi : ev F ix = some (.int k i)) (hn : i = (n : Int)) (hb : s[n]? = some b) :
    Pur P F L ⟨dst, .index t x ix, ty, pos, aft, gd⟩ (.int .u8 b.toNat) := fun ρ w hρ _ => by
  have hu := ht.out
  subst hn
  have h0 : (0 : Int) ≤ (n : Int) := by omega
  simp [execOp, Instr.index, hρ _ _ hx, hρ _ _ hi, asIntOf, hu, underlying, hb, go_sem]
end

/-- A block that begins with an array. -/
def arr {α : Type} (E : Enc α) (xs : List α) (r : List Value) (T : TypeId) : Obj := .cells (E.all xs ++ r).toArray T (0, 0)
section
variable {α : Type} {E : Enc α} {L : List Asn} {b : Nat} {xs : List α} {r : List Value} {T : TypeId}
theorem CellIn.arr [hb : BlkIn L b (KK.arr E xs r T)] {m i k : Nat} {x : α} {v : Value} (hm : E.m = m) (hx : xs[i]? = some x) (hv : (E.enc x)[k]? = some v) : CellIn L ⟨b, i * m + k, none⟩ v := fun h hs => by
  subst hm
  have h1 := hb.out h hs
  have hk : k < E.m := by rw [← E.len x]; exact (List.getElem?_eq_some_iff.1 hv).1
  have h2 := E.all_get xs i k x hx hk
  rw [hv] at h2
  have h3 := (List.getElem?_eq_some_iff.1 h2).1
  simp only [cellH, h1, KK.arr, Option.isSome_none, Bool.false_eq_true, if_false, List.getElem?_toArray]
  rw [List.getElem?_append_left h3, h2]
theorem CellsIn.arr [hb : BlkIn L b (KK.arr E xs r T)] {m i : Nat} {x : α} (hm : E.m = m) (hx : xs[i]? = some x) : CellsIn L ⟨b, i * m, none⟩ (E.enc x) := fun h hs j v hv => CellIn.arr (E := E) hm hx hv h hs
end
section
variable {P : Program} {F : Fr} {L : List Asn} {dst : Option Tmp} {ty : TypeId} {pos : String} {aft : Array Edge} {gd : Option (Nat × Bool)}
end
end Go.KK

/- The text K26. -/
/-!
  A range over a function: code in a round's frame, marks among the deferred calls.
-/
set_option linter.unusedVariables false
set_option linter.unusedSimpArgs false
namespace Go.KK
def fen : Option Nat → Fence
  | none => Fence.wide
  | some l => Fence.wide.inRound l
theorem fen_fn (ro : Option Nat) (f : FuncId) : (fen ro).fn f := by cases ro <;> trivial
theorem fen_dep (ro : Option Nat) : (fen ro).depth = none := by cases ro <;> rfl
theorem fen_calls {ro : Option Nat} {P : Program} {f : FuncId} {args : Array Value} {w : World} {R : Ending → World → Prop} (h : Calls P f args w R) : CallsIn (fen ro) 0 P f args w R := by
  have h1 : CallsIn Fence.wide 0 P f args w R := callsIn_wide.2 h
  cases ro
  · exact h1
  · exact h1
theorem fen_rows {ro : Option Nat} {P : Program} {row : String} {args : Array Value} {w : World} {R : Value → World → Prop} (h : Rows P row args w R) : Go.RowsIn (fen ro) 0 P row args w R := by
  have h1 : Go.RowsIn Fence.wide 0 P row args w R := fun c cs _ => let ⟨v, w', r, s⟩ := h c cs; ⟨v, w', r, stepsIn_wide.2 s⟩
  cases ro
  · exact h1
  · exact h1
theorem oper_in {ro : Option Nat} {P : Program} {o : Oper} {a : Act} {w : World} {next : Act → World → Prop} {Qx : Exit → Act → World → Prop} (ho : ∀ c, o.op ≠ .defer c) (h : o.wp P a w next Qx) : o.wpIn (fen ro) 0 P a w next Qx := by
  refine ⟨fun f _ => fen_fn ro f, ?_⟩
  rw [Oper.semAt_eq _ _ _ ho]
  unfold Oper.wp at h
  revert h
  generalize (execOp a.eval o).run P w = r
  intro h
  have hd : (fen ro).depth.isSome = true → 1 ≤ 0 := by rw [fen_dep]; intro h; cases h
  cases r with
  | ok x w' =>
    cases x <;> simp only [Oper.upon] at h <;> simp only [Oper.uponIn] <;> first | exact h | exact ⟨hd, fen_calls h⟩ | exact ⟨hd, fen_rows h⟩ | exact h.elim
  | halt x w' => cases x <;> simp only [Oper.upon] at h <;> simp only [Oper.uponIn] <;> first | exact h | exact h.elim

structure OkD (n : Nat) (ds : List Deferred) (F : Fr) (a : Act) : Prop where
  size : a.tmps.size = n
  defs : a.defers = ds
  val : ∀ t v, get F t = some v → a.tmps.getD t undef = v
section
variable {n : Nat} {ds : List Deferred} {F : Fr} {a : Act}
theorem OkD.ok (h : OkD n ds F a) : OkF n F { a with defers := [] } := ⟨h.size, rfl, h.val⟩
theorem OkF.okD (h : OkF n F a) : OkD n [] F a := ⟨h.size, h.nodef, h.val⟩
theorem OkD.put {d : Nat} {v : Value} (h : OkD n ds F a) (hd : Nat.blt d n = true) : OkD n ds ((d, v) :: F) (a.put (some d) v) :=
  have h1 := h.ok.put (v := v) hd
  ⟨h1.size, h.defs, h1.val⟩
theorem OkD.none {v : Value} (h : OkD n ds F a) : OkD n ds F (a.put none v) := h
theorem OkD.ev (h : OkD n ds F a) : ∀ x v, KK.ev F x = some v → a.eval x = v := fun x v hx => by
  have := h.ok.ev x v hx
  cases x <;> exact this
theorem OkD.picks {G : Fr} (h : OkD n ds F a) (hp : Picks F G) : OkD n ds G a := ⟨h.size, h.defs, (h.ok.picks hp).val⟩
end

structure Rx where
  P : Program
  n : Nat
  ro : Option Nat
  w0 : World
abbrev RP := Exit → List Deferred → Fr → List Asn → Prop
def PostR (c : Rx) (R : RP) : Exit → Act → World → Prop := fun e a w => ∃ ds F L, R e ds F L ∧ OkD c.n ds F a ∧ Sat (hp w) L ∧ env w = env c.w0
def JR (c : Rx) (R : RP) (ds : List Deferred) (F : Fr) (L : List Asn) (x : Code) : Prop :=
  ∀ a w, OkD c.n ds F a → Sat (hp w) L → env w = env c.w0 → x.wpIn (fen c.ro) 0 c.P (PostR c R) a w
/-- The operations 'rest' of the region 'ops' are still to do. -/
def RO (c : Rx) (R : RP) (ops : List Oper) (ds : List Deferred) (F : Fr) (L : List Asn) (rest : List Oper) : Prop :=
  ∀ a w, OkD c.n ds F a → Sat (hp w) L → env w = env c.w0 → wpListIn (fen c.ro) 0 c.P ops.toArray (PostR c R) rest a w
def noDefer (o : Oper) : Bool := match o.op with | .defer _ => false | _ => true
theorem noDefer_ok {o : Oper} (h : noDefer o = true) : ∀ c, o.op ≠ .defer c := fun c e => by unfold noDefer at h; rw [e] at h; cases h
section rules
variable {c : Rx} {R : RP} {ds : List Deferred} {F : Fr} {L : List Asn} {ops rest : List Oper} {o : Oper}
theorem PostR.of {e : Exit} {a : Act} {w : World} (h : R e ds F L) (hF : OkD c.n ds F a) (hs : Sat (hp w) L) (he : env w = env c.w0) : PostR c R e a w := ⟨ds, F, L, h, hF, hs, he⟩
theorem JR.imp {M : List Asn} {x : Code} (hL : ∀ h, Sat h L → Sat h M) (h : JR c R ds F M x) : JR c R ds F L x := fun a w hF hs he => h a w hF (hL _ hs) he
theorem JR.fact {x : Code} {p : Prop} (hp : ∀ h, Sat h L → p) (h : p → JR c R ds F L x) : JR c R ds F L x := fun a w hF hs he => h (hp _ hs) a w hF hs he
theorem JR.skip (h : R .normal ds F L) : JR c R ds F L .skip := fun a w hF hs he => wpIn_skip (.of h hF hs he)
theorem JR.ret (h : R .ret ds F L) : JR c R ds F L .ret := fun a w hF hs he => wpIn_ret (.of h hF hs he)
theorem JR.exit {id : Nat} (h : R (.exit id) ds F L) : JR c R ds F L (.exit id) := fun a w hF hs he => wpIn_exit (.of h hF hs he)
def thenR (c : Rx) (R : RP) (y : Code) : RP := fun e ds F L => match e with | .normal => JR c R ds F L y | e => R e ds F L
theorem JR.seq {x y : Code} (h : JR c (thenR c R y) ds F L x) : JR c R ds F L (.seq x y) := fun a w hF hs he =>
  wpIn_seq (wpIn_mono (h a w hF hs he) fun e a' w' ⟨ds', F', L', hr, hF', hs', he'⟩ => by
    cases e <;> first | exact hr a' w' hF' hs' he' | exact ⟨ds', F', L', hr, hF', hs', he'⟩)
def blockR (id : Nat) (R : RP) : RP := fun e ds F L => match e with | .exit i => if i = id then R .normal ds F L else R (.exit i) ds F L | e => R e ds F L
theorem JR.block {id : Nat} {x : Code} (h : JR c (blockR id R) ds F L x) : JR c R ds F L (.block id x) := fun a w hF hs he =>
  wpIn_block (wpIn_mono (h a w hF hs he) fun e a' w' ⟨ds', F', L', hr, hF', hs', he'⟩ => by
    cases e with
    | exit i =>
      simp only [blockR] at hr
      simp only [Exit.inBlock]
      split
      · rename_i e; rw [if_pos e] at hr; exact ⟨ds', F', L', hr, hF', hs', he'⟩
      · rename_i e; rw [if_neg e] at hr; exact ⟨ds', F', L', hr, hF', hs', he'⟩
    | _ => exact ⟨ds', F', L', hr, hF', hs', he'⟩)
theorem JR.cond {x : Operand} {a b : Code} {t : Bool} (hv : ev F x = some (.bool t)) (h1 : t = true → JR c R ds F L a) (h2 : t = false → JR c R ds F L b) : JR c R ds F L (.cond x a b) := fun ac w hF hs he =>
  wpIn_cond_split (hF.ev _ _ hv) (fun e => h1 e ac w hF hs he) (fun e => h2 e ac w hF hs he)
theorem JR.region {id : Nat} {ops : Array Oper} {l : List Oper} (hl : ops = l.toArray) (h : RO c R l ds F L l) : JR c R ds F L (.region id ops false) := fun a w hF hs he => by
  subst hl
  exact wpIn_region_lit (h a w hF hs he)
theorem RO.nil (h : R .normal ds F L) : RO c R ops ds F L [] := fun a w hF hs he => wpListIn_nil (.of h hF hs he)
theorem RO.eff {d : Nat} {Q : Value → List Asn → Prop} (hw : o.guard = none) (hd : o.dst = some d) (hn : Nat.blt d c.n = true) (hnd : noDefer o = true) (he : Eff c.P F L o Q)
    (h : ∀ v M, Q v M → RO c R ops ds ((d, v) :: F) M rest) : RO c R ops ds F L (o :: rest) := fun a w hF hs hv =>
  wpListIn_plain hw fun K hK => oper_in (noDefer_ok hnd) (he a w trivial hF.ev hs _ _ fun v w' M hq hs' hv' => by
    rw [hd]
    exact hK _ _ (h v M hq _ _ (hF.put hn) hs' (hv'.trans hv)))
theorem RO.effN {Q : Value → List Asn → Prop} (hw : o.guard = none) (hd : o.dst = none) (hnd : noDefer o = true) (he : Eff c.P F L o Q)
    (h : ∀ v M, Q v M → RO c R ops ds F M rest) : RO c R ops ds F L (o :: rest) := fun a w hF hs hv =>
  wpListIn_plain hw fun K hK => oper_in (noDefer_ok hnd) (he a w trivial hF.ev hs _ _ fun v w' M hq hs' hv' => by
    rw [hd]
    exact hK _ _ (h v M hq _ _ hF.none hs' (hv'.trans hv)))
theorem RO.pur {d : Nat} {v : Value} (hw : o.guard = none) (hd : o.dst = some d) (hn : Nat.blt d c.n = true) (hnd : noDefer o = true) (hp : Pur c.P F L o v)
    (h : RO c R ops ds ((d, v) :: F) L rest) : RO c R ops ds F L (o :: rest) := RO.eff hw hd hn hnd hp.eff (fun _ _ ⟨e1, e2⟩ => by subst e1; subst e2; exact h)

/-- A loop that counts a slot down. -/
theorem JR.loop {x : Code} {ι : Type} (good : ι → Prop) (I : ι → Fr) (H : ι → List Asn) (μ : ι → Nat) (m : Act → Nat) (hm : ∀ i a, OkD c.n ds (I i) a → m a = μ i) (i0 : ι)
    (hF : Picks F (I i0)) (hL : ∀ h, Sat h L → Sat h (H i0)) (hg : good i0)
    (body : ∀ i, good i → JR c (fun e ds' F' L' => match e with | .normal => ds' = ds ∧ ∃ j, good j ∧ μ j < μ i ∧ Picks F' (I j) ∧ (∀ h, Sat h L' → Sat h (H j)) | e => R e ds' F' L') ds (I i) (H i) x) : JR c R ds F L (.loop x) := fun a w hok hs he =>
  wpIn_loop (fun a w => ∃ i, good i ∧ OkD c.n ds (I i) a ∧ Sat (hp w) (H i) ∧ env w = env c.w0) (fun a _ => m a) ⟨i0, hg, hok.picks hF, hL _ hs, he⟩ fun a w ⟨i, hgi, hi, hsi, hei⟩ =>
    wpIn_mono (body i hgi a w hi hsi hei) fun e a' w' ⟨ds', F', L', hr, hF', hs', he'⟩ => by
      cases e with
      | normal =>
        obtain ⟨e1, j, hj, hlt, hpk, hl⟩ := hr
        subst e1
        have hj' : OkD c.n ds' (I j) a' := OkD.picks hF' hpk
        exact ⟨⟨j, hj, hj', hl _ hs', he'⟩, by rw [hm j a' hj', hm i a hi]; exact hlt⟩
      | _ => exact ⟨ds', F', L', hr, hF', hs', he'⟩
end rules

section yield
variable {c : Rx} {R : RP} {ds : List Deferred} {F : Fr} {L : List Asn} {ops rest : List Oper}
theorem RO.yield {d t l : Nat} {ty : TypeId} {pos : String} {aft : Array Edge} {xs : List Operand} {vs : List Value} {tys : Array TypeId} {Q : Value → List Asn → Prop} (hro : c.ro = none)
    (ht : get F t = some (.func (.yield l) #[] #[])) (hv : evL F xs = some vs) (hn : Nat.blt d c.n = true)
    (hy : ∀ w, Sat (hp w) L → env w = env c.w0 → YieldAt Fence.wide 0 c.P l vs.toArray w (fun e w' => ∃ v M, e = .returned v ∧ Q v M ∧ Sat (hp w') M ∧ env w' = env c.w0))
    (h : ∀ v M, Q v M → RO c R ops ds ((d, v) :: F) M rest) : RO c R ops ds F L (⟨some d, .call ⟨.value (.tmp t), xs.toArray, tys⟩, ty, pos, aft, none⟩ :: rest) := fun a w hF hs he =>
  wpListIn_plain rfl fun K hK => by
    refine ⟨fun f _ => fen_fn _ f, ?_⟩
    rw [Oper.semAt_eq _ _ _ (fun c e => by cases e)]
    have hargs : (xs.toArray.map a.eval) = vs.toArray := by
      have := evL_ok (hF.ev) hv
      simp [this]
    have hfe : a.eval (.tmp t) = .func (.yield l) #[] #[] := hF.ev (.tmp t) _ ht
    have hfe' : a.tmps[t]?.getD undef = .func (.yield l) #[] #[] := by simpa [Act.eval] using hfe
    obtain ⟨fn, tmps, assign, body, hrun, hR⟩ := hy w hs he
    have hr : (execOp a.eval ⟨some d, .call ⟨.value (.tmp t), xs.toArray, tys⟩, ty, pos, aft, none⟩).run c.P w = .ok (.round l fn tmps assign body) w := by
      simp [execOp, resolve, hargs, hfe', Deferred.ofValue, invoke, go_sem, hrun]
    rw [hr, Oper.uponIn_round]
    refine ⟨(by rw [fen_dep]; intro h; cases h), ?_⟩
    rw [hro]
    refine RoundIn.mono hR fun e w' ⟨v, M, e1, hq, hs', he'⟩ => ?_
    subst e1
    exact hK _ _ (h v M hq _ _ (hF.put hn) hs' he')
end yield

theorem hp_alloc (w : World) (o : Obj) : hp (w.alloc o) = Hp.upd (hp w) w.heap.size o := hp_push w o
theorem hp_putObj {w : World} {b : Nat} {o o' : Obj} (h : hp w b = some o) : hp (w.putObj b o') = Hp.upd (hp w) b o' := by
  have hb : b < w.heap.size := by
    rcases Nat.lt_or_ge b w.heap.size with h1 | h1
    · exact h1
    · unfold hp at h; rw [Array.getElem?_eq_none h1] at h; cases h
  funext x
  unfold hp Hp.upd World.putObj
  by_cases e : x = b
  · subst e; simp [hb]
  · simp [e, Array.getElem?_setIfInBounds_ne (Ne.symm e)]
def mark (D : Nat) : Deferred := { target := .collected D, args := #[] }
def dfr : Obj := .deferred (some [])

/-- Where the function ends under a mark. -/
def endR (c : Cx) : RP := fun e ds F L => (e = .ret ∨ e = .normal) ∧ ∃ D A M vs, ds = [mark D] ∧ L = A :: blk D dfr :: M ∧ ResL c.P F M c.res vs ∧ c.Q (tupV vs) M
theorem J.tail {c : Cx} {F : Fr} {L : List Asn} {x y : Code} (h : ∀ w0, JR ⟨c.P, c.n, none, w0⟩ (thenR ⟨c.P, c.n, none, w0⟩ (endR c) y) [] F L x) : J c F L [.code x, .code y] := by
  intro a w hF hs fn hf hr cs
  have h1 := h w a w hF.okD hs rfl
  have fin : ∀ (e : Exit) (a' : Act) (w' : World) (m : Machine), PostR ⟨c.P, c.n, none, w⟩ (endR c) e a' w' → ArrivesIn (Machine.fenced c.P Fence.wide) c.P m (bse c.f) [] cs e a' w' →
      ∃ (v : Value) (L' : List Asn) (w' : World) (fr : Frame), c.Q v L' ∧ Sat (hp w') L' ∧ env w' = env w ∧ Steps c.P m (lone fr cs w') ∧ fr.fn = c.f ∧ fr.leaving c.P w' (.returned v) := by
    rintro e a' w' m ⟨ds, F', L', ⟨hE, D, A, M, vs, e1, e2, hv, hq⟩, hok, hs', he'⟩ harr
    subst e1; subst e2
    have hk : hp w' D = some dfr := (BlkIn.head (L := M) (b := D) (o := dfr)).out (hp w') hs'.tail
    have ht := run_takeDeferred (P := c.P) (w := w') (b := D) (ds := []) hk
    have hs2 : Sat (hp (w'.putObj D (.deferred none))) M := by
      have := Sat.upd (o' := .deferred none) hs'.tail
      rw [← hp_putObj hk] at this
      exact this.tail
    have key : ∀ todo, Steps c.P m (lone { (bse c.f).atR a' todo with mode := .returning } cs w') → ∃ (v : Value) (L' : List Asn) (w' : World) (fr : Frame), c.Q v L' ∧ Sat (hp w') L' ∧ env w' = env w ∧ Steps c.P m (lone fr cs w') ∧ fr.fn = c.f ∧ fr.leaving c.P w' (.returned v) := fun todo hst => by
      refine ⟨tupV vs, M, _, _, hq, hs2, he', hst.trans (.one (step_collected (d := mark D) (ds := []) (by simp) (by simpa [Frame.atR] using hok.defs) rfl ht)), rfl, ?_⟩
      exact ⟨rfl, rfl, rfl, fn, hf, run_resultsC fn c.P _ a'.tmps F' M hs2 c.res vs hr hok.val hv⟩
    rcases hE with rfl | rfl
    · obtain ⟨todo, hst⟩ := harr.1 rfl
      exact key todo (stepsIn_wide.1 hst)
    · exact key [] ((stepsIn_wide.1 harr).trans (.one (stepR_end rfl)))
  obtain ⟨e, a', w', hq, harr⟩ := h1 (bse c.f) [.code y] cs rfl trivial (room_wide _)
  have hst0 : lone ((bse c.f).at a [.code x, .code y]) cs w = lone ((bse c.f).atR a [.code x, .code y]) cs w := rfl
  rw [hst0]
  obtain ⟨ds, F', L', hR, hok, hs', he'⟩ := hq
  cases e with
  | normal =>
    obtain ⟨e2, a2, w2, hq2, harr2⟩ := hR a' w' hok hs' he' (bse c.f) [] cs rfl trivial (room_wide _)
    exact fin e2 a2 w2 _ hq2 (.of_steps harr harr2)
  | ret =>
    refine fin .ret a' w' _ ⟨ds, F', L', hR, hok, hs', he'⟩ ?_
    exact ⟨harr.1, fun h => by cases h⟩
  | exit i => rcases hR.1 with h | h <;> cases h
  | goto i => rcases hR.1 with h | h <;> cases h
  | panic i => rcases hR.1 with h | h <;> cases h
  | outgrown => rcases hR.1 with h | h <;> cases h

/-- A function of a fence from its body, where it ends without deferred calls and results. -/
theorem JR.calls {P : Program} {f : FuncId} {fn : Func} {b : Option Code} {args : List Value} {L : List Asn} {w w0 : World} {n : Nat} {X : List Asn → Prop}
    (hf : P.funcs[f]? = some fn) (hn : fn.ntmps = n) (hr : fn.results = #[]) (hb : fn.body = b) (hz : b.isSome = true) (hlen : Nat.ble args.length n = true)
    (h : JR ⟨P, n, none, w0⟩ (fun e ds F M => (e = .ret ∨ e = .normal) ∧ ds = [] ∧ X M) [] (argF 0 args) L (b.getD .skip)) (hs : Sat (hp w) L) (he : env w = env w0) :
    CallsIn Fence.wide 0 P f args.toArray w (fun e w' => (∃ v, e = .returned v) ∧ env w' = env w0 ∧ ∃ M, X M ∧ Sat (hp w') M) := by
  cases b with
  | none => simp at hz
  | some c =>
  have hlen' : args.length ≤ n := Nat.le_of_ble_eq_true hlen
  refine callsIn_of_wp hf hb trivial ?_ rfl
  refine wpIn_mono (h { tmps := args.toArray ++ Array.replicate (fn.ntmps - args.toArray.size) undef, defers := [] } w ⟨by simp [hn]; omega, rfl, fun t v hv => by
      have h1 := get_argF args 0 t v hv
      simp at h1
      obtain ⟨h2, h3⟩ := List.getElem?_eq_some_iff.1 h1
      simp [Array.getD_eq_getD_getElem?, Array.getElem?_append, h2, h3]⟩ hs he) ?_
  rintro e a' w' ⟨ds, F', M, ⟨hE, e1, hX⟩, hok, hs', he'⟩
  subst e1
  have hres : (results fn a'.tmps).run P w' = .ok (.tuple #[]) w' := run_resultsC fn P w' a'.tmps F' M hs' [] [] hr hok.val .nil
  rcases hE with rfl | rfl
  · exact ⟨hok.defs, _, hres, ⟨_, rfl⟩, he', M, hX, hs'⟩
  · exact ⟨hok.defs, _, hres, ⟨_, rfl⟩, he', M, hX, hs'⟩
end Go.KK

/- The text K27. -/
/-!
  More on a block that begins with an array.
-/
set_option linter.unusedVariables false
set_option linter.unusedSimpArgs false
namespace Go.KK
section
variable {P : Program} {F : Fr} {L : List Asn} {dst : Option Tmp} {ty : TypeId} {pos : String} {aft : Array Edge} {gd : Option (Nat × Bool)}
end
end Go.KK

/- The text K28. -/
/-!
  A slice argument of scalars, as a list; the reach of a slice argument.
-/
set_option linter.unusedVariables false
set_option linter.unusedSimpArgs false
namespace Go.KK
open Go.ChangeShapes Go.WideShapes Go.ChangeAt Go.RowKit
section
open Go.Deep
variable {H : Type} {enc : TypeId × Value → H} {P : Program} {w : World} {base : Nat} {spare : Nat → Bool} {held : Bool}
end
end Go.KK

/- The text K29. -/
/-!
  Shifts, bits.
-/
set_option linter.unusedVariables false
set_option linter.unusedSimpArgs false
namespace Go.KK
section
variable {P : Program} {F : Fr} {L : List Asn} {dst : Option Tmp} {ty : TypeId} {pos : String} {aft : Array Edge} {gd : Option (Nat × Bool)}
end
end Go.KK

/- The text K30. -/
/-!
  Maps: what is taken out of one, and a range over one, in whatever order its entries come.
-/
set_option linter.unusedVariables false
set_option linter.unusedSimpArgs false
set_option linter.unusedSectionVars false
namespace Go.KK
open Go.ChangeMaps (setBlock)
section
variable {κ : Type} [DecidableEq κ]
def adel (m : List (κ × Value)) (k : κ) : List (κ × Value) := match m.findIdx? (fun p => decide (k = p.1)) with
  | some j => m.eraseIdx j
  | none => m
/-- A map with an iterator over it, that has come to the entries of S, the last first. -/
@[irreducible] def mpIt (K : KeyE κ) (b i : Nat) (m : List (κ × Value)) (S : List Nat) : Asn := fun h => ∃ es clock seen, h b = some (.map es clock) ∧ h i = some (.mapIter (some b) clock seen clock) ∧ ents K es m ∧ bornOk es clock ∧
  seen.toList.reverse = S.map (fun j => ((es[j]?).map (·.born)).getD 0) ∧ ∀ j ∈ S, j < es.size
theorem mpIt_iff {K : KeyE κ} {b i : Nat} {m : List (κ × Value)} {S : List Nat} {h : Hp} : mpIt K b i m S h ↔ ∃ es clock seen, h b = some (.map es clock) ∧ h i = some (.mapIter (some b) clock seen clock) ∧ ents K es m ∧ bornOk es clock ∧
  seen.toList.reverse = S.map (fun j => ((es[j]?).map (·.born)).getD 0) ∧ ∀ j ∈ S, j < es.size := by unfold mpIt; exact Iff.rfl
theorem hp_setIf {w : World} {b : Nat} {o o' : Obj} (h : hp w b = some o) : hp { w with heap := w.heap.setIfInBounds b o' } = Hp.upd (hp w) b o' := by
  funext z
  have hb : b < w.heap.size := (Array.getElem?_eq_some_iff.1 h).1
  unfold hp Hp.upd
  simp only [Array.getElem?_setIfInBounds]
  by_cases e : z = b
  · subst e; simp [hb]
  · rw [if_neg (fun h => e h.symm), if_neg e]
theorem Hp.upd_le {h1 h : Hp} {b : Nat} {o : Obj} (hl : Hp.le h1 h) : Hp.le (Hp.upd h1 b o) (Hp.upd h b o) := fun x u hx => by
  unfold Hp.upd at *
  by_cases e : x = b
  · simpa [e] using hx
  · simp only [e, if_false] at *; exact hl _ _ hx
end
section
variable {κ : Type} [DecidableEq κ] {P : Program} {F : Fr} {L : List Asn} {dst : Option Tmp} {ty : TypeId} {pos : String} {aft : Array Edge} {gd : Option (Nat × Bool)}
class MpItIn {κ : outParam Type} (K : outParam (KeyE κ)) (L : List Asn) (i : Nat) (b : outParam Nat) (m : outParam (List (κ × Value))) (S : outParam (List Nat)) (f : outParam (Asn → List Asn)) : Prop where out : ∀ B, Rep (mpIt K b i m S) B L (f B)
instance MpItIn.head {κ : Type} {K : KeyE κ} {L : List Asn} {b i : Nat} {m : List (κ × Value)} {S : List Nat} : MpItIn K (mpIt K b i m S :: L) i b m S (fun B => B :: L) := ⟨fun _ => .head⟩
instance (priority := 900) MpItIn.tail {κ : Type} {K : KeyE κ} {A : Asn} {L : List Asn} {b i : Nat} {m : List (κ × Value)} {S : List Nat} {f : Asn → List Asn} [h : MpItIn K L i b m S f] : MpItIn K (A :: L) i b m S (fun B => A :: f B) := ⟨fun B => .tail (h.out B)⟩

theorem Eff.range {t kt et : Nat} [hT : MapT P t kt et] {x : Operand} {b : Nat} {K : KeyE κ} {m : List (κ × Value)} {f : Asn → List Asn} (hx : ev F x = some (.map (some b))) [hm : MpIn K L b m f] :
    Eff P F L ⟨dst, .range t x, ty, pos, aft, gd⟩ (fun u M => ∃ i, u = .pointer (some ⟨i, 0, none⟩) ∧ M = f (mpIt K b i m [])) := Eff.of_run fun ρ w hρ hs => by
  obtain ⟨es, clock, hb, he, hbo⟩ := MpIn.getB (b := b) (hh := hp w) hs
  have hut := run_underlying (P := P) hT.out w
  have hg := MapKept.run_getObj_map (P := P) (w := w) (r := b) (es := es) (clock := clock) hb
  have hbl : b < w.heap.size := (Array.getElem?_eq_some_iff.1 hb).1
  refine ⟨.pointer (some ⟨w.heap.size, 0, none⟩), { w with heap := w.heap.push (.mapIter (some b) clock #[] clock) }, f (mpIt K b w.heap.size m []), ?_, ⟨w.heap.size, rfl, rfl⟩, rfl, ?_⟩
  · have hex : execOp ρ ⟨dst, .range t x, ty, pos, aft, gd⟩ = (do pure (.value (← Instr.range t (ρ x)))) := rfl
    rw [hex]
    unfold Instr.range
    simp only [Sem.run_bind, hρ _ _ hx, hut, hg, Result.andThen_ok, Sem.run_pure]
    rfl
  · rw [hp_push]
    have hsz := hp_size w
    refine Sat.frameRep (hm.out _) hs fun h1 hA hl1 => ?_
    obtain ⟨es1, c1, hb1, he1, hbo1⟩ := mp_iff.1 hA
    have e2 : es1 = es ∧ c1 = clock := by have := hl1 _ _ hb1; rw [hb] at this; simp at this; exact ⟨this.1.symm, this.2.symm⟩
    obtain ⟨rfl, rfl⟩ := e2
    refine ⟨Hp.upd h1 w.heap.size (.mapIter (some b) c1 #[] c1), mpIt_iff.2 ⟨es1, c1, #[], ?_, by simp [Hp.upd], he1, hbo1, by simp, by simp⟩, Hp.upd_le hl1, ?_, ?_⟩
    · unfold Hp.upd; rw [if_neg (by omega)]; exact hb1
    · intro z hz
      unfold Hp.upd at hz
      by_cases e : z = w.heap.size
      · right; rw [e]; exact hsz
      · left; simpa [e] using hz
    · intro z o hz hno
      unfold Hp.upd
      by_cases e : z = w.heap.size
      · rw [e, hsz] at hz; cases hz
      · rw [if_neg e]; exact hz
theorem setBlock_hp {w w1 : World} {r : Nat} {o o' : Obj} (h1 : w1 = w ∨ w1 = w.drew) (h : hp w r = some o) : hp (setBlock w1 r o') = Hp.upd (hp w) r o' := by
  have e : hp (setBlock w1 r o') = hp { w with heap := w.heap.setIfInBounds r o' } := by rcases h1 with rfl | rfl <;> rfl
  rw [e]; exact hp_setIf h
theorem left_mem {es : Array MapEntry} {clock : Nat} {seen : Array Nat} {S : List Nat} (hbo : bornOk es clock) (hseen : seen.toList.reverse = S.map (fun j => ((es[j]?).map (·.born)).getD 0)) (hS : ∀ j ∈ S, j < es.size) {j : Nat} {e : MapEntry} (he : es[j]? = some e) :
    e ∈ (leftOf es seen).toList ↔ ¬ j ∈ S := by
  have hjl : j < es.size := (Array.getElem?_eq_some_iff.1 he).1
  have hmem : e.born ∈ seen.toList ↔ j ∈ S := by
    rw [← List.mem_reverse, hseen, List.mem_map]
    constructor
    · rintro ⟨i, hi, hb⟩
      have hil := hS i hi
      rw [Array.getElem?_eq_getElem hil] at hb
      simp only [Option.map_some, Option.getD_some] at hb
      have hp := List.pairwise_iff_getElem.1 hbo.1
      have hij : i = j := by
        rcases Nat.lt_trichotomy i j with h | h | h
        · have := hp i j (by simpa using hil) (by simpa using hjl) h
          simp only [List.getElem_map, Array.getElem_toList] at this
          rw [(Array.getElem?_eq_some_iff.1 he).2] at this
          exact absurd hb this
        · exact h
        · have := hp j i (by simpa using hjl) (by simpa using hil) h
          simp only [List.getElem_map, Array.getElem_toList] at this
          rw [(Array.getElem?_eq_some_iff.1 he).2] at this
          exact absurd hb.symm this
      exact hij ▸ hi
    · intro hj; exact ⟨j, hj, by rw [he]; rfl⟩
  unfold leftOf
  rw [Array.toList_filter, List.mem_filter]
  constructor
  · rintro ⟨_, h⟩ hj
    have : e.born ∈ seen := by simpa using hmem.2 hj
    simp [this] at h
  · intro hj
    refine ⟨by rw [← (Array.getElem?_eq_some_iff.1 he).2]; simp, ?_⟩
    have : ¬ e.born ∈ seen := fun h => hj (hmem.1 (by simpa using h))
    simp [this]
theorem Eff.next {x : Operand} {i b : Nat} {K : KeyE κ} {m : List (κ × Value)} {S : List Nat} {f : Asn → List Asn} (hx : ev F x = some (.pointer (some ⟨i, 0, none⟩))) [hm : MpItIn K L i b m S f] :
    Eff P F L ⟨dst, .next x false, ty, pos, aft, gd⟩ (fun u M => (∃ j k v, m[j]? = some (k, v) ∧ ¬ j ∈ S ∧ u = .tuple #[.bool true, K.v k, v] ∧ M = f (mpIt K b i m (j :: S))) ∨ ((∀ j, j < m.length → j ∈ S) ∧ u = .tuple #[.bool false] ∧ M = f (mpIt K b i m S))) := Eff.of_run fun ρ w hρ hs => by
  obtain ⟨h0, l0, a0⟩ := Sat.memRep (hm.out (mpIt K b i m S)) hs
  obtain ⟨es, clock, seen, hb1, hi1, he, hbo, hseen, hS⟩ := mpIt_iff.1 a0
  have hb : hp w b = some (.map es clock) := l0 _ _ hb1
  have hi : hp w i = some (.mapIter (some b) clock seen clock) := l0 _ _ hi1
  have hlen : es.size = m.length := ents_len he
  have hex : execOp ρ ⟨dst, .next x false, ty, pos, aft, gd⟩ = (do pure (.value (← Instr.next (ρ x) false ty))) := rfl
  have hall : ∀ j, j < es.size → ∃ e k v, es[j]? = some e ∧ m[j]? = some (k, v) ∧ e.key = K.v k ∧ e.val = v := by
    intro j hj
    have h1 := congrArg (fun l => l[j]?) he.1
    simp only [List.getElem?_map, Array.getElem?_toList, Array.getElem?_eq_getElem hj, List.getElem?_eq_getElem (show j < m.length by omega), Option.map_some, Option.some.injEq, Prod.mk.injEq] at h1
    exact ⟨es[j], m[j].1, m[j].2, Array.getElem?_eq_getElem hj, List.getElem?_eq_getElem (by omega), h1.1, h1.2⟩
  rcases run_next_at (P := P) w ty i b clock clock seen es clock hi hb hbo.2 (Nat.le_refl _) with ⟨h1, h2⟩ | ⟨e, he1, w1, hw1, hrun⟩
  · refine ⟨_, w, f (mpIt K b i m S), ?_, .inr ⟨fun j hj => ?_, rfl, rfl⟩, rfl, ?_⟩
    · rw [hex, Sem.run_bind, hρ _ _ hx, h2]; rfl
    · obtain ⟨e, k, v, g1, _⟩ := hall j (by omega)
      by_cases hj2 : j ∈ S
      · exact hj2
      · have h3 := (left_mem hbo hseen hS g1).2 hj2
        have h4 : (leftOf es seen).toList = [] := List.eq_nil_of_length_eq_zero (by rw [Array.length_toList]; exact h1)
        rw [h4] at h3; cases h3
    · obtain ⟨R, p1, p2⟩ := (hm.out (mpIt K b i m S)).perm
      exact (hs.perm p1).perm p2.symm
  · have hin : e ∈ es.toList := by
      unfold leftOf at he1
      rw [Array.toList_filter] at he1
      exact (List.mem_filter.1 he1).1
    obtain ⟨j, hj, hje⟩ := List.getElem_of_mem hin
    have hjl : j < es.size := by simpa using hj
    obtain ⟨e', k, v, g1, g2, g3, g4⟩ := hall j hjl
    have hee : e' = e := by rw [Array.getElem?_eq_getElem hjl] at g1; rw [← hje]; exact (Option.some.inj g1).symm
    subst hee
    have hjS := (left_mem hbo hseen hS g1).1 he1
    refine ⟨.tuple #[.bool true, K.v k, v], setBlock w1 i (.mapIter (some b) clock (seen.push e'.born) clock), f (mpIt K b i m (j :: S)), ?_, .inl ⟨j, k, v, g2, hjS, rfl, rfl⟩, ?_, ?_⟩
    · rw [hex, Sem.run_bind, hρ _ _ hx, hrun, g3, g4]; rfl
    · rcases hw1 with rfl | rfl <;> rfl
    · rw [setBlock_hp hw1 hi]
      refine Sat.frameRep (hm.out _) hs fun h1 hA hl1 => ?_
      obtain ⟨es1, c1, seen1, hb2, hi2, he2, hbo2, hs2, hS2⟩ := mpIt_iff.1 hA
      have e2 : es1 = es ∧ c1 = clock := by have := hl1 _ _ hb2; rw [hb] at this; simp at this; exact ⟨this.1.symm, this.2.symm⟩
      obtain ⟨rfl, rfl⟩ := e2
      have hne : b ≠ i := fun e => by rw [e, hi] at hb; cases hb
      refine ⟨Hp.upd h1 i (.mapIter (some b) c1 (seen.push e'.born) c1), mpIt_iff.2 ⟨es1, c1, seen.push e'.born, ?_, by simp [Hp.upd], he, hbo, ?_, ?_⟩, Hp.upd_le hl1, ?_, ?_⟩
      · unfold Hp.upd; rw [if_neg hne]; exact hb2
      · rw [Array.toList_push, List.reverse_append, hseen, List.map_cons, g1]; rfl
      · intro z hz
        rcases List.mem_cons.1 hz with rfl | hz
        · exact hjl
        · exact hS z hz
      · intro z hz
        unfold Hp.upd at hz
        by_cases e : z = i
        · left; rw [e, hi2]; simp
        · left; simpa [e] using hz
      · intro z o hz hno
        unfold Hp.upd
        by_cases e : z = i
        · rw [e, hi2] at hno; cases hno
        · rw [if_neg e]; exact hz
end
end Go.KK

/- The text K31. -/
/-!
  Copies, an append of zeros, bytes as strings, assertions in a list.
-/
set_option linter.unusedVariables false
set_option linter.unusedSimpArgs false
set_option linter.unusedSectionVars false
namespace Go.KK

/-- A list written over another one, from a place on. -/
def spl {α : Type} (xs : List α) (j : Nat) (ys : List α) : List α := xs.take j ++ ys ++ xs.drop (j + ys.length)
section
variable {P : Program} {F : Fr} {L : List Asn} {dst : Option Tmp} {ty : TypeId} {pos : String} {aft : Array Edge} {gd : Option (Nat × Bool)}

end
end Go.KK

/- The text K32. -/
/-!
  Bytes as strings; what is only read; assertions in a list; slices of slices that are only read.
-/
set_option linter.unusedVariables false
set_option linter.unusedSimpArgs false
set_option linter.unusedSectionVars false
namespace Go.KK
section
variable {P : Program} {F : Fr} {L : List Asn} {dst : Option Tmp} {ty : TypeId} {pos : String} {aft : Array Edge} {gd : Option (Nat × Bool)}
def strB (xs : List UInt8) : ByteArray := ⟨xs.toArray⟩
/-- What is only read from now on. -/
@[irreducible] def rd {α : Type} (E : Enc α) (a : Option Addr) (xs : List α) : Asn := fun h => slR E h a xs
instance SlIn.rd {α : Type} {E : Enc α} {L : List Asn} {a : Option Addr} {xs : List α} : SlIn E (rd E a xs :: L) a xs := ⟨fun h hs => by
  obtain ⟨h1, l, s⟩ := hs.head
  have s2 : slR E h1 a xs := by unfold KK.rd at s; exact s
  exact s2.mono l⟩
end

/-! Assertions in a list. -/
class StarP (As : List Asn) (L : List Asn) (R : outParam (List Asn)) : Prop where out : L.Perm (star As :: R)
instance StarP.head {As : List Asn} {L : List Asn} : StarP As (star As :: L) L := ⟨.refl _⟩
instance (priority := 900) StarP.tail {As : List Asn} {B : Asn} {L R : List Asn} [h : StarP As L R] : StarP As (B :: L) (B :: R) := ⟨(h.out.cons B).trans (.swap _ _ _)⟩

/-! Slices of slices that are only read. -/
class RowsR {α : outParam Type} (E : outParam (Enc α)) (L : List Asn) (hs : List Hdr) (xss : outParam (List (List α))) : Prop where
  out : ∀ h, Sat h L → hs.map (·.n) = xss.map (·.length) ∧ ∀ (i : Nat) (hd : Hdr) (xs : List α), hs[i]? = some hd → xss[i]? = some xs → slR E h hd.a xs ∧ (hd.a = none → hd.n = 0 ∧ hd.cap = 0) ∧ hd.n ≤ hd.cap
instance (priority := 900) RowsR.tail {α : Type} {E : Enc α} {A : Asn} {L : List Asn} {hs : List Hdr} {xss : List (List α)} [hh : RowsR E L hs xss] : RowsR E (A :: L) hs xss := ⟨fun h s => hh.out h s.tail⟩
theorem RowsR.row {α : Type} {E : Enc α} {L : List Asn} {hs : List Hdr} {xss : List (List α)} (hh : RowsR E L hs xss) {i : Nat} {hd : Hdr} {xs : List α} (h1 : hs[i]? = some hd) (h2 : xss[i]? = some xs) : SlIn E L hd.a xs := ⟨fun h s => ((hh.out h s).2 i hd xs h1 h2).1⟩
theorem RowsR.len {α : Type} {E : Enc α} {L : List Asn} {hs : List Hdr} {xss : List (List α)} [hh : RowsR E L hs xss] {h : Hp} (s : Sat h L) : hs.map (·.n) = xss.map (·.length) := (hh.out h s).1
theorem RowsR.fit {α : Type} {E : Enc α} {L : List Asn} {hs : List Hdr} {xss : List (List α)} [hh : RowsR E L hs xss] {h : Hp} (s : Sat h L) {i : Nat} {hd : Hdr} {xs : List α} (h1 : hs[i]? = some hd) (h2 : xss[i]? = some xs) : (hd.a = none → hd.n = 0 ∧ hd.cap = 0) ∧ hd.n ≤ hd.cap := ((hh.out h s).2 i hd xs h1 h2).2
class InpR {α : outParam Type} (E : outParam (Enc α)) (h0 : Hp) (hs : List Hdr) (xss : outParam (List (List α))) : Prop where
  out : hs.map (·.n) = xss.map (·.length) ∧ ∀ (i : Nat) (hd : Hdr) (xs : List α), hs[i]? = some hd → xss[i]? = some xs → slR E h0 hd.a xs ∧ (hd.a = none → hd.n = 0 ∧ hd.cap = 0) ∧ hd.n ≤ hd.cap
instance InpR.rowsR {α : Type} {E : Enc α} {h0 : Hp} {L : List Asn} {hs : List Hdr} {xss : List (List α)} [hh : InpR E h0 hs xss] : RowsR E (inp h0 :: L) hs xss := ⟨fun h s => by
  obtain ⟨h1, l, a⟩ := s.head
  refine ⟨hh.out.1, fun i hd xs e1 e2 => ?_⟩
  obtain ⟨g1, g2⟩ := hh.out.2 i hd xs e1 e2
  exact ⟨g1.mono (Hp.le_trans (inp_iff.1 a) l), g2⟩⟩
end Go.KK

/- The text K33. -/
/-!
  Slice arguments of whatever elements; of bytes; of slices.
-/
set_option linter.unusedVariables false
set_option linter.unusedSimpArgs false
set_option linter.unusedSectionVars false
namespace Go.KK
open Go.ChangeShapes Go.WideShapes Go.ChangeAt Go.RowKit
section
open Go.Deep
variable {H : Type} {enc : TypeId × Value → H} {P : Program} {w : World} {base : Nat} {spare : Nat → Bool} {held : Bool}
theorem open_gen {α : Type} [Inhabited α] (E : Enc α) {t e : TypeId} {v : Value} {d : DataW H} {ps : List MemPlace} (ht : P.underlying t = some (.slice e)) (hC : P.cellsOf e = E.m) (hm : 0 < E.m)
    (hel : ∀ (fuel : Nat) (cs : List Value) (x : DataW H × List MemPlace), DataW.trod enc P w base spare held fuel e cs = some x → ∃ g : α, E.enc g = cs)
    (hv : ∃ a len cap, v = .slice a len cap) (h : DataW.Trod enc P w base spare held t v d ps) : ∃ (a : Option Addr) (xs : List α) (cap : Nat), v = .slice a xs.length cap ∧ xs.length ≤ maxLen ∧ xs.length ≤ cap ∧ (a = none → xs = [] ∧ cap = 0) ∧ slR E (hp w) a xs ∧
      ∀ x ∈ xs, ∃ (fuel : Nat) (y : DataW H × List MemPlace), DataW.trod enc P w base spare held fuel e (E.enc x) = some y := by
  obtain ⟨fuel, hf⟩ := h
  obtain ⟨a0, len0, cap0, rfl⟩ := hv
  rcases open_slice ht hf with h0 | ⟨a, len, cap, m, n, D, Pl, h0, hb, h1, h2, hmm, hx, hi⟩
  · simp [Value.cells] at h0
    obtain ⟨⟨rfl, rfl, rfl⟩, _⟩ := h0
    exact ⟨none, [], 0, rfl, by unfold maxLen; simp, by simp, fun _ => ⟨rfl, rfl⟩, .inl rfl, by simp⟩
  · simp [Value.cells] at h0
    obtain ⟨rfl, rfl, rfl⟩ := h0
    have hex : ∀ i, i < len0 → ∃ x : α, (∀ k u, k < E.m → (E.enc x)[k]? = some u → w.cell? (a.add (i * E.m + k)) = some u) ∧ DataW.trod enc P w base spare held n e (E.enc x) = some (D i, Pl i) := by
      intro i hil
      obtain ⟨cs', hc, ht'⟩ := hi i (by rw [hmm]; split <;> omega)
      rw [hC] at hc
      obtain ⟨_, hcl, hat⟩ := World.cells?_some hc
      obtain ⟨g, hg⟩ := hel _ _ _ ht'
      refine ⟨g, fun k u hk hu => ?_, by rw [hg]; exact ht'⟩
      have := hat k hk
      rw [Go.Deep.add_add] at this
      rw [this, ← hg, hu]
    obtain ⟨F, hF⟩ := choose_lt hex
    refine ⟨some a, (List.range len0).map F, cap0, by simp, by simp; omega, by simp; omega, (fun h => by cases h), slR_of hm ?_, fun x hx => ?_⟩
    · intro i x hx k u hk hu
      rw [List.getElem?_map] at hx
      by_cases hil : i < len0
      · rw [List.getElem?_range hil] at hx
        simp only [Option.map_some, Option.some.injEq] at hx
        subst hx
        exact (hF i hil).1 k u hk hu
      · rw [List.getElem?_eq_none (by simp; omega)] at hx; cases hx
    · obtain ⟨i, hi', rfl⟩ := List.mem_map.1 hx
      exact ⟨n, _, (hF i (List.mem_range.1 hi')).2⟩
end
end Go.KK

/- The text K34. -/
/-!
  A slice argument of structs of which one field is a slice and the others are ints, strings and bools.
-/
set_option linter.unusedVariables false
set_option linter.unusedSimpArgs false
set_option linter.unusedSectionVars false
namespace Go.KK
open Go.ChangeShapes Go.WideShapes Go.ChangeAt Go.RowKit
section
open Go.Deep
variable {H : Type} {enc : TypeId × Value → H} {P : Program} {w : World} {base : Nat} {spare : Nat → Bool} {held : Bool}
end
end Go.KK

/- The text K35. -/
/-!
  A range over a function of one value whose next value is not known beforehand (the keys of a map).
-/
set_option linter.unusedVariables false
set_option linter.unusedSimpArgs false
namespace Go.KK
section
variable {c : Rx} {R : RP} {ds : List Deferred} {F : Fr} {L : List Asn}
theorem JR.star {M : List Asn} {x : Code} (h : JR c R ds F (M ++ L) x) : JR c R ds F (star M :: L) x := fun a w hF hs he => h a w hF (Sat.star.1 hs) he
end
end Go.KK

/- The text K36. -/
/-!
  A map's look-up that tells whether the key is there.
-/
set_option linter.unusedVariables false
set_option linter.unusedSimpArgs false
namespace Go.KK
section
variable {κ : Type} [DecidableEq κ] {P : Program} {F : Fr} {L : List Asn} {dst : Option Tmp} {ty : TypeId} {pos : String} {aft : Array Edge} {gd : Option (Nat × Bool)}
end
end Go.KK

/- The text K37. -/
/-!
  Rows that are owned, read as rows that are only read; a struct argument taken apart.
-/
set_option linter.unusedVariables false
set_option linter.unusedSimpArgs false
set_option linter.unusedSectionVars false
namespace Go.KK
instance RowsR.own {α : Type} {E : Enc α} {L : List Asn} {hs : List Hdr} {xss : List (List α)} : RowsR E (rows E hs xss :: L) hs xss := ⟨fun h s => by
  have e := (rows_iff.1 s).1
  refine ⟨e, fun i hd xs h1 h2 => ?_⟩
  have s2 := rows_open h1 h2 s
  have hn := hdr_n e h1 h2
  have g1 : slR E h hd.a xs := SlIn.head.out h s2
  have g2 := SlH.nil (a := hd.a) (cap := hd.cap) (E := E) (xs := xs) s2
  have g3 := SlH.le (a := hd.a) (cap := hd.cap) (E := E) (xs := xs) s2
  exact ⟨g1, fun ha => by obtain ⟨a1, a2⟩ := g2 ha; exact ⟨by rw [hn, a1]; rfl, a2⟩, by omega⟩⟩
end Go.KK

/- The text K38. -/
/-!
  A store of a whole element of a slice.
-/
set_option linter.unusedVariables false
set_option linter.unusedSimpArgs false
set_option linter.unusedSectionVars false
namespace Go.KK
section
variable {P : Program} {F : Fr} {L : List Asn} {dst : Option Tmp} {ty : TypeId} {pos : String} {aft : Array Edge} {gd : Option (Nat × Bool)}
end
end Go.KK

/- The text K39. -/
/-!
  Struct arguments whose fields are one cell each.
-/
set_option linter.unusedVariables false
set_option linter.unusedSimpArgs false
set_option linter.unusedSectionVars false
namespace Go.KK
open Go.ChangeShapes Go.WideShapes Go.ChangeAt Go.RowKit
section
open Go.Deep
variable {H : Type} {enc : TypeId × Value → H} {P : Program} {w : World} {base : Nat} {spare : Nat → Bool} {held : Bool}
theorem open_cells {t : TypeId} {fs : Array Field} {fuel : Nat} {cs : List Value} {x : DataW H × List MemPlace} (hs : P.underlying t = some (.struct fs)) (hone : ∀ (i : Nat) (f : Field), fs[i]? = some f → f.offset = i ∧ P.cellsOf f.type = 1) (hC : P.cellsOf t = fs.size)
    (h : DataW.trod enc P w base spare held fuel t cs = some x) :
    ∃ (ys : List (DataW H × List MemPlace)), x = (.agg (ys.map (·.1)), ys.flatMap (·.2)) ∧ cs.length = fs.size ∧ ys.length = fs.size ∧
      ∀ (i : Nat) (f : Field) (c : Value) (y : DataW H × List MemPlace), fs[i]? = some f → cs[i]? = some c → ys[i]? = some y → ∃ n, DataW.trod enc P w base spare held n f.type [c] = some y := by
  obtain ⟨xs, n, _, hx, hl, hxl, hff⟩ := DataW.trod_struct hs h
  refine ⟨xs, hx, by rw [hl, hC], hxl, fun i f c y hi hc hy => ⟨n, ?_⟩⟩
  obtain ⟨ho, hc1⟩ := hone i f hi
  have g := hff i f hi
  have hlt := (List.getElem?_eq_some_iff.1 hc).1
  rw [ho, hc1, take1_drop cs i undef hlt, hy] at g
  rw [List.getD_eq_getElem?_getD, hc] at g
  exact g
theorem len2 {α : Type} {l : List α} (h : l.length = 2) : ∃ a b, l = [a, b] := by
  match l, h with
  | [a, b], _ => exact ⟨a, b, rfl⟩
theorem len3 {α : Type} {l : List α} (h : l.length = 3) : ∃ a b c, l = [a, b, c] := by
  match l, h with
  | [a, b, c], _ => exact ⟨a, b, c, rfl⟩
/-- A cell that is a slice's is read as the slice. -/
theorem cell_slice {t e : TypeId} {n : Nat} {c : Value} {y : DataW H × List MemPlace} (ht : P.underlying t = some (.slice e)) (h : DataW.trod enc P w base spare held n t [c] = some y) : (∃ a len cap, c = .slice a len cap) ∧ DataW.Trod enc P w base spare held t c y.1 y.2 := by
  have hs : ∃ a len cap, c = .slice a len cap := by
    rcases open_slice ht h with h0 | ⟨a, len, cap, m, n', D, Pl, h0, _⟩
    · simp at h0; exact ⟨_, _, _, h0.1⟩
    · simp at h0; exact ⟨_, _, _, h0⟩
  refine ⟨hs, n, ?_⟩
  obtain ⟨a, len, cap, rfl⟩ := hs
  exact h
theorem cell_string {t : TypeId} {n : Nat} {c : Value} {y : DataW H × List MemPlace} (ht : P.underlying t = some .string) (h : DataW.trod enc P w base spare held n t [c] = some y) : ∃ s, c = .string s := by
  obtain ⟨s, e, _⟩ := DataW.trod_string ht h
  simp at e; exact ⟨s, e⟩
theorem cell_int {t : TypeId} {k : IntKind} {n : Nat} {c : Value} {y : DataW H × List MemPlace} (ht : P.underlying t = some (.int k)) (h : DataW.trod enc P w base spare held n t [c] = some y) : ∃ z, c = .int k z ∧ (Lit.int k z).wf = true := by
  obtain ⟨s, e, _, hw⟩ := DataW.trod_int ht h
  simp at e; exact ⟨s, e, hw⟩
end
end Go.KK

/- The text K40. -/
/-!
  The middle of two ints by way of uint.
-/
set_option linter.unusedVariables false
set_option linter.unusedSimpArgs false
namespace Go.KK
section
variable {P : Program} {F : Fr} {L : List Asn} {dst : Option Tmp} {ty : TypeId} {pos : String} {aft : Array Edge} {gd : Option (Nat × Bool)}
class IntT (P : Program) (t : Nat) (k : outParam IntKind) : Prop where
  out : P.underlying t = some (.int k)
end
end Go.KK
namespace Go.KK
end Go.KK

/- The text K41. -/
set_option linter.unusedVariables false
set_option linter.unusedSimpArgs false
namespace Go.KK
section
variable {P : Program} {F : Fr} {L : List Asn} {dst : Option Tmp} {ty : TypeId} {pos : String} {aft : Array Edge} {gd : Option (Nat × Bool)}
end
end Go.KK

/- The text K42. -/
set_option linter.unusedVariables false
set_option linter.unusedSimpArgs false
set_option linter.unusedSectionVars false
namespace Go.KK
/-! Assertions, one for each pair of two lists. -/
section
variable {ρ κ : Type} {A : ρ → κ → Asn}
/-- All but one. -/
def zwBut (A : ρ → κ → Asn) (i : Nat) (rs : List ρ) (cs : List κ) : Asn := star ((List.zipWith A rs cs).eraseIdx i)
end
end Go.KK

/- The text K43. -/
set_option linter.unusedVariables false
set_option linter.unusedSimpArgs false
namespace Go.KK
section
variable {P : Program} {F : Fr} {L : List Asn} {dst : Option Tmp} {ty : TypeId} {pos : String} {aft : Array Edge} {gd : Option (Nat × Bool)}
end
end Go.KK
