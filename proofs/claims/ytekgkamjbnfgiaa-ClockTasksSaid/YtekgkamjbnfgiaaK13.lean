/-
  A part of the proof of the claim that this folder bears.
  This text: K13.
-/
import Derived.Test.YtekgkamjbnfgiaaK12
set_option linter.unusedVariables false
set_option linter.unusedSimpArgs false
namespace Go.KK

/-! A region that draws its order and ends in writes of what it has read: 'E' are the operations behind which the condition need not hold; what is taken first must come before each of them. -/
def closedB (ops : Array Oper) (listed : Array Bool) : Bool :=
  (List.range ops.size).all fun k => !listed.getD k true || match ops[k]? with
    | some o => o.after.all fun e => !Region.binds .any e || listed.getD e.on false
    | none => true
def ancB (ops : Array Oper) (i : Nat) : Nat → Nat → Bool
  | 0, _ => false
  | n + 1, k => match ops[k]? with
    | some o => o.after.any fun e => Region.binds .any e && (e.on == i || ancB ops i n e.on)
    | none => false

def Closed (ops : Array Oper) (listed : Array Bool) : Prop :=
  ∀ k o, ops[k]? = some o → listed.getD k true = true → ∀ e ∈ o.after, Region.binds .any e = true → listed.getD e.on false = true

theorem closed_of {ops : Array Oper} {listed : Array Bool} (h : closedB ops listed = true) : Closed ops listed := by
  intro k o hk hl e he hb
  have hlt : k < ops.size := (Array.getElem?_eq_some_iff.1 hk).1
  have h1 := List.all_eq_true.1 h k (List.mem_range.2 hlt)
  simp only [hl, Bool.not_true, Bool.false_or, hk] at h1
  have h2 := (Array.all_eq_true_iff_forall_mem.1 h1) e he
  simpa [hb] using h2

theorem anc_waits {ops : Array Oper} {listed : Array Bool} {i : Nat} (hc : Closed ops listed) (hi : listed.getD i false = false) :
    ∀ n k, ancB ops i n k = true → ∃ o, ops[k]? = some o ∧ ∃ e ∈ o.after, Region.binds .any e = true ∧ listed.getD e.on false = false := by
  intro n
  induction n with
  | zero => intro k h; simp [ancB] at h
  | succ n ih =>
    intro k h
    simp only [ancB] at h
    cases hk : ops[k]? with
    | none => simp [hk] at h
    | some o =>
      simp only [hk] at h
      obtain ⟨e, he, hh⟩ : ∃ e ∈ o.after, (Region.binds .any e && (e.on == i || ancB ops i n e.on)) = true := by
        obtain ⟨j, hj, hh⟩ := Array.any_eq_true.1 h
        exact ⟨_, Array.getElem_mem hj, hh⟩
      simp only [Bool.and_eq_true, Bool.or_eq_true, beq_iff_eq] at hh
      obtain ⟨hb, hh⟩ := hh
      refine ⟨o, rfl, ?_⟩
      rcases hh with rfl | hh
      · exact ⟨e, he, hb, hi⟩
      · obtain ⟨o2, ho2, e2, he2, hb2, hl2⟩ := ih e.on hh
        refine ⟨e, he, hb, ?_⟩
        cases hl : listed.getD e.on false with
        | false => rfl
        | true =>
          have hl' : listed.getD e.on true = true := by
            rw [Array.getD_eq_getD_getElem?] at hl ⊢
            cases hx : listed[e.on]? with
            | none => rfl
            | some b => simp [hx] at hl ⊢; exact hl
          have := hc e.on o2 ho2 hl' e2 he2 hb2
          rw [this] at hl2; cases hl2

section
variable {P : Program} {ops : Array Oper} {Q : Exit → Act → World → Prop} {S : World → Prop}

def wpAnyE (P : Program) (ops : Array Oper) (Q : Exit → Act → World → Prop) (S : World → Prop) (E : List Nat) : Nat → Array Bool → Act → World → Prop
  | 0, listed, a, w => Region.ready .any ops listed = [] ∧ Q .normal a w
  | fuel + 1, listed, a, w =>
    (Region.ready .any ops listed = [] → Q .normal a w) ∧
    ∀ i ∈ Region.ready .any ops listed, wpOp P ops Q i (fun a' w' => (i ∈ E ∨ S w') ∧ wpAnyE P ops Q S E fuel (listed.setIfInBounds i true) a' w') a w

theorem wpAny_of_E {E : List Nat} : ∀ (fuel : Nat) (listed : Array Bool) (a : Act) (w : World), wpAnyE P ops Q S E fuel listed a w → wpAny P .any ops Q fuel listed a w
  | 0, _, _, _, h => h
  | fuel + 1, _, _, _, h => ⟨h.1, fun i hi => wpOp_mono (fun a' w' h' => wpAny_of_E fuel _ a' w' h'.2) (h.2 i hi)⟩

theorem closed_set {listed : Array Bool} {j : Nat} (hc : Closed ops listed) (hj : j ∈ Region.ready .any ops listed) : Closed ops (listed.setIfInBounds j true) := by
  intro k o hk hl e he hb
  obtain ⟨h0, oj, hoj, hall⟩ := mem_ready.1 hj
  by_cases hkj : k = j
  · subst hkj
    rw [hk] at hoj; cases hoj
    exact getD_set_true (hall e he hb)
  · rw [getD_set_ne true (Ne.symm hkj)] at hl
    exact getD_set_true (hc k o hk hl e he hb)

theorem wpAnyE_first {E : List Nat} {i n : Nat} {oi : Oper} {v : Value} (hi : ops[i]? = some oi) (hsel : ∀ (j : Nat) (o : Oper) cs b, ops[j]? = some o → o.op ≠ .select cs b)
    (hQ : ∀ c a w, Q (.panic c) (a.put oi.dst v) w → Q (.panic c) a w) (hE : ∀ e ∈ E, ancB ops i n e = true) :
    ∀ (fuel : Nat) (listed : Array Bool) (a : Act) (w : World), Closed ops listed →
      (∀ j oj, ops[j]? = some oj → j ≠ i → listed.getD j true = false → (∀ e ∈ oj.after, Region.binds .any e = true → e.on ≠ i) → oi.apart ops oj = true) →
      i ∈ Region.ready .any ops listed → YieldsIf P ops S oi v a → S w →
      wpAnyE P ops Q S E fuel (listed.setIfInBounds i true) (a.put oi.dst v) w → wpAnyE P ops Q S E (fuel + 1) listed a w := by
  intro fuel
  induction fuel with
  | zero =>
    intro listed a w _ _ hr hy hS H
    refine ⟨fun h => (by rw [h] at hr; cases hr), fun j hj => ?_⟩
    by_cases hji : j = i
    · subst hji; exact hy.wpOp hi hS ⟨.inr hS, H⟩
    · have := ready_mono hj hji
      rw [H.1] at this
      cases this
  | succ fuel ih =>
    intro listed a w hc hfree hr hy hS H
    refine ⟨fun h => (by rw [h] at hr; cases hr), fun j hj => ?_⟩
    by_cases hji : j = i
    · subst hji; exact hy.wpOp hi hS ⟨.inr hS, H⟩
    obtain ⟨hjun, oj, hoj, hall⟩ := mem_ready.1 hj
    have hi0 : listed.getD i true = false := (mem_ready.1 hr).1
    have hi1 : listed.getD i false = false := by
      rw [Array.getD_eq_getD_getElem?] at hi0 ⊢
      cases hx : listed[i]? with
      | none => rfl
      | some b => simp [hx] at hi0 ⊢; exact hi0
    have hnot : ∀ e ∈ oj.after, Region.binds .any e = true → e.on ≠ i := fun e he hb heq => by
      have h1 := hall e he hb
      rw [heq, hi1] at h1; cases h1
    have hjE : j ∉ E := fun hm => by
      obtain ⟨o, ho, e, he, hb, hl⟩ := anc_waits hc hi1 n j (hE j hm)
      rw [hoj] at ho; cases ho
      have := hall e he hb
      rw [this] at hl; cases hl
    have h1 := H.2 j (ready_mono hj hji)
    have h2 := wpOp_putIf hoj (hfree j oj hoj hji hjun hnot) (fun cs b => hsel i oi cs b hi) (fun cs b => hsel j oj cs b hoj) hQ hy h1
    refine wpOp_mono (fun a' w' h3 => ?_) h2
    have hS' : S w' := h3.2.1.resolve_left hjE
    refine ⟨.inr hS', ih (listed.setIfInBounds j true) a' w' (closed_set hc hj) ?_ (ready_mono hr (Ne.symm hji)) h3.1 hS' ?_⟩
    · intro k ok hk hki hun hno
      refine hfree k ok hk hki ?_ hno
      by_cases hjk : j = k
      · subst hjk; exact hjun
      · rwa [getD_set_ne true hjk] at hun
    · rw [Array.setIfInBounds_comm _ _ hji]
      exact h3.2.2
end

end Go.KK
