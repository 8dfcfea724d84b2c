/-
  A part of the proof of the claim that this folder bears.
  This text: QSoonP.
-/
import Derived.Test.YtnllgmfpejjcnaaQSafra
set_option linter.unusedVariables false
set_option linter.unusedSimpArgs false
namespace Qt

theorem act_passS (σ : St) (y z : Int) : act σ 3 y z = (pass σ).2.2 := by unfold act; rw [if_neg (by decide), if_neg (by decide), if_neg (by decide)]
theorem act_recvS (σ : St) (y z : Int) : act σ 1 y z = (recv σ y).2 := by unfold act; rw [if_neg (by decide), if_pos (by decide)]
theorem act_idleS (σ : St) (y z : Int) : act σ 2 y z = (idle σ y).2 := by unfold act; rw [if_neg (by decide), if_neg (by decide), if_pos (by decide)]

/-- Told within so many passes. -/
def Within : Nat → St → Prop
  | 0, σ => σ.told = true
  | k + 1, σ => σ.told = true ∨ Within k (pass σ).2.2

theorem within_told {σ : St} (h : σ.told = true) : ∀ k, Within k σ
  | 0 => h
  | _ + 1 => .inl h

theorem map_spots {σ τ : St} {i : Nat} {s' : Spot} (hs : τ.spots = σ.spots.set i s') (hi : i < σ.spots.length) (ha : s'.active = (spot σ i).active) (j : Nat) : (spot τ j).active = (spot σ j).active := by
  rw [spot_set hs hi]; split
  · rename_i h; subst h; exact ha
  · rfl

theorem pass_cases {σ : St} (h : Still σ) (hp : σ.pos < σ.spots.length) (ht : σ.told = false) :
    (0 < σ.pos ∧ pass σ = (false, 0, stepDown σ)) ∨ (σ.pos = 0 ∧ pass σ = (true, 0, tellS σ)) ∨ (σ.pos = 0 ∧ ¬ (σ.fresh = false ∧ σ.dark = false ∧ (spot σ 0).black = false ∧ σ.sum + (spot σ 0).count = 0) ∧ pass σ = (false, 0, newRound σ)) := by
  have ha := h.1 _ hp
  by_cases h0 : 0 < σ.pos
  · exact .inl ⟨h0, by unfold pass; rw [if_neg (by simp [ht]), if_neg (by simp [ha]), if_pos h0]⟩
  · by_cases hc : σ.fresh = false ∧ σ.dark = false ∧ (spot σ 0).black = false ∧ σ.sum + (spot σ 0).count = 0
    · exact .inr (.inl ⟨by omega, by unfold pass; rw [if_neg (by simp [ht]), if_neg (by simp [ha]), if_neg h0, if_pos hc]⟩)
    · exact .inr (.inr ⟨by omega, hc, by unfold pass; rw [if_neg (by simp [ht]), if_neg (by simp [ha]), if_neg h0, if_neg hc]⟩)

theorem still_pass {σ : St} (h : Still σ) (hp : σ.pos < σ.spots.length) (ht : σ.told = false) : Still (pass σ).2.2 ∧ (pass σ).2.1 = 0 ∧ (pass σ).2.2.spots.length = σ.spots.length ∧ (pass σ).2.2.pos < (pass σ).2.2.spots.length := by
  rcases pass_cases h hp ht with ⟨h0, e⟩ | ⟨h0, e⟩ | ⟨h0, _, e⟩
  · rw [e]
    have hl : (stepDown σ).spots.length = σ.spots.length := by simp [stepDown]
    refine ⟨⟨fun i hi => ?_, h.2⟩, rfl, hl, ?_⟩
    · show (spot (stepDown σ) i).active = false
      rw [map_spots (σ := σ) (τ := stepDown σ) (i := σ.pos) rfl hp rfl]; exact h.1 i (by dsimp only at hi; omega)
    · show (stepDown σ).pos < (stepDown σ).spots.length
      rw [hl]; show σ.pos - 1 < _; omega
  · rw [e]; exact ⟨h, rfl, rfl, hp⟩
  · rw [e]
    have hl : (newRound σ).spots.length = σ.spots.length := by simp [newRound]
    refine ⟨⟨fun i hi => ?_, h.2⟩, rfl, hl, ?_⟩
    · show (spot (newRound σ) i).active = false
      rw [map_spots (σ := σ) (τ := newRound σ) (i := 0) rfl (by omega) rfl]; exact h.1 i (by dsimp only at hi; omega)
    · show (newRound σ).pos < (newRound σ).spots.length
      rw [hl]; show σ.spots.length - 1 < _; omega

def Cst (σ : St) : Prop := σ.fresh = false ∧ σ.dark = false ∧ (∀ i, i ≤ σ.pos → (spot σ i).black = false) ∧ σ.sum + lo σ = 0
def Bst (σ : St) : Prop := σ.fresh = false ∧ (∀ i, σ.pos < i → i < σ.spots.length → (spot σ i).black = false) ∧ (spot σ 0).black = false

theorem lo_step {σ : St} (hp : σ.pos < σ.spots.length) (h0 : 0 < σ.pos) : (stepDown σ).sum + lo (stepDown σ) = σ.sum + lo σ := by
  have hc : counts (stepDown σ) = counts σ := map_keep (·.count) rfl
  unfold lo
  rw [hc, take_one (σ := σ) hp]
  have : (stepDown σ).pos + 1 = σ.pos := by show σ.pos - 1 + 1 = σ.pos; omega
  rw [this]
  show σ.sum + (spot σ σ.pos).count + _ = _
  omega

theorem c_within : ∀ (k : Nat) {σ : St}, Still σ → σ.pos < σ.spots.length → Cst σ → σ.pos + 1 ≤ k → Within k σ
  | 0, σ, _, _, _, hk => by omega
  | k + 1, σ, h, hp, ⟨c1, c2, c3, c4⟩, hk => by
    by_cases ht : σ.told = true
    · exact .inl ht
    right
    have ht' : σ.told = false := by simpa using ht
    have hst := still_pass h hp ht'
    rcases pass_cases h hp ht' with ⟨h0, e⟩ | ⟨h0, e⟩ | ⟨h0, hn, e⟩
    · rw [e] at hst ⊢
      refine c_within k hst.1 hst.2.2.2 ⟨c1, ?_, fun i hi => ?_, ?_⟩ (by show σ.pos - 1 + 1 ≤ k; omega)
      · show (σ.dark || (spot σ σ.pos).black) = false
        rw [c2, c3 _ (Nat.le_refl _)]; rfl
      · have hi' : i ≤ σ.pos - 1 := hi
        show (spot (stepDown σ) i).black = false
        rw [spot_set (σ := σ) (τ := stepDown σ) (i := σ.pos) rfl hp, if_neg (by omega)]
        exact c3 i (by omega)
      · show (stepDown σ).sum + lo (stepDown σ) = 0
        rw [lo_step hp h0]; exact c4
    · rw [e]; exact within_told rfl k
    · exfalso
      refine hn ⟨c1, c2, c3 0 (by omega), ?_⟩
      have : lo σ = (spot σ 0).count := by unfold lo; rw [h0, take_one (σ := σ) (by omega)]; simp
      omega

theorem lo_new {σ : St} (he : Even σ) (hf : σ.fly = []) (hp : σ.pos < σ.spots.length) : (newRound σ).sum + lo (newRound σ) = 0 := by
  have hc : counts (newRound σ) = counts σ := map_keep (·.count) rfl
  have h3 : (newRound σ).pos = σ.spots.length - 1 := rfl
  unfold lo
  rw [hc, h3, List.take_of_length_le (by simp [counts]; omega)]
  unfold Even at he
  rw [he, hf]; rfl

theorem even_pass {σ : St} (h : Still σ) (hp : σ.pos < σ.spots.length) (ht : σ.told = false) (he : Even σ) : Even (pass σ).2.2 := by
  rcases pass_cases h hp ht with ⟨h0, e⟩ | ⟨h0, e⟩ | ⟨h0, _, e⟩ <;> rw [e]
  · exact even_set he (i := σ.pos) hp rfl 0 (by simp) (by simp [stepDown])
  · exact he
  · exact even_set he (i := 0) (by omega) rfl 0 (by simp) (by simp [newRound])

theorem b_within : ∀ (k : Nat) {σ : St}, Still σ → σ.pos < σ.spots.length → Even σ → Bst σ → σ.pos + 1 + σ.spots.length ≤ k → Within k σ
  | 0, σ, _, _, _, _, hk => by omega
  | k + 1, σ, h, hp, he, ⟨c1, c2, c3⟩, hk => by
    by_cases ht : σ.told = true
    · exact .inl ht
    right
    have ht' : σ.told = false := by simpa using ht
    have hst := still_pass h hp ht'
    have he' := even_pass h hp ht' he
    rcases pass_cases h hp ht' with ⟨h0, e⟩ | ⟨h0, e⟩ | ⟨h0, hn, e⟩
    · rw [e] at hst he' ⊢
      refine b_within k hst.1 hst.2.2.2 he' ⟨c1, fun i hi hil => ?_, ?_⟩ (by have := hst.2.2.1; dsimp only at this ⊢; rw [this]; show σ.pos - 1 + 1 + _ ≤ k; omega)
      · have hi' : σ.pos - 1 < i := hi
        have hl : (stepDown σ).spots.length = σ.spots.length := by simp [stepDown]
        have hil' : i < (stepDown σ).spots.length := hil
        show (spot (stepDown σ) i).black = false
        rw [spot_set (σ := σ) (τ := stepDown σ) (i := σ.pos) rfl hp]
        split
        · rfl
        · exact c2 i (by omega) (by omega)
      · show (spot (stepDown σ) 0).black = false
        rw [spot_set (σ := σ) (τ := stepDown σ) (i := σ.pos) rfl hp, if_neg (by omega)]
        exact c3
    · rw [e]; exact within_told rfl k
    · rw [e] at hst ⊢
      refine c_within k hst.1 hst.2.2.2 ⟨rfl, rfl, fun i hi => ?_, ?_⟩ (by show σ.spots.length - 1 + 1 ≤ k; omega)
      · have hi' : i ≤ σ.spots.length - 1 := hi
        show (spot (newRound σ) i).black = false
        rw [spot_set (σ := σ) (τ := newRound σ) (i := 0) rfl (by omega)]
        split
        · rfl
        · exact c2 i (by omega) (by omega)
      · exact lo_new he h.2 hp

theorem a_within : ∀ (k : Nat) {σ : St}, Still σ → σ.pos < σ.spots.length → Even σ → σ.pos + 1 + 2 * σ.spots.length ≤ k → Within k σ
  | 0, σ, _, _, _, hk => by omega
  | k + 1, σ, h, hp, he, hk => by
    by_cases ht : σ.told = true
    · exact .inl ht
    right
    have ht' : σ.told = false := by simpa using ht
    have hst := still_pass h hp ht'
    have he' := even_pass h hp ht' he
    rcases pass_cases h hp ht' with ⟨h0, e⟩ | ⟨h0, e⟩ | ⟨h0, hn, e⟩
    · rw [e] at hst he' ⊢
      exact a_within k hst.1 hst.2.2.2 he' (by have := hst.2.2.1; dsimp only at this ⊢; rw [this]; show σ.pos - 1 + 1 + _ ≤ k; omega)
    · rw [e]; exact within_told rfl k
    · rw [e] at hst he' ⊢
      refine b_within k hst.1 hst.2.2.2 he' ⟨rfl, fun i hi hil => ?_, ?_⟩ (by have := hst.2.2.1; dsimp only at this ⊢; rw [this]; show σ.spots.length - 1 + 1 + _ ≤ k; omega)
      · have hi' : σ.spots.length - 1 < i := hi
        have hl : (newRound σ).spots.length = σ.spots.length := by simp [newRound]
        have hil' : i < (newRound σ).spots.length := hil
        omega
      · show (spot (newRound σ) 0).black = false
        rw [spot_set (σ := σ) (τ := newRound σ) (i := 0) rfl (by omega), if_pos rfl]

theorem drain_len {σ : St} (h : 0 < σ.fly.length) : (act σ 1 0 0).fly.length = σ.fly.length - 1 := by
  rw [act_recvS]
  have e : recv σ 0 = (0, recvS σ 0) := if_neg (by omega)
  rw [e]; simp [recvS]
theorem idle_keep (σ : St) (k : Nat) : (act σ 2 k 0).fly = σ.fly := by
  rw [act_idleS]; unfold idle; split
  · rfl
  · split <;> rfl
theorem idle_more {σ : St} {k : Nat} (hk : k < σ.spots.length) (h : ∀ i, i < k → (spot σ i).active = false) : ∀ i, i < k + 1 → (spot (act σ 2 k 0) i).active = false := by
  intro i hi
  rw [act_idleS]
  have hp : isP σ (k : Int) := by unfold isP; omega
  by_cases ha : (spot σ ((k : Int)).toNat).active = false
  · have e : idle σ k = (170, σ) := by unfold idle; rw [if_neg (by simpa using hp), if_pos ha]
    rw [e]
    by_cases hik : i = k
    · subst hik; simpa using ha
    · exact h i (by omega)
  · have e : idle σ k = (0, idleS σ k) := by unfold idle; rw [if_neg (by simpa using hp), if_neg ha]
    rw [e]
    show (spot (idleS σ k) i).active = false
    rw [spot_set (σ := σ) (τ := idleS σ k) (i := k) (s' := { spot σ k with active := false }) (by simp [idleS]) hk]
    split
    · rfl
    · exact h i (by omega)
end Qt
