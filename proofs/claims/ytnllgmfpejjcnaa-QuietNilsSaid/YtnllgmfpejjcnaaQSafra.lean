/-
  A part of the proof of the claim that this folder bears.
  This text: QSafra.
-/
import Derived.Test.YtnllgmfpejjcnaaQSumP
set_option linter.unusedVariables false
set_option linter.unusedSimpArgs false
namespace Qt

/-- The counts of the places that the token has still to come to. -/
def lo (σ : St) : Int := ((counts σ).take (σ.pos + 1)).sum
def Still (σ : St) : Prop := (∀ i, i < σ.spots.length → (spot σ i).active = false) ∧ σ.fly = []
/-- Safra's. -/
def Saf (σ : St) : Prop :=
  ((∀ i, σ.pos < i → i < σ.spots.length → (spot σ i).active = false) ∧ σ.sum + lo σ = σ.fly.length) ∨ 0 < σ.sum + lo σ ∨ (∃ i, i ≤ σ.pos ∧ (spot σ i).black = true) ∨ σ.dark = true
def Inv (σ : St) : Prop := Even σ ∧ ((σ.told = true → Still σ) ∧ (σ.told = false → σ.fresh = true ∨ Saf σ))

theorem take_set_sum {l : List Int} {i k : Nat} {v : Int} (hi : i < l.length) : ((l.set i v).take k).sum = (l.take k).sum + (if i < k then v - l.getD i 0 else 0) := by
  rw [List.take_set]
  split
  · rename_i h
    rw [sum_set (by rw [List.length_take]; omega)]
    have : (l.take k).getD i 0 = l.getD i 0 := by simp [List.getD_eq_getElem?_getD, List.getElem?_take, h]
    rw [this]; omega
  · rename_i h
    rw [List.set_eq_of_length_le (by rw [List.length_take]; omega)]
    omega
theorem take_one {σ : St} {k : Nat} (h : k < σ.spots.length) : ((counts σ).take (k + 1)).sum = ((counts σ).take k).sum + (spot σ k).count := by
  rw [counts_get h, List.sum_append]; simp

theorem spot_set {σ τ : St} {i j : Nat} {s' : Spot} (hs : τ.spots = σ.spots.set i s') (hi : i < σ.spots.length) : spot τ j = if i = j then s' else spot σ j := by
  unfold spot
  rw [hs]
  split
  · rename_i h; subst h; simp [List.getD_eq_getElem?_getD, List.getElem?_set_self hi]
  · rename_i h; simp [List.getD_eq_getElem?_getD, List.getElem?_set_ne h]
theorem lo_set {σ τ : St} {i : Nat} {s' : Spot} (hs : τ.spots = σ.spots.set i s') (hi : i < σ.spots.length) (hp : τ.pos = σ.pos) : lo τ = lo σ + (if i < σ.pos + 1 then s'.count - (spot σ i).count else 0) := by
  unfold lo
  have e : counts τ = (counts σ).set i s'.count := by unfold counts; rw [hs, List.map_set]
  rw [e, hp, take_set_sum (by simpa [counts] using hi), counts_getD hi]

theorem still_act {σ : St} (h : Still σ) (ht : σ.told = true) (x y z : Int) : act σ x y z = σ := by
  obtain ⟨h1, h2⟩ := h
  have hs : ∀ p : Int, isP σ p → (spot σ p.toNat).active = false := fun p hp => h1 _ (by unfold isP at hp; omega)
  unfold act
  split
  · unfold send
    split
    · rfl
    · rename_i hp
      rw [if_pos (hs y (Decidable.not_not.1 fun hh => hp (.inl hh)))]
  · split
    · unfold recv
      rw [if_pos (by simp [h2]; omega)]
    · split
      · unfold idle
        split
        · rfl
        · rename_i hp
          rw [if_pos (hs y (Decidable.not_not.1 hp))]
      · unfold pass; rw [if_pos ht]

theorem inv_send {σ : St} {y z : Int} (h : Inv σ) (he : Even (send σ y z).2) : Inv (send σ y z).2 := by
  by_cases hp : ¬ isP σ y ∨ ¬ isP σ z
  · have e : send σ y z = (2, σ) := if_pos hp
    rw [e]; exact h
  by_cases ha : (spot σ y.toNat).active = false
  · have e : send σ y z = (170, σ) := by unfold send; rw [if_neg hp, if_pos ha]
    rw [e]; exact h
  have e : send σ y z = (0, sendS σ y z) := by unfold send; rw [if_neg hp, if_neg ha]
  rw [e] at he ⊢; dsimp only at he ⊢
  have hy : isP σ y := Decidable.not_not.1 fun hh => hp (.inl hh)
  unfold isP at hy
  have hl : y.toNat < σ.spots.length := by omega
  obtain ⟨h0, h1, h2⟩ := h
  refine ⟨he, fun ht => absurd ((h1 ht).1 _ hl) ha, fun ht => ?_⟩
  rcases h2 ht with h2 | h2
  · exact .inl h2
  right
  have hlo := lo_set (σ := σ) (τ := sendS σ y z) (i := y.toNat) rfl hl rfl
  have hsp := fun j => spot_set (σ := σ) (τ := sendS σ y z) (i := y.toNat) (j := j) rfl hl
  have hn : (sendS σ y z).spots.length = σ.spots.length := by simp [sendS]
  have hf : (sendS σ y z).fly.length = σ.fly.length + 1 := by simp [sendS]
  have hsum : (sendS σ y z).sum = σ.sum := rfl
  have hpos : (sendS σ y z).pos = σ.pos := rfl
  rcases h2 with ⟨g1, g2⟩ | g | ⟨i, g1, g2⟩ | g
  · have : y.toNat < σ.pos + 1 := by
      by_cases hc : σ.pos < y.toNat
      · exact absurd (g1 _ hc hl) ha
      · omega
    rw [if_pos this] at hlo
    refine .inl ⟨fun i hi hil => ?_, ?_⟩
    · rw [hsp i]
      split
      · rename_i hh; omega
      · exact g1 i hi (by omega)
    · rw [hsum, hlo, hf]; simp; omega
  · refine .inr (.inl ?_)
    rw [hsum, hlo]; split <;> simp <;> omega
  · refine .inr (.inr (.inl ⟨i, g1, ?_⟩))
    rw [hsp i]; split
    · rename_i hh; subst hh; exact g2
    · exact g2
  · exact .inr (.inr (.inr g))

theorem inv_recv {σ : St} {y : Int} {N : Nat} (hw : Wf σ N) (h : Inv σ) (he : Even (recv σ y).2) : Inv (recv σ y).2 := by
  by_cases hk : y < 0 ∨ (σ.fly.length : Int) ≤ y
  · have e : recv σ y = (2, σ) := if_pos hk
    rw [e]; exact h
  have e : recv σ y = (0, recvS σ y) := if_neg hk
  rw [e] at he ⊢; dsimp only at he ⊢
  have hlt : y.toNat < σ.fly.length := by omega
  have hd := hw.fly _ (List.mem_of_getElem? (fly_get hlt))
  have hl : (dest σ y).toNat < σ.spots.length := by unfold dest; omega
  obtain ⟨h0, h1, h2⟩ := h
  refine ⟨he, fun ht => ?_, fun ht => ?_⟩
  · have := (h1 ht).2; rw [this] at hlt; simp at hlt
  rcases h2 ht with h2 | h2
  · exact .inl h2
  right
  have hlo := lo_set (σ := σ) (τ := recvS σ y) (i := (dest σ y).toNat) rfl hl rfl
  have hsp := fun j => spot_set (σ := σ) (τ := recvS σ y) (i := (dest σ y).toNat) (j := j) rfl hl
  have hsum : (recvS σ y).sum = σ.sum := rfl
  by_cases hc : (dest σ y).toNat ≤ σ.pos
  · refine .inr (.inr (.inl ⟨_, hc, ?_⟩))
    rw [hsp, if_pos rfl]
  · rw [if_neg (by omega)] at hlo
    rcases h2 with ⟨g1, g2⟩ | g | ⟨i, g1, g2⟩ | g
    · refine .inr (.inl ?_)
      rw [hsum, hlo]; omega
    · refine .inr (.inl ?_)
      rw [hsum, hlo]; omega
    · refine .inr (.inr (.inl ⟨i, g1, ?_⟩))
      rw [hsp, if_neg (by omega)]; exact g2
    · exact .inr (.inr (.inr g))

theorem inv_idle {σ : St} {y : Int} (h : Inv σ) (he : Even (idle σ y).2) : Inv (idle σ y).2 := by
  by_cases hp : ¬ isP σ y
  · have e : idle σ y = (2, σ) := if_pos hp
    rw [e]; exact h
  by_cases ha : (spot σ y.toNat).active = false
  · have e : idle σ y = (170, σ) := by unfold idle; rw [if_neg hp, if_pos ha]
    rw [e]; exact h
  have e : idle σ y = (0, idleS σ y) := by unfold idle; rw [if_neg hp, if_neg ha]
  rw [e] at he ⊢; dsimp only at he ⊢
  have hy : isP σ y := Decidable.not_not.1 hp
  unfold isP at hy
  have hl : y.toNat < σ.spots.length := by omega
  obtain ⟨h0, h1, h2⟩ := h
  refine ⟨he, fun ht => absurd ((h1 ht).1 _ hl) ha, fun ht => ?_⟩
  rcases h2 ht with h2 | h2
  · exact .inl h2
  right
  have hlo := lo_set (σ := σ) (τ := idleS σ y) (i := y.toNat) rfl hl rfl
  have hlo' : lo (idleS σ y) = lo σ := by rw [hlo]; split <;> simp
  have hsp := fun j => spot_set (σ := σ) (τ := idleS σ y) (i := y.toNat) (j := j) rfl hl
  have hn : (idleS σ y).spots.length = σ.spots.length := by simp [idleS]
  rcases h2 with ⟨g1, g2⟩ | g | ⟨i, g1, g2⟩ | g
  · refine .inl ⟨fun i hi hil => ?_, ?_⟩
    · rw [hsp i]; split
      · rfl
      · exact g1 i hi (by omega)
    · rw [hlo']; exact g2
  · refine .inr (.inl ?_)
    rw [hlo']; exact g
  · refine .inr (.inr (.inl ⟨i, g1, ?_⟩))
    rw [hsp i]; split
    · rename_i hh; subst hh; exact g2
    · exact g2
  · exact .inr (.inr (.inr g))

theorem inv_pass {σ : St} {N : Nat} (hw : Wf σ N) (h : Inv σ) (he : Even (pass σ).2.2) : Inv (pass σ).2.2 := by
  have hpos := hw.pos
  by_cases ht : σ.told = true
  · have e : pass σ = (true, 0, σ) := if_pos ht
    rw [e]; exact h
  by_cases ha : (spot σ σ.pos).active = true
  · have e : pass σ = (false, 171, σ) := by unfold pass; rw [if_neg ht, if_pos ha]
    rw [e]; exact h
  have ha' : (spot σ σ.pos).active = false := by simpa using ha
  have ht' : σ.told = false := by simpa using ht
  obtain ⟨h0, h1, h2⟩ := h
  by_cases hp : 0 < σ.pos
  · have e : pass σ = (false, 0, stepDown σ) := by unfold pass; rw [if_neg ht, if_neg ha, if_pos hp]
    rw [e] at he ⊢; dsimp only at he ⊢
    refine ⟨he, fun h' => absurd (show σ.told = true from h') ht, fun _ => ?_⟩
    rcases h2 ht' with h2 | h2
    · exact .inl h2
    right
    have hsp := fun j => spot_set (σ := σ) (τ := stepDown σ) (i := σ.pos) (j := j) rfl hpos
    have hc : counts (stepDown σ) = counts σ := by
      unfold counts
      exact map_keep (·.count) rfl
    have hlo : (stepDown σ).sum + lo (stepDown σ) = σ.sum + lo σ := by
      unfold lo
      rw [hc, take_one (σ := σ) hpos]
      have : (stepDown σ).pos + 1 = σ.pos := by show σ.pos - 1 + 1 = σ.pos; omega
      rw [this]
      show σ.sum + (spot σ σ.pos).count + _ = _
      omega
    have hp' : (stepDown σ).pos = σ.pos - 1 := rfl
    have hn : (stepDown σ).spots.length = σ.spots.length := by simp [stepDown]
    have hd : (stepDown σ).dark = (σ.dark || (spot σ σ.pos).black) := rfl
    unfold Saf
    rw [hlo, hd, hp', hn]
    rcases h2 with ⟨g1, g2⟩ | g | ⟨i, g1, g2⟩ | g
    · refine .inl ⟨fun i hi hil => ?_, g2⟩
      rw [hsp i]; split
      · exact ha'
      · exact g1 i (by omega) hil
    · exact .inr (.inl g)
    · by_cases hi : i = σ.pos
      · subst hi; exact .inr (.inr (.inr (by simp [g2])))
      · refine .inr (.inr (.inl ⟨i, by omega, ?_⟩))
        rw [hsp i, if_neg (by omega)]; exact g2
    · exact .inr (.inr (.inr (by simp [g])))
  · by_cases hc : σ.fresh = false ∧ σ.dark = false ∧ (spot σ 0).black = false ∧ σ.sum + (spot σ 0).count = 0
    · have e : pass σ = (true, 0, tellS σ) := by unfold pass; rw [if_neg ht, if_neg ha, if_neg hp, if_pos hc]
      rw [e] at he ⊢; dsimp only at he ⊢
      obtain ⟨c1, c2, c3, c4⟩ := hc
      have hp0 : σ.pos = 0 := by omega
      have hlo : lo σ = (spot σ 0).count := by
        unfold lo
        rw [hp0, take_one (σ := σ) (by omega)]; simp
      refine ⟨he, fun _ => ?_, fun h' => by cases h'⟩
      rcases h2 ht' with h2 | h2
      · rw [c1] at h2; cases h2
      rcases h2 with ⟨g1, g2⟩ | g | ⟨i, g1, g2⟩ | g
      · refine ⟨fun i hi => ?_, ?_⟩
        · show (spot σ i).active = false
          by_cases hi0 : i = 0
          · subst hi0; rw [hp0] at ha'; exact ha'
          · exact g1 i (by omega) hi
        · show σ.fly = []
          rw [hlo] at g2
          exact List.eq_nil_of_length_eq_zero (by omega)
      · rw [hlo] at g; omega
      · have : i = 0 := by omega
        subst this; rw [c3] at g2; cases g2
      · rw [c2] at g; cases g
    · have e : pass σ = (false, 0, newRound σ) := by unfold pass; rw [if_neg ht, if_neg ha, if_neg hp, if_neg hc]
      rw [e] at he ⊢; dsimp only at he ⊢
      refine ⟨he, fun h' => absurd (show σ.told = true from h') ht, fun _ => .inr (.inl ⟨fun i hi hil => ?_, ?_⟩)⟩
      · have hn : (newRound σ).spots.length = σ.spots.length := by simp [newRound]
        have : (newRound σ).pos = σ.spots.length - 1 := rfl
        omega
      · have hn : (newRound σ).spots.length = σ.spots.length := by simp [newRound]
        have h3 : (newRound σ).pos = σ.spots.length - 1 := rfl
        unfold lo
        rw [h3, List.take_of_length_le (by simp [counts, newRound]; omega)]
        show 0 + _ = _
        unfold Even at he
        omega

theorem inv_act {σ : St} {N : Nat} (hw : Wf σ N) (h : Inv σ) (x y z : Int) : Inv (act σ x y z) := by
  have he := even_act hw h.1 x y z
  unfold act at *
  split
  · rename_i h1; rw [if_pos h1] at he; exact inv_send h he
  · rename_i h1
    rw [if_neg h1] at he
    split
    · rename_i h2; rw [if_pos h2] at he; exact inv_recv hw h he
    · rename_i h2
      rw [if_neg h2] at he
      split
      · rename_i h3; rw [if_pos h3] at he; exact inv_idle h he
      · rename_i h3; rw [if_neg h3] at he; exact inv_pass hw h he
theorem inv_init (n : Nat) : Inv (init n) := ⟨even_init n, (fun h => by cases h), fun _ => .inl rfl⟩
theorem inv_acts {σ : St} : ∀ (l : List (Int × Int × Int)) {N : Nat}, Wf σ N → N + l.length ≤ 10000 → Inv σ → Inv (acts σ l)
  | [], _, _, _, h => h
  | a :: l, N, hw, hl, h => by
    simp only [List.length_cons] at hl
    exact inv_acts l (wf_act hw (by omega) a.1 a.2.1 a.2.2) (by omega) (inv_act hw h _ _ _)
theorem told_keep {σ : St} (h : Inv σ) (ht : σ.told = true) (x y z : Int) : (act σ x y z).told = true := by rw [still_act (h.2.1 ht) ht]; exact ht

theorem still_act0 {σ : St} (h : Still σ) : actList σ = [] := by
  unfold actList actPre
  have : (List.range σ.spots.length).filter (fun i => (spot σ i).active) = [] := by
    rw [List.filter_eq_nil_iff]
    intro i hi
    rw [h.1 i (by simpa using hi)]; simp
  rw [this]; rfl
theorem still_over {σ : St} (h : Still σ) : over σ = true := by
  unfold over; rw [still_act0 h, h.2]; rfl
end Qt
