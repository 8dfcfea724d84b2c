/-
  A part of the proof of the claim that this folder bears.
  This text: QSumP.
-/
import Derived.Test.YtnllgmfpejjcnaaQWf
set_option linter.unusedVariables false
set_option linter.unusedSimpArgs false
namespace Qt

theorem sum_set : ∀ {l : List Int} {i : Nat} {v : Int}, i < l.length → (l.set i v).sum = l.sum - l.getD i 0 + v
  | x :: l, 0, v, _ => by simp; omega
  | x :: l, i + 1, v, h => by
    have := sum_set (l := l) (i := i) (v := v) (by simpa using h)
    simp only [List.set_cons_succ, List.sum_cons, this, List.getD_cons_succ]
    omega
theorem counts_getD {σ : St} {i : Nat} (h : i < σ.spots.length) : (counts σ).getD i 0 = (spot σ i).count := by
  have := spot_get h
  simp [counts, List.getD_eq_getElem?_getD, this]

def Even (σ : St) : Prop := (counts σ).sum = (σ.fly.length : Int)

theorem even_init (n : Nat) : Even (init n) := by
  unfold Even counts init
  have : ∀ m : Nat, (List.replicate m (0 : Int)).sum = 0 := fun m => by
    induction m with
    | zero => rfl
    | succ m ih => simp [List.replicate_succ, ih]
  have e : ((List.replicate n (⟨false, false, 0⟩ : Spot)).set 0 ⟨true, false, 0⟩).map (·.count) = List.replicate n 0 := by
    rw [List.map_set]
    simp only [List.map_replicate]
    cases n with
    | zero => rfl
    | succ m => rfl
  rw [e, this]; rfl

theorem even_set {σ τ : St} {i : Nat} {s' : Spot} (h : Even σ) (hi : i < σ.spots.length) (hs : τ.spots = σ.spots.set i s') (d : Int) (hd : s'.count = (spot σ i).count + d) (hf : (τ.fly.length : Int) = σ.fly.length + d) : Even τ := by
  unfold Even at *
  have e : counts τ = (counts σ).set i s'.count := by unfold counts; rw [hs, List.map_set]
  rw [e, sum_set (by simpa [counts] using hi), counts_getD hi, h, hd, hf]
  omega

theorem even_act {σ : St} {N : Nat} (hw : Wf σ N) (h : Even σ) (x y z : Int) : Even (act σ x y z) := by
  obtain ⟨w1, w2, w3, w4, w5, w55, w6, w7⟩ := hw
  unfold act
  split
  · unfold send
    split
    · exact h
    · rename_i hp
      split
      · exact h
      · unfold isP at hp
        exact even_set h (i := y.toNat) (by omega) rfl 1 rfl (by simp [sendS])
  · split
    · unfold recv
      split
      · exact h
      · rename_i hk
        have hlt : y.toNat < σ.fly.length := by omega
        have hd := w3 _ (List.mem_of_getElem? (fly_get hlt))
        refine even_set h (i := (dest σ y).toNat) (by unfold dest; omega) rfl (-1) (by simp; omega) ?_
        simp [recvS]
        omega
    · split
      · unfold idle
        split
        · exact h
        · rename_i hp
          split
          · exact h
          · unfold isP at hp
            exact even_set h (i := y.toNat) (by omega) rfl 0 (by simp) (by simp [idleS])
      · unfold pass
        split
        · exact h
        · split
          · exact h
          · split
            · exact even_set h (i := σ.pos) w1 rfl 0 (by simp) (by simp [stepDown])
            · split
              · exact h
              · exact even_set h (i := 0) (by omega) rfl 0 (by simp) (by simp [newRound])

theorem even_acts {σ : St} : ∀ (l : List (Int × Int × Int)) {N : Nat}, Wf σ N → N + l.length ≤ 10000 → Even σ → Even (acts σ l)
  | [], _, _, _, h => h
  | a :: l, N, hw, hl, h => by
    simp only [List.length_cons] at hl
    exact even_acts l (wf_act hw (by omega) a.1 a.2.1 a.2.2) (by omega) (even_act hw h _ _ _)

theorem take_sum {l : List Int} {B : Int} (hB : 0 ≤ B) (h : ∀ x ∈ l, -B ≤ x ∧ x ≤ B) : ∀ j : Nat, -(B * l.length) ≤ (l.take j).sum ∧ (l.take j).sum ≤ B * l.length := by
  induction l with
  | nil => intro j; simp
  | cons x l ih =>
    intro j
    have hx := h x (by simp)
    have ih := ih (fun y hy => h y (by simp [hy]))
    have e : B * ((x :: l).length : Int) = B * l.length + B := by simp [Int.mul_add]
    rw [e]
    have hz : 0 ≤ B * (l.length : Int) := Int.mul_nonneg hB (by omega)
    cases j with
    | zero => simp; omega
    | succ j => have := ih j; simp only [List.take_succ_cons, List.sum_cons]; omega
theorem counts_take {σ : St} {N : Nat} (hw : Wf σ N) (hN : N ≤ 10000) (j : Nat) : -80000 ≤ ((counts σ).take j).sum ∧ ((counts σ).take j).sum ≤ 80000 := by
  have h := take_sum (l := counts σ) (B := (N : Int)) (by omega) (fun x hx => by
    simp only [counts, List.mem_map] at hx
    obtain ⟨s, hs, rfl⟩ := hx
    exact hw.cnt s hs) j
  have hl : ((counts σ).length : Int) ≤ 8 := by have := hw.le; simp [counts]; omega
  have : (N : Int) * ((counts σ).length : Int) ≤ 10000 * 8 := Int.mul_le_mul (by omega) hl (by omega) (by omega)
  omega
end Qt
