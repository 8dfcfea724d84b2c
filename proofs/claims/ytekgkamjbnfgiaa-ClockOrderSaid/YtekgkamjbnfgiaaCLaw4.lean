/-
  A part of the proof of the claim that this folder bears.
  This text: CLaw4.
-/
import Derived.Test.YtekgkamjbnfgiaaCLaw3
set_option linter.unusedVariables false
set_option linter.unusedSimpArgs false
namespace Ck
/-! A trace's beginning. -/
theorem ev_take {l : List Evt} {n i : Nat} (h : i < n) : ev (l.take n) i = ev l i := by
  unfold ev; simp only [List.getD_eq_getElem?_getD]; rw [List.getElem?_take_of_lt h]
theorem tk_take {l : List Evt} {n i : Nat} (h : i < n) : tk (l.take n) i = tk l i := by unfold tk; rw [ev_take h]
theorem okB_take {l : List Evt} {n : Nat} : ∀ {m : Nat}, m ≤ n → okB (l.take n) m = okB l m
  | 0, _ => rfl
  | m + 1, h => by
    simp only [okB]
    rw [okB_take (by omega), List.getElem?_take_of_lt (by omega), List.take_take, show min m n = m by omega]
theorem okB_mono {l : List Evt} : ∀ {m n : Nat}, m ≤ n → okB l n = true → okB l m = true
  | m, 0, h, h2 => by have : m = 0 := by omega
                      subst this; exact h2
  | m, n + 1, h, h2 => by
    by_cases e : m = n + 1
    · subst e; exact h2
    · simp only [okB, Bool.and_eq_true] at h2
      exact okB_mono (by omega) h2.1
theorem right_take {l : List Evt} {n : Nat} (hn : n ≤ l.length) (h : rightB l = true) : rightB (l.take n) = true := by
  unfold rightB at *
  simp only [Bool.and_eq_true, decide_eq_true_eq] at h ⊢
  have hl : (l.take n).length = n := by simp; omega
  refine ⟨by omega, ?_⟩
  rw [hl, okB_take (Nat.le_refl _)]
  exact okB_mono hn h.2
theorem first_take {l : List Evt} {n i : Nat} {c : Str} (hn : n ≤ l.length) (hi : i < n) : firstGive (l.take n) c = i ↔ firstGive l c = i := by
  have hl : (l.take n).length = n := by simp; omega
  have key : ∀ j, j ≤ n → ((j ≤ firstGive (l.take n) c) ↔ j ≤ firstGive l c) := fun j hj => by
    rw [← first_lt (xs := l.take n) (by omega), ← first_lt (xs := l) (by omega), List.take_take, show min j n = j by omega]
  have h1 := key i (by omega)
  have h2 := key (i + 1) (by omega)
  constructor
  · intro h; omega
  · intro h; omega
theorem step_take {l : List Evt} {n i k : Nat} (hn : n ≤ l.length) (hi : i < n) (hk : k < n) : stepB (l.take n) (ev (l.take n) i) (ev (l.take n) k) i = stepB l (ev l i) (ev l k) i := by
  rw [ev_take hi, ev_take hk]
  unfold stepB
  rw [decide_eq_decide.2 (first_take (c := (ev l k).cell) hn hi)]
theorem bef_take {l : List Evt} {n i k : Nat} (hn : n ≤ l.length) (hk : k < n) : Bef (l.take n) i k ↔ Bef l i k := by
  have hl : (l.take n).length = n := by simp; omega
  constructor
  · intro h
    induction h with
    | one h => exact .one ⟨h.1, by omega, by rw [← step_take hn (by have := h.1; omega) hk]; exact h.2.2⟩
    | @more j k h h2 ih =>
      have := h2.1
      exact .more (ih (by omega)) ⟨h2.1, by omega, by rw [← step_take hn (by omega) hk]; exact h2.2.2⟩
  · intro h
    induction h with
    | one h => exact .one ⟨h.1, by omega, by rw [step_take hn (by have := h.1; omega) hk]; exact h.2.2⟩
    | @more j k h h2 ih =>
      have := h2.1
      exact .more (ih (by omega)) ⟨h2.1, by omega, by rw [step_take hn (by omega) hk]; exact h2.2.2⟩
theorem befV_take {l : List Evt} (h : rightB l = true) {n i k : Nat} (hn : n ≤ l.length) (hi : i < n) (hk : k < n) : befV (l.take n) i k = befV l i k := by
  have hl : (l.take n).length = n := by simp; omega
  rw [Bool.eq_iff_iff, befV_iff (right_fine (right_take hn h)) (by omega) (by omega), befV_iff (right_fine h) (by omega) (by omega), bef_take hn hk]
theorem race_take {l : List Evt} (h : rightB l = true) {n i k : Nat} (hn : n ≤ l.length) (hi : i < n) (hk : k < n) : raceV (l.take n) i k = raceV l i k := by
  unfold raceV; rw [befV_take h hn hi hk, befV_take h hn hk hi, ev_take hi, ev_take hk]
def early (n : Int) (p : Int × Int) : Bool := decide (p.2 < n)
theorem rowR_early {l : List Evt} {n i m : Nat} (hn : n ≤ m) : (rowR l i m).filter (early n) = rowR l i n := by
  induction m with
  | zero => have : n = 0 := by omega
            subst this; rfl
  | succ m ih =>
    by_cases e : n = m + 1
    · subst e
      unfold rowR
      rw [List.filter_eq_self.2]
      intro p hp
      simp only [List.mem_map, List.mem_filter, List.mem_range] at hp
      obtain ⟨k, ⟨hk, _⟩, rfl⟩ := hp
      simp [early]; omega
    · by_cases him : i < m
      · rw [rowR_next him, List.filter_append, ih (by omega)]
        split
        · have : ([((i : Int), (m : Int))]).filter (early n) = [] := by simp [early]; omega
          rw [this]; simp
        · simp
      · have h1 : rowR l i (m + 1) = [] := by
          unfold rowR
          rw [List.map_eq_nil_iff, List.filter_eq_nil_iff]
          intro k hk; simp only [List.mem_range] at hk; simp; omega
        have h2 : rowR l i n = [] := by
          unfold rowR
          rw [List.map_eq_nil_iff, List.filter_eq_nil_iff]
          intro k hk; simp only [List.mem_range] at hk; simp; omega
        rw [h1, h2]; rfl
theorem rowR_take {l : List Evt} (h : rightB l = true) {n i : Nat} (hn : n ≤ l.length) : rowR (l.take n) i n = rowR l i n := by
  unfold rowR
  congr 1
  apply List.filter_congr
  intro k hk
  simp only [List.mem_range] at hk
  by_cases e : i < k
  · rw [race_take h hn (by omega) hk]
  · simp [e]
theorem all_early {l : List Evt} {n : Nat} (hn : n ≤ l.length) : ∀ i, (allR l i).filter (early n) = (List.range i).flatMap (fun j => rowR l j n)
  | 0 => rfl
  | i + 1 => by
    rw [allR_next, List.filter_append, all_early hn i, rowR_early hn, List.range_succ, List.flatMap_append]; simp
theorem row_none' {l : List Evt} {i n : Nat} (h : n ≤ i) : rowR l i n = [] := by
  unfold rowR
  rw [List.map_eq_nil_iff, List.filter_eq_nil_iff]
  intro k hk; simp only [List.mem_range] at hk; simp; omega
theorem flat_tail {l : List Evt} {n : Nat} : ∀ {m : Nat}, n ≤ m → (List.range m).flatMap (fun j => rowR l j n) = (List.range n).flatMap (fun j => rowR l j n)
  | 0, h => by have : n = 0 := by omega
               subst this; rfl
  | m + 1, h => by
    by_cases e : n = m + 1
    · subst e; rfl
    · rw [List.range_succ, List.flatMap_append, flat_tail (by omega)]
      simp [row_none' (l := l) (i := m) (n := n) (by omega)]
theorem races_take {l : List Evt} (h : rightB l = true) {n : Nat} (hn : n ≤ l.length) (hlt : (racesV l).length < 1000) : racesV (l.take n) = (racesV l).filter (early n) := by
  have hl : (l.take n).length = n := by simp; omega
  have h1 : racesV l = allR l l.length := by
    unfold racesV at hlt ⊢
    rw [List.length_take] at hlt
    exact List.take_of_length_le (by omega)
  have h2 : allR (l.take n) n = (allR l l.length).filter (early n) := by
    rw [all_early hn, flat_tail hn]
    unfold allR
    rw [hl, List.flatMap_def, List.flatMap_def]
    congr 1
    apply List.map_congr_left
    intro j _
    exact rowR_take h hn
  have h3 : (allR (l.take n) n).length < 1000 := by
    rw [h2, ← h1]
    exact Nat.lt_of_le_of_lt (List.length_filter_le _ _) hlt
  unfold racesV
  rw [hl, List.take_of_length_le (by omega), h2, List.take_of_length_le]
  rw [← h1]; omega
theorem races_mem {l : List Evt} {p : Int × Int} (h : p ∈ racesV l) : ∃ i k : Nat, p = ((i : Int), (k : Int)) ∧ i < k ∧ k < l.length ∧ raceV l i k = true := by
  unfold racesV at h
  have h2 := List.mem_of_mem_take h
  unfold allR rowR at h2
  simp only [List.mem_flatMap, List.mem_range, List.mem_map, List.mem_filter, Bool.and_eq_true, decide_eq_true_eq] at h2
  obtain ⟨i, hi, k, ⟨hk, h3, h4⟩, rfl⟩ := h2
  exact ⟨i, k, rfl, h3, hk, h4⟩
end Ck
