/-
  A part of the proof of the claim that this folder bears.
  This text: CLaw3.
-/
import Derived.Test.YtekgkamjbnfgiaaCLaw2
set_option linter.unusedVariables false
set_option linter.unusedSimpArgs false
set_option linter.unusedSectionVars false
namespace Ck
/-! All races. -/
def rowR (l : List Evt) (i m : Nat) : List (Int × Int) := ((List.range m).filter (fun k => decide (i < k) && raceV l i k)).map (fun k : Nat => ((i : Int), (k : Int)))
def allR (l : List Evt) (i : Nat) : List (Int × Int) := (List.range i).flatMap (fun j => rowR l j l.length)
def racesV (l : List Evt) : List (Int × Int) := (allR l l.length).take 1000
theorem rowR_next {l : List Evt} {i k : Nat} (h : i < k) : rowR l i (k + 1) = rowR l i k ++ if raceV l i k = true then [((i : Int), (k : Int))] else [] := by
  unfold rowR
  rw [List.range_succ, List.filter_append, List.map_append]
  congr 1
  by_cases hr : raceV l i k = true
  · simp [h, hr]
  · simp [h, hr]
theorem rowR_zero (l : List Evt) (i : Nat) : rowR l i (i + 1) = [] := by
  unfold rowR
  rw [List.map_eq_nil_iff, List.filter_eq_nil_iff]
  intro k hk
  simp only [List.mem_range] at hk
  simp; omega
theorem allR_next (l : List Evt) (i : Nat) : allR l (i + 1) = allR l i ++ rowR l i l.length := by
  unfold allR; rw [List.range_succ, List.flatMap_append]; simp
theorem rowR_pre {l : List Evt} {i k m : Nat} (h : i < k) (hm : k ≤ m) : rowR l i k <+: rowR l i m := by
  induction m with
  | zero => omega
  | succ m ih =>
    by_cases e : k = m + 1
    · subst e; exact List.prefix_refl _
    · rw [rowR_next (by omega)]
      exact (ih (by omega)).trans (List.prefix_append _ _)
theorem allR_pre {l : List Evt} {i m : Nat} (h : i ≤ m) : allR l i <+: allR l m := by
  induction m with
  | zero => have : i = 0 := by omega
            subst this; exact List.prefix_refl _
  | succ m ih =>
    by_cases e : i = m + 1
    · subst e; exact List.prefix_refl _
    · rw [allR_next]
      exact (ih (by omega)).trans (List.prefix_append _ _)
theorem part_pre {l : List Evt} {i k : Nat} (h : i < k) (hk : k ≤ l.length) : allR l i ++ rowR l i k <+: allR l l.length := by
  have h1 : allR l i ++ rowR l i k <+: allR l (i + 1) := by
    rw [allR_next]; exact (List.prefix_append_right_inj _).2 (rowR_pre h hk)
  exact h1.trans (allR_pre (by omega))
theorem races_full {l : List Evt} {i k : Nat} (h : i < k) (hk : k ≤ l.length) (hl : (allR l i ++ rowR l i k).length = 1000) : allR l i ++ rowR l i k = racesV l := by
  unfold racesV
  have := List.prefix_iff_eq_take.1 (part_pre (l := l) h hk)
  rw [hl] at this; exact this
theorem races_all {l : List Evt} (h : (allR l l.length).length < 1000) : allR l l.length = racesV l := by
  unfold racesV; rw [List.take_of_length_le (by omega)]

/-! The first race. -/
def colR (l : List Evt) (k m : Nat) : List (Int × Int) := ((List.range m).filter (fun i => raceV l i k)).map (fun i : Nat => ((i : Int), (k : Int)))
def fallR (l : List Evt) (k : Nat) : List (Int × Int) := (List.range k).flatMap (fun j => colR l j j)
def firstV (l : List Evt) : Option (Int × Int) := (fallR l l.length).head?
theorem colR_next (l : List Evt) (k i : Nat) : colR l k (i + 1) = colR l k i ++ if raceV l i k = true then [((i : Int), (k : Int))] else [] := by
  unfold colR
  rw [List.range_succ, List.filter_append, List.map_append]
  by_cases hr : raceV l i k = true <;> simp [hr]
theorem fallR_next (l : List Evt) (k : Nat) : fallR l (k + 1) = fallR l k ++ colR l k k := by
  unfold fallR; rw [List.range_succ, List.flatMap_append]; simp
theorem colR_pre {l : List Evt} {k i m : Nat} (hm : i ≤ m) : colR l k i <+: colR l k m := by
  induction m with
  | zero => have : i = 0 := by omega
            subst this; exact List.prefix_refl _
  | succ m ih =>
    by_cases e : i = m + 1
    · subst e; exact List.prefix_refl _
    · rw [colR_next]
      exact (ih (by omega)).trans (List.prefix_append _ _)
theorem fallR_pre {l : List Evt} {i m : Nat} (h : i ≤ m) : fallR l i <+: fallR l m := by
  induction m with
  | zero => have : i = 0 := by omega
            subst this; exact List.prefix_refl _
  | succ m ih =>
    by_cases e : i = m + 1
    · subst e; exact List.prefix_refl _
    · rw [fallR_next]
      exact (ih (by omega)).trans (List.prefix_append _ _)
theorem first_found {l : List Evt} {k i : Nat} (hk : k < l.length) (hi : i < k) (h1 : fallR l k = []) (h2 : colR l k i = []) (hr : raceV l i k = true) : firstV l = some ((i : Int), (k : Int)) := by
  have h3 : fallR l k ++ colR l k (i + 1) <+: fallR l l.length := by
    refine List.IsPrefix.trans ?_ (fallR_pre (show k + 1 ≤ l.length by omega))
    rw [fallR_next]; exact (List.prefix_append_right_inj _).2 (colR_pre (by omega))
  rw [h1, colR_next, h2, if_pos hr] at h3
  obtain ⟨t, ht⟩ := h3
  unfold firstV; rw [← ht]; rfl
theorem first_none' {l : List Evt} (h : fallR l l.length = []) : firstV l = none := by unfold firstV; rw [h]; rfl

/-! What is before an event: by its kind. -/
section
variable {l : List Evt} (hf : Fine l) {k : Nat} (hk : k < l.length)
include hf hk
theorem bef_last {i : Nat} : Bef l i k ↔ ∃ j, j < k ∧ (j = i ∨ Bef l i j) ∧ stepB l (ev l j) (ev l k) j = true := by
  rw [Bef.last]
  constructor
  · rintro ⟨j, h1, h2⟩; exact ⟨j, h2.1, h1, h2.2.2⟩
  · rintro ⟨j, h1, h2, h3⟩; exact ⟨j, h2, h1, hk, h3⟩
theorem st_own {j : Nat} (hj : j < k) (h : tk l j = tk l k ∨ ((ev l j).act = sFork ∧ (ev l j).other.toNat = tk l k)) : stepB l (ev l j) (ev l k) j = true := by
  rcases h with h | ⟨h, h2⟩
  · simp [stepB, (task_eq (hf j (by omega)) (hf k hk)).2 h]
  · have := (hf j (by omega)).fork h
    have h0 := (hf k hk).t0
    have e : (ev l j).other = (ev l k).task := by unfold tk at h2; omega
    simp [stepB, h, e]
theorem st_cases {j : Nat} (hj : j < k) (h : stepB l (ev l j) (ev l k) j = true) : (tk l j = tk l k ∨ ((ev l j).act = sFork ∧ (ev l j).other.toNat = tk l k)) ∨
    ((ev l k).act = sJoin ∧ (tk l j = (ev l k).other.toNat ∨ ((ev l j).act = sFork ∧ (ev l j).other.toNat = (ev l k).other.toNat))) ∨ ((ev l k).act = sGet ∧ firstGive l (ev l k).cell = j) := by
  simp only [stepB, Bool.or_eq_true, Bool.and_eq_true, decide_eq_true_eq] at h
  rcases h with ((h | ⟨h, h2 | ⟨h2, h3⟩⟩) | ⟨h, h2⟩) | ⟨⟨⟨h, _⟩, _⟩, h2⟩
  · exact .inl (.inl ((task_eq (hf j (by omega)) (hf k hk)).1 h))
  · exact .inl (.inr ⟨h, by unfold tk; rw [h2]⟩)
  · exact .inr (.inl ⟨h2, .inr ⟨h, by rw [h3]⟩⟩)
  · exact .inr (.inl ⟨h, .inl (by unfold tk; rw [h2])⟩)
  · exact .inr (.inr ⟨h, h2⟩)
theorem bef_own {i : Nat} (h : Kn l k (tk l k) i) : Bef l i k := by
  obtain ⟨j, h1, h2, h3⟩ := h
  exact (bef_last hf hk).2 ⟨j, h1, h2, st_own hf hk h1 h3⟩
theorem bef_join {i : Nat} (hj : (ev l k).act = sJoin) : Bef l i k ↔ Kn l k (tk l k) i ∨ Kn l k (ev l k).other.toNat i := by
  constructor
  · intro h
    obtain ⟨j, h1, h2, h3⟩ := (bef_last hf hk).1 h
    rcases st_cases hf hk h1 h3 with h4 | ⟨_, h4⟩ | ⟨h4, _⟩
    · exact .inl ⟨j, h1, h2, h4⟩
    · exact .inr ⟨j, h1, h2, h4⟩
    · rw [hj] at h4; exact absurd h4 (by decide)
  · rintro (h | ⟨j, h1, h2, h3⟩)
    · exact bef_own hf hk h
    · refine (bef_last hf hk).2 ⟨j, h1, h2, ?_⟩
      obtain ⟨o0, _, _⟩ := (hf k hk).join hj
      rcases h3 with h3 | ⟨h3, h4⟩
      · have := (hf j (by omega)).t0
        have e : (ev l k).other = (ev l j).task := by unfold tk at h3; omega
        simp [stepB, hj, e]
      · have := (hf j (by omega)).fork h3
        have e : (ev l k).other = (ev l j).other := by omega
        simp [stepB, h3, hj, e]
theorem bef_get {i : Nat} (hg : (ev l k).act = sGet) : Bef l i k ↔ Kn l k (tk l k) i ∨ (i = firstGive l (ev l k).cell ∨ Bef l i (firstGive l (ev l k).cell)) := by
  have hfg := (hf k hk).get hg
  have hgg := first_give (l := l) (c := (ev l k).cell) rfl (by omega)
  constructor
  · intro h
    obtain ⟨j, h1, h2, h3⟩ := (bef_last hf hk).1 h
    rcases st_cases hf hk h1 h3 with h4 | ⟨h4, _⟩ | ⟨_, h4⟩
    · exact .inl ⟨j, h1, h2, h4⟩
    · rw [hg] at h4; exact absurd h4 (by decide)
    · rw [h4]; exact .inr (by rcases h2 with h2 | h2; exact .inl h2.symm; exact .inr h2)
  · rintro (h | h)
    · exact bef_own hf hk h
    · refine (bef_last hf hk).2 ⟨_, hfg, by rcases h with h | h; exact .inl h.symm; exact .inr h, ?_⟩
      simp [stepB, hg, hgg.1, hgg.2]
theorem bef_else {i : Nat} (hj : (ev l k).act ≠ sJoin) (hg : (ev l k).act ≠ sGet) : Bef l i k ↔ Kn l k (tk l k) i := by
  constructor
  · intro h
    obtain ⟨j, h1, h2, h3⟩ := (bef_last hf hk).1 h
    rcases st_cases hf hk h1 h3 with h4 | ⟨h4, _⟩ | ⟨h4, _⟩
    · exact ⟨j, h1, h2, h4⟩
    · exact absurd h4 hj
    · exact absurd h4 hg
  · exact bef_own hf hk
theorem kn_new {i t : Nat} (ht : t = tk l k ∨ ((ev l k).act = sFork ∧ (ev l k).other.toNat = t)) : Kn l (k + 1) t i ↔ i = k ∨ Bef l i k := by
  constructor
  · rintro ⟨j, h4, h5, h6⟩
    rcases Nat.lt_or_ge j k with h7 | h7
    · have hF := hf k hk
      rcases ht with rfl | ⟨ha, ho⟩
      · right
        have hjk : Bef l j k := .one ⟨h7, hk, st_own hf hk h7 h6⟩
        rcases h5 with rfl | h5
        · exact hjk
        · exact h5.trans hjk
      · exfalso
        have hk2 := hF.fork ha
        have h8 := (hf j (by omega)).tl
        have h9 := tn_le (l := l) (k := j) (m := k) (by omega) (by omega)
        rcases h6 with h6 | ⟨h6, h10⟩
        · omega
        · have h11 := (hf j (by omega)).fork h6
          have h12 := tn_succ (l := l) (k := j) (by omega)
          rw [if_pos h6] at h12
          have := tn_le (l := l) (k := j + 1) (m := k) (by omega) (by omega)
          omega
    · have : j = k := by omega
      subst this
      rcases h5 with h5 | h5
      · exact .inl h5.symm
      · exact .inr h5
  · intro h
    exact ⟨k, by omega, by rcases h with h | h; exact .inl h.symm; exact .inr h, by rcases ht with h | h; exact .inl h.symm; exact .inr h⟩
theorem kn_old {i t : Nat} (h2 : t ≠ tk l k) (h3 : ¬ ((ev l k).act = sFork ∧ (ev l k).other.toNat = t)) : Kn l (k + 1) t i ↔ Kn l k t i := by
  constructor
  · rintro ⟨j, h4, h5, h6⟩
    refine ⟨j, ?_, h5, h6⟩
    rcases Nat.lt_or_ge j k with h7 | h7
    · exact h7
    · have : j = k := by omega
      subst this
      rcases h6 with h6 | h6
      · exact absurd h6.symm h2
      · exact absurd h6 h3
  · rintro ⟨j, h4, h5, h6⟩; exact ⟨j, by omega, h5, h6⟩
end

/-! The depth. -/
def dval (l : List Evt) (ds : List Int) (k m : Nat) : Int := (List.range m).foldl (fun d i => if befV l i k = true then max d (ds.getD i 0 + 1) else d) 1
def dpS (l : List Evt) : Nat → List Int
  | 0 => []
  | k + 1 => dpS l k ++ [dval l (dpS l k) k k]
theorem dval_next (l : List Evt) (ds : List Int) (k m : Nat) : dval l ds k (m + 1) = if befV l m k = true then max (dval l ds k m) (ds.getD m 0 + 1) else dval l ds k m := by
  unfold dval; rw [List.range_succ, List.foldl_append]; rfl
theorem dpS_len (l : List Evt) : ∀ k, (dpS l k).length = k
  | 0 => rfl
  | k + 1 => by simp [dpS, dpS_len l k]
def dep (l : List Evt) (k : Nat) : Int := dval l (dpS l k) k k
theorem dpS_get (l : List Evt) {i : Nat} : ∀ {k : Nat}, i < k → (dpS l k).getD i 0 = dep l i
  | 0, h => by omega
  | k + 1, h => by
    simp only [dpS, List.getD_eq_getElem?_getD]
    by_cases e : i < k
    · rw [List.getElem?_append_left (by rw [dpS_len]; exact e)]
      have := dpS_get l (i := i) (k := k) e
      simpa [List.getD_eq_getElem?_getD] using this
    · have : i = k := by omega
      subst this
      rw [List.getElem?_append_right (by rw [dpS_len]; exact Nat.le_refl _), dpS_len]; simp [dep]
/-- The greatest of what S has, or 0. -/
def IsMx (l : List Evt) (S : Nat → Prop) (τ : Int) : Prop := 0 ≤ τ ∧ (∀ i, S i → dep l i ≤ τ) ∧ (τ = 0 ∨ ∃ i, S i ∧ dep l i = τ)
theorem dval_mx (l : List Evt) (k : Nat) : ∀ m, m ≤ k → IsMx l (fun i => i < m ∧ befV l i k = true) (dval l (dpS l k) k m - 1)
  | 0, _ => ⟨by simp [dval], fun i h => by omega, .inl (by simp [dval])⟩
  | m + 1, hm => by
    obtain ⟨h1, h2, h3⟩ := dval_mx l k m (by omega)
    rw [dval_next]
    by_cases hb : befV l m k = true
    · rw [if_pos hb, dpS_get l (by omega)]
      refine ⟨by omega, fun i hi => ?_, ?_⟩
      · by_cases e : i = m
        · subst e; omega
        · have := h2 i ⟨by omega, hi.2⟩; omega
      · by_cases hc : dval l (dpS l k) k m ≤ dep l m + 1
        · exact .inr ⟨m, ⟨by omega, hb⟩, by omega⟩
        · rcases h3 with h3 | ⟨i, h4, h5⟩
          · exact .inl (by omega)
          · exact .inr ⟨i, ⟨by omega, h4.2⟩, by omega⟩
    · rw [if_neg hb]
      refine ⟨h1, fun i hi => ?_, ?_⟩
      · have : i ≠ m := fun e => hb (e ▸ hi.2)
        exact h2 i ⟨by omega, hi.2⟩
      · rcases h3 with h3 | ⟨i, h4, h5⟩
        · exact .inl h3
        · exact .inr ⟨i, ⟨by omega, h4.2⟩, h5⟩
theorem dep_pos (l : List Evt) (k : Nat) : 1 ≤ dep l k := by have := (dval_mx l k k (Nat.le_refl _)).1; unfold dep; omega
theorem IsMx.uniq {l : List Evt} {S T : Nat → Prop} {a b : Int} (h : IsMx l S a) (h2 : IsMx l T b) (hS : ∀ i, S i ↔ T i) : a = b := by
  obtain ⟨a1, a2, a3⟩ := h
  obtain ⟨b1, b2, b3⟩ := h2
  have h1 : a ≤ b := by
    rcases a3 with h | ⟨i, h3, h4⟩
    · omega
    · have := b2 i ((hS i).1 h3); omega
  have h2 : b ≤ a := by
    rcases b3 with h | ⟨i, h3, h4⟩
    · omega
    · have := a2 i ((hS i).2 h3); omega
  omega
theorem IsMx.max {l : List Evt} {S T U : Nat → Prop} {a b : Int} (h : IsMx l S a) (h2 : IsMx l T b) (hU : ∀ i, U i ↔ (S i ∨ T i)) : IsMx l U (max a b) := by
  obtain ⟨a1, a2, a3⟩ := h
  obtain ⟨b1, b2, b3⟩ := h2
  refine ⟨by omega, fun i hi => ?_, ?_⟩
  · rcases (hU i).1 hi with h | h
    · have := a2 i h; omega
    · have := b2 i h; omega
  · by_cases hc : a ≤ b
    · rcases b3 with h | ⟨i, h3, h4⟩
      · exact .inl (by omega)
      · exact .inr ⟨i, (hU i).2 (.inr h3), by omega⟩
    · rcases a3 with h | ⟨i, h3, h4⟩
      · exact .inl (by omega)
      · exact .inr ⟨i, (hU i).2 (.inl h3), by omega⟩
theorem IsMx.congr {l : List Evt} {S T : Nat → Prop} {a : Int} (h : IsMx l S a) (hU : ∀ i, T i ↔ S i) : IsMx l T a :=
  ⟨h.1, fun i hi => h.2.1 i ((hU i).1 hi), by rcases h.2.2 with h3 | ⟨i, h3, h4⟩; exact .inl h3; exact .inr ⟨i, (hU i).2 h3, h4⟩⟩
theorem mx_none (l : List Evt) {S : Nat → Prop} (h : ∀ i, ¬ S i) : IsMx l S 0 := ⟨by omega, fun i hi => absurd hi (h i), .inl rfl⟩
theorem mx_bef {l : List Evt} (hf : Fine l) {k : Nat} (hk : k < l.length) : IsMx l (fun i => Bef l i k) (dep l k - 1) :=
  (dval_mx l k k (Nat.le_refl _)).congr fun i => by
    constructor
    · intro h; have := h.lt; exact ⟨this.1, (befV_iff hf (by omega) hk).2 h⟩
    · rintro ⟨h1, h2⟩; exact (befV_iff hf (by omega) hk).1 h2
theorem mx_upto {l : List Evt} (hf : Fine l) {k : Nat} (hk : k < l.length) : IsMx l (fun i => i = k ∨ Bef l i k) (dep l k) := by
  obtain ⟨h1, h2, h3⟩ := mx_bef hf hk
  refine ⟨by omega, fun i hi => ?_, .inr ⟨k, .inl rfl, rfl⟩⟩
  rcases hi with rfl | hi
  · exact Int.le_refl _
  · have := h2 i hi; omega
def mostV (l : List Evt) (k : Nat) : Int := (List.range k).foldl (fun m i => max m (dep l i)) 0
theorem mostV_next (l : List Evt) (k : Nat) : mostV l (k + 1) = max (mostV l k) (dep l k) := by
  unfold mostV; rw [List.range_succ, List.foldl_append]; rfl
theorem dval_le {l : List Evt} {ds : List Int} {k : Nat} {B : Int} (hB : 1 ≤ B) : ∀ m, (∀ i, i < m → ds.getD i 0 + 1 ≤ B) → dval l ds k m ≤ B
  | 0, _ => by simpa [dval] using hB
  | m + 1, h => by
    rw [dval_next]
    have := dval_le (l := l) (k := k) hB m (fun i hi => h i (by omega))
    have := h m (by omega)
    split <;> omega
theorem dep_le (l : List Evt) : ∀ k, dep l k ≤ k + 1 := by
  intro k
  induction k using Nat.strongRecOn with
  | _ k ih =>
    unfold dep
    refine dval_le (by omega) k fun i hi => ?_
    rw [dpS_get l hi]; have := ih i hi; omega
theorem mostV_le (l : List Evt) : ∀ k, 0 ≤ mostV l k ∧ mostV l k ≤ k
  | 0 => by simp [mostV]
  | k + 1 => by rw [mostV_next]; have := mostV_le l k; have := dep_le l k; have := dep_pos l k; omega

/-! The width. -/
def wid (l : List Evt) (k : Nat) : Int × Int := (l.take k).foldl (fun p e => let n := if e.act = sFork then p.1 + 1 else if e.act = sJoin then p.1 - 1 else p.1; (n, max p.2 n)) (1, 1)
theorem wid_next {l : List Evt} {k : Nat} (h : k < l.length) : wid l (k + 1) = (let n := if (ev l k).act = sFork then (wid l k).1 + 1 else if (ev l k).act = sJoin then (wid l k).1 - 1 else (wid l k).1; (n, max (wid l k).2 n)) := by
  unfold wid; rw [List.take_succ_eq_append_getElem h, List.foldl_append, ev_el h]; rfl
theorem wid_b {l : List Evt} : ∀ {k : Nat}, k ≤ l.length → -(k : Int) ≤ (wid l k).1 ∧ (wid l k).1 ≤ k + 1
  | 0, _ => by simp [wid]
  | k + 1, h => by
    have := wid_b (l := l) (k := k) (by omega)
    rw [wid_next (by omega)]
    dsimp only
    split
    · omega
    · split <;> omega
end Ck
