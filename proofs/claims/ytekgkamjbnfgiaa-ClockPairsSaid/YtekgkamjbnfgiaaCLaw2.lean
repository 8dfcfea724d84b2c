/-
  A part of the proof of the claim that this folder bears.
  This text: CLaw2.
-/
import Derived.Test.YtekgkamjbnfgiaaCLaw
set_option linter.unusedVariables false
set_option linter.unusedSimpArgs false
namespace Ck
def Fine (l : List Evt) : Prop := ∀ k, k < l.length → FineAt l k
theorem right_fine {l : List Evt} (h : rightB l = true) : Fine l := fun k hk => by
  unfold rightB at h; simp only [Bool.and_eq_true] at h; exact fine_at h.2 hk
theorem right_len {l : List Evt} (h : rightB l = true) : l.length ≤ 2000 := by
  unfold rightB at h; simp only [Bool.and_eq_true, decide_eq_true_eq] at h; exact h.1
def clkAt (l : List Evt) (k : Nat) : List Int := (clks l).getD k []
def befV (l : List Evt) (i k : Nat) : Bool := decide (i ≠ k) && decide ((clkAt l i).getD (tk l i) 0 ≤ (clkAt l k).getD (tk l i) 0)
theorem befV_iff {l : List Evt} (hf : Fine l) {i k : Nat} (hi : i < l.length) (hk : k < l.length) : befV l i k = true ↔ Bef l i k := by
  unfold befV
  by_cases e : i = k
  · subst e
    constructor
    · intro h; simp at h
    · intro h; have := h.lt; omega
  · rw [clks_bef hf hi hk e]; simp [e, clkAt]
theorem befV_of {l : List Evt} (hf : Fine l) {i k : Nat} (hi : i < l.length) (hk : k < l.length) {b : Bool} (h : b = true ↔ Bef l i k) : b = befV l i k := by
  rw [Bool.eq_iff_iff, h, befV_iff hf hi hk]
def raceV (l : List Evt) (i k : Nat) : Bool := conflictB (ev l i) (ev l k) && !befV l i k && !befV l k i
theorem clkAt_len {l : List Evt} (hf : Fine l) {k : Nat} (hk : k < l.length) : (clkAt l k).length = many l := (clks_kno hf hk).len
theorem tk_lt {l : List Evt} (hf : Fine l) {k : Nat} (hk : k < l.length) : tk l k < many l := by
  have := (hf k hk).tl; have := tn_many (l := l) (k := k) (by omega); omega
theorem conf_symm (d e : Evt) : conflictB d e = conflictB e d := by
  unfold conflictB pairOf
  by_cases h : d.task = e.task ∨ d.cell = (⟨#[]⟩ : ByteArray) ∨ d.cell ≠ e.cell
  · rw [if_pos h, if_pos]
    rcases h with h | h | h
    · exact .inl h.symm
    · by_cases h2 : e.cell = (⟨#[]⟩ : ByteArray)
      · exact .inr (.inl h2)
      · exact .inr (.inr (by rw [h]; exact h2))
    · exact .inr (.inr (Ne.symm h))
  · rw [if_neg h, if_neg]
    · cases decide (d.act = sWrite) <;> cases decide (e.act = sWrite) <;> cases decide (d.act = sAdd) <;> cases decide (e.act = sAdd) <;> cases decide (d.act = sRead) <;> cases decide (e.act = sRead) <;> cases decide (d.act = sGive) <;> cases decide (e.act = sGive) <;> rfl
    · simp only [not_or, ne_eq, Decidable.not_not] at h ⊢
      exact ⟨Ne.symm h.1, by rw [← h.2.2]; exact h.2.1, h.2.2.symm⟩
theorem raceV_symm (l : List Evt) (i k : Nat) : raceV l i k = raceV l k i := by
  unfold raceV
  rw [conf_symm]
  cases conflictB (ev l k) (ev l i) <;> cases befV l i k <;> cases befV l k i <;> rfl
def clashB (d e : Evt) : Bool :=
  if isAcc d.act = false ∨ isAcc e.act = false ∨ d.cell ≠ e.cell ∨ d.task = e.task then false
  else decide (d.act = sWrite) || decide (e.act = sWrite) || pairOf d e sAdd sRead || pairOf d e sGive sGive
theorem clash_conf {l : List Evt} {i k : Nat} (h1 : FineAt l i) (h2 : FineAt l k) : clashB (ev l i) (ev l k) = conflictB (ev l i) (ev l k) := by
  unfold clashB conflictB
  have a1 : isAcc (ev l i).act = true ↔ (ev l i).cell ≠ (⟨#[]⟩ : ByteArray) := by
    rcases h1.kind with ⟨h | h, h3⟩ | ⟨h, _, _, h3⟩
    · simp [h, h3, isAcc]; decide
    · simp [h, h3, isAcc]; decide
    · simp [h, h3]
  have a2 : isAcc (ev l k).act = true ↔ (ev l k).cell ≠ (⟨#[]⟩ : ByteArray) := by
    rcases h2.kind with ⟨h | h, h3⟩ | ⟨h, _, _, h3⟩
    · simp [h, h3, isAcc]; decide
    · simp [h, h3, isAcc]; decide
    · simp [h, h3]
  by_cases hc : (ev l i).task = (ev l k).task ∨ (ev l i).cell = (⟨#[]⟩ : ByteArray) ∨ (ev l i).cell ≠ (ev l k).cell
  · rw [if_pos hc, if_pos]
    rcases hc with h | h | h
    · exact .inr (.inr (.inr h))
    · left; cases hh : isAcc (ev l i).act with
      | false => rfl
      | true => exact absurd h (a1.1 hh)
    · exact .inr (.inr (.inl h))
  · rw [if_neg hc, if_neg]
    simp only [not_or, ne_eq, Decidable.not_not] at hc ⊢
    exact ⟨by rw [a1.2 hc.2.1]; simp, by rw [a2.2 (by rw [← hc.2.2]; exact hc.2.1)]; simp, hc.2.2, hc.1⟩

/-! The reference's clock: counted. -/
def cntV (l : List Evt) (v : List Int) (m : Nat) : List Int := (List.range (many l)).map fun u => min (v.getD u 0) (cnt l u m)
theorem cntV_get {l : List Evt} {v : List Int} {m u : Nat} (hu : u < many l) : (cntV l v m)[u]? = some (min (v.getD u 0) (cnt l u m : Nat)) := by
  simp [cntV, hu]
theorem cntV_len (l : List Evt) (v : List Int) (m : Nat) : (cntV l v m).length = many l := by simp [cntV]
theorem cntV_zero {l : List Evt} {S : Nat → Prop} {n : Nat} {v : List Int} (h : Kno l n S v) : cntV l v 0 = List.replicate (many l) 0 := by
  apply List.ext_getElem?
  intro u
  by_cases hu : u < many l
  · rw [cntV_get hu, List.getElem?_replicate, if_pos hu]
    have := h.lo u hu
    have e : cnt l u 0 = 0 := by simp [cnt]
    rw [e]; congr 1; omega
  · rw [List.getElem?_eq_none (by rw [cntV_len]; omega), List.getElem?_eq_none (by simp; omega)]
theorem cntV_all {l : List Evt} {S : Nat → Prop} {n : Nat} {v : List Int} (h : Kno l n S v) : cntV l v n = v := by
  apply List.ext_getElem?
  intro u
  by_cases hu : u < many l
  · rw [cntV_get hu]
    have := h.hi u hu
    have hl : u < v.length := by rw [h.len]; exact hu
    rw [List.getElem?_eq_getElem hl]
    have e : v.getD u 0 = v[u] := by simp [List.getD_eq_getElem?_getD, hl]
    rw [e] at this ⊢
    congr 1; omega
  · rw [List.getElem?_eq_none (by rw [cntV_len]; omega), List.getElem?_eq_none (by rw [h.len]; omega)]
theorem cntV_yes {l : List Evt} {S : Nat → Prop} {n m : Nat} {v : List Int} (h : Kno l n S v) (hm : m < n) (hl : m < l.length) (ht : tk l m < many l) (hS : S m) :
    (cntV l v m).set (tk l m) ((cntV l v m).getD (tk l m) 0 + 1) = cntV l v (m + 1) := by
  have h1 := (h.tell m hm).1 hS
  have hc := cnt_succ (u := tk l m) hl
  rw [if_pos rfl] at hc
  apply List.ext_getElem?
  intro u
  by_cases hu : u < many l
  · rw [cntV_get hu]
    by_cases e : u = tk l m
    · subst e
      rw [List.getElem?_set_self (by rw [cntV_len]; exact hu)]
      simp only [List.getD_eq_getElem?_getD, cntV_get hu, Option.getD_some]
      unfold ix at h1
      simp only [List.getD_eq_getElem?_getD] at h1
      congr 1; omega
    · rw [List.getElem?_set_ne (fun h => e h.symm), cntV_get hu, cnt_succ hl, if_neg (fun h => e h.symm)]; simp
  · rw [List.getElem?_eq_none (by simp [cntV_len]; omega), List.getElem?_eq_none (by rw [cntV_len]; omega)]
theorem cntV_no {l : List Evt} {S : Nat → Prop} {n m : Nat} {v : List Int} (h : Kno l n S v) (hm : m < n) (hl : m < l.length) (ht : tk l m < many l) (hS : ¬ S m) : cntV l v m = cntV l v (m + 1) := by
  have h1 : ¬ (ix l m : Int) ≤ v.getD (tk l m) 0 := fun hh => hS ((h.tell m hm).2 hh)
  have hc := cnt_succ (u := tk l m) hl
  rw [if_pos rfl] at hc
  apply List.ext_getElem?
  intro u
  by_cases hu : u < many l
  · rw [cntV_get hu, cntV_get hu]
    by_cases e : u = tk l m
    · subst e; unfold ix at h1; congr 1; omega
    · rw [cnt_succ hl, if_neg (fun h => e h.symm)]; simp
  · rw [List.getElem?_eq_none (by rw [cntV_len]; omega), List.getElem?_eq_none (by rw [cntV_len]; omega)]
end Ck
