/-
  A part of the proof of the claim that this folder bears.
  This text: QWf.
-/
import Derived.Test.YtnllgmfpejjcnaaQPlain
set_option linter.unusedVariables false
set_option linter.unusedSimpArgs false
namespace Qt

theorem mem_set_or {α : Type} {l : List α} {i : Nat} {x y : α} (h : y ∈ l.set i x) : y ∈ l ∨ y = x := List.mem_or_eq_of_mem_set h

theorem wf_mono {σ : St} {N M : Nat} (h : Wf σ N) (hl : N ≤ M) (hm : M ≤ 10000) : Wf σ M := by
  obtain ⟨w1, w2, w3, w4, w5, w55, w6, w7⟩ := h
  exact ⟨w1, w2, w3, fun s hs => by have := w4 s hs; omega, by omega, hm, by omega, by omega⟩

theorem wf_init (n : Nat) (h1 : 1 ≤ n) (h8 : n ≤ 8) : Wf (init n) 0 := by
  refine ⟨by simp [init]; omega, by simp [init, h8], by simp [init], ?_, by simp [init], by omega, by simp [init], by simp [init]⟩
  intro s hs
  rcases mem_set_or hs with h | h
  · have := List.eq_of_mem_replicate h; subst this; simp
  · subst h; simp

theorem wf_send {σ : St} {N : Nat} (h : Wf σ N) (hN : N < 10000) (f t : Int) : Wf (send σ f t).2 (N + 1) := by
  unfold send
  split
  · exact wf_mono h (by omega) (by omega)
  · rename_i hp
    split
    · exact wf_mono h (by omega) (by omega)
    · obtain ⟨w1, w2, w3, w4, w5, w55, w6, w7⟩ := h
      unfold isP at hp
      have hc := w4 _ (spot_mem (σ := σ) (i := f.toNat) (by omega))
      refine ⟨by simpa [sendS] using w1, by simpa [sendS] using w2, ?_, ?_, by simp only [sendS]; omega, by omega, by simp only [sendS]; omega, by simp [sendS]; omega⟩
      · intro p hm
        simp only [sendS, List.mem_append, List.mem_singleton, List.length_set] at hm ⊢
        rcases hm with hm | rfl
        · exact w3 p hm
        · simp only; omega
      · intro s hs
        simp only [sendS] at hs
        rcases mem_set_or hs with hs | rfl
        · have := w4 s hs; omega
        · simp only; omega

theorem wf_recv {σ : St} {N : Nat} (h : Wf σ N) (hN : N < 10000) (k : Int) : Wf (recv σ k).2 (N + 1) := by
  unfold recv
  split
  · exact wf_mono h (by omega) (by omega)
  · rename_i hk
    obtain ⟨w1, w2, w3, w4, w5, w55, w6, w7⟩ := h
    have hp := fly_get (σ := σ) (k := k.toNat) (by omega)
    have hd := (w3 _ (List.mem_of_getElem? hp)).2
    have hc := w4 _ (spot_mem (σ := σ) (i := (σ.fly.getD k.toNat (0, 0)).2.toNat) (by omega))
    refine ⟨by simpa [recvS] using w1, by simpa [recvS] using w2, ?_, ?_, by simp only [recvS]; omega, by omega, by simp only [recvS]; omega, by simp [recvS]; omega⟩
    · intro p hm
      simp only [recvS, List.mem_append, List.length_set] at hm ⊢
      rcases hm with hm | hm
      · exact w3 p (List.mem_of_mem_take hm)
      · exact w3 p (List.mem_of_mem_drop hm)
    · intro s hs
      simp only [recvS, dest] at hs
      rcases mem_set_or hs with hs | rfl
      · have := w4 s hs; omega
      · simp only; omega

theorem wf_idle {σ : St} {N : Nat} (h : Wf σ N) (hN : N < 10000) (p : Int) : Wf (idle σ p).2 (N + 1) := by
  unfold idle
  split
  · exact wf_mono h (by omega) (by omega)
  · rename_i hp
    split
    · exact wf_mono h (by omega) (by omega)
    · obtain ⟨w1, w2, w3, w4, w5, w55, w6, w7⟩ := h
      unfold isP at hp
      have hc := w4 _ (spot_mem (σ := σ) (i := p.toNat) (by omega))
      refine ⟨by simpa [idleS] using w1, by simpa [idleS] using w2, by simpa [idleS] using w3, ?_, by simp only [idleS]; omega, by omega, by simp only [idleS]; omega, by simp only [idleS]; omega⟩
      intro s hs
      simp only [idleS] at hs
      rcases mem_set_or hs with hs | rfl
      · have := w4 s hs; omega
      · simp only; omega

theorem wf_pass {σ : St} {N : Nat} (h : Wf σ N) (hN : N < 10000) : Wf (pass σ).2.2 (N + 1) := by
  unfold pass
  split
  · exact wf_mono h (by omega) (by omega)
  split
  · exact wf_mono h (by omega) (by omega)
  obtain ⟨w1, w2, w3, w4, w5, w55, w6, w7⟩ := h
  have hc := w4 _ (spot_mem (σ := σ) (i := σ.pos) (by omega))
  have hc0 := w4 _ (spot_mem (σ := σ) (i := 0) (by omega))
  split
  · refine ⟨by simp [stepDown]; omega, by simpa [stepDown] using w2, by simpa [stepDown] using w3, ?_, by simp only [stepDown]; omega, by omega, by simp only [stepDown]; omega, by simp only [stepDown]; omega⟩
    intro s hs
    simp only [stepDown] at hs
    rcases mem_set_or hs with hs | rfl
    · have := w4 s hs; omega
    · simp only; omega
  split
  · exact ⟨w1, w2, w3, fun s hs => by have := w4 s hs; omega, by simp only [tellS]; omega, by omega, by simp only [tellS]; omega, by simp only [tellS]; omega⟩
  · refine ⟨by simp [newRound]; omega, by simpa [newRound] using w2, by simpa [newRound] using w3, ?_, by simp only [newRound]; omega, by omega, by simp only [newRound]; omega, by simp only [newRound]; omega⟩
    intro s hs
    simp only [newRound] at hs
    rcases mem_set_or hs with hs | rfl
    · have := w4 s hs; omega
    · simp only; omega

theorem wf_act {σ : St} {N : Nat} (h : Wf σ N) (hN : N < 10000) (x y z : Int) : Wf (act σ x y z) (N + 1) := by
  unfold act
  split
  · exact wf_send h hN y z
  split
  · exact wf_recv h hN y
  split
  · exact wf_idle h hN y
  · exact wf_pass h hN

/-- A list of acts. -/
def acts (σ : St) : List (Int × Int × Int) → St
  | [] => σ
  | a :: l => acts (act σ a.1 a.2.1 a.2.2) l
theorem acts_append (σ : St) : ∀ (l m : List (Int × Int × Int)), acts σ (l ++ m) = acts (acts σ l) m
  | [], m => rfl
  | a :: l, m => acts_append (act σ a.1 a.2.1 a.2.2) l m
theorem acts_take {σ : St} {l : List (Int × Int × Int)} {i : Nat} (h : i < l.length) : acts σ (l.take (i + 1)) = act (acts σ (l.take i)) l[i].1 l[i].2.1 l[i].2.2 := by
  rw [List.take_succ_eq_append_getElem h, acts_append]
  rfl
theorem wf_acts {σ : St} : ∀ (l : List (Int × Int × Int)) {N : Nat}, Wf σ N → N + l.length ≤ 10000 → Wf (acts σ l) (N + l.length) := by
  intro l
  induction l generalizing σ with
  | nil => intro N h _; simpa [acts] using h
  | cons a l ih =>
    intro N h hl
    simp only [List.length_cons] at hl ⊢
    have := ih (wf_act h (by omega) a.1 a.2.1 a.2.2) (by omega)
    have e : N + (l.length + 1) = N + 1 + l.length := by omega
    rw [e]; exact this
theorem len_act (σ : St) (x y z : Int) : (act σ x y z).spots.length = σ.spots.length := by
  unfold act send recv idle pass
  repeat' split
  all_goals simp [sendS, recvS, idleS, stepDown, newRound, tellS]
theorem len_acts (σ : St) : ∀ l, (acts σ l).spots.length = σ.spots.length
  | [] => rfl
  | a :: l => (len_acts _ l).trans (len_act σ a.1 a.2.1 a.2.2)
end Qt
