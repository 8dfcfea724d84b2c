/-
  A part of the proof of the claim that this folder bears.
  This text: K24.
-/
import Derived.Test.YtekgkamjbnfgiaaK23
import Derived.Test.YtekgkamjbnfgiaaK17
/-!
  A slice argument of structs whose fields are ints, strings and bools, as a list.
-/
set_option linter.unusedVariables false
set_option linter.unusedSimpArgs false
namespace Go.KK
open Go.ChangeShapes Go.WideShapes Go.ChangeAt Go.RowKit
def isV : Nat → Value → Prop
  | 0, v => ∃ z : Int, v = .int .i64 z
  | 1, v => ∃ s : ByteArray, v = .string s
  | _, v => ∃ b : Bool, v = .bool b
def kindB (P : Program) (t : TypeId) : Option Nat :=
  match P.underlying t with
  | some (.int .i64) => some 0
  | some .string => some 1
  | some .bool => some 2
  | _ => none
section
open Go.Deep
variable {H : Type} {enc : TypeId × Value → H} {P : Program} {w : World} {base : Nat} {spare : Nat → Bool} {held : Bool}
theorem kind_cell {t κ fuel : Nat} {v : Value} {x : DataW H × List MemPlace} (hk : kindB P t = some κ) (h : DataW.trod enc P w base spare held fuel t [v] = some x) : isV κ v := by
  unfold kindB at hk
  split at hk
  · rename_i hu
    cases hk
    obtain ⟨z, e, _⟩ := DataW.trod_int hu h
    simp only [List.cons.injEq, and_true] at e
    exact ⟨z, e⟩
  · rename_i hu
    cases hk
    obtain ⟨z, e, _⟩ := DataW.trod_string hu h
    simp only [List.cons.injEq, and_true] at e
    exact ⟨z, e⟩
  · rename_i hu
    cases hk
    obtain ⟨z, e, _⟩ := DataW.trod_bool hu h
    simp only [List.cons.injEq, and_true] at e
    exact ⟨z, e⟩
  · cases hk

theorem open_recs {α : Type} [Inhabited α] (E : Enc α) {t e : TypeId} {fs : Array Field} {v : Value} {d : DataW H} {ps : List MemPlace} (ht : P.underlying t = some (.slice e)) (he : P.underlying e = some (.struct fs))
    (hone : oneCellFields P fs = true) (hC : P.cellsOf e = fs.size) (hm : E.m = fs.size) (hpos : 0 < fs.size) {ks : List Nat} (hall : fs.toList.map (fun f => kindB P f.type) = ks.map some)
    (hmk : ∀ g : Nat → Value, (∀ k κ, ks[k]? = some κ → isV κ (g k)) → ∃ x : α, ∀ k u, k < fs.size → (E.enc x)[k]? = some u → u = g k)
    (hv : ∃ a len cap, v = .slice a len cap) (h : DataW.Trod enc P w base spare held t v d ps) : ∃ (a : Option Addr) (xs : List α) (cap : Nat), v = .slice a xs.length cap ∧ xs.length ≤ maxLen ∧ xs.length ≤ cap ∧ (a = none → xs = [] ∧ cap = 0) ∧ slR E (hp w) a xs := by
  have hkl : ks.length = fs.size := by have := congrArg List.length hall; simpa using this.symm
  have hint : ∀ (j : Nat) (f : Field), fs[j]? = some f → ∃ κ, ks[j]? = some κ ∧ kindB P f.type = some κ := fun j f hj => by
    have h1 := congrArg (·[j]?) hall
    simp only [List.getElem?_map, Array.getElem?_toList, hj, Option.map_some] at h1
    cases hk : ks[j]? with
    | none => rw [hk] at h1; simp at h1
    | some κ => rw [hk] at h1; exact ⟨κ, rfl, by simpa using h1⟩
  obtain ⟨fuel, hf⟩ := h
  obtain ⟨a0, len0, cap0, rfl⟩ := hv
  rcases open_slice_fields ht he hone hC hf with h0 | ⟨a, len, cap, h0, h1, h2, hi⟩
  · simp [Value.cells] at h0
    obtain ⟨rfl, rfl, rfl⟩ := h0
    exact ⟨none, [], 0, rfl, by unfold maxLen; simp, by simp, fun _ => ⟨rfl, rfl⟩, .inl rfl⟩
  · simp [Value.cells] at h0
    obtain ⟨rfl, rfl, rfl⟩ := h0
    have hex : ∀ i, i < len0 → ∃ x : α, ∀ k u, k < E.m → (E.enc x)[k]? = some u → w.cell? (a.add (i * E.m + k)) = some u := by
      intro i hil
      obtain ⟨n, hn⟩ := hi i hil
      have hg : ∀ k, k < fs.size → ∃ z : Value, w.cell? (a.add (i * fs.size + k)) = some z ∧ ∀ κ, ks[k]? = some κ → isV κ z := by
        intro k hk
        obtain ⟨v, y, c1, c2⟩ := hn k fs[k] (Array.getElem?_eq_getElem hk)
        obtain ⟨κ, k1, k2⟩ := hint k _ (Array.getElem?_eq_getElem hk)
        exact ⟨v, c1, fun κ' h' => by rw [k1] at h'; cases h'; exact kind_cell k2 c2⟩
      obtain ⟨g, hg⟩ := choose_lt hg
      obtain ⟨x, hx⟩ := hmk g (fun k κ hk => (hg k (by rw [← hkl]; exact (List.getElem?_eq_some_iff.1 hk).1)).2 κ hk)
      refine ⟨x, fun k u hk hu => ?_⟩
      rw [hm] at hk ⊢
      rw [hx k u hk hu]
      exact (hg k hk).1
    obtain ⟨F, hF⟩ := choose_lt hex
    refine ⟨some a, (List.range len0).map F, cap0, by simp, by simp; omega, by simp; omega, (fun h => by cases h), slR_of (by omega) ?_⟩
    intro i x hx k u hk hu
    rw [List.getElem?_map] at hx
    by_cases hil : i < len0
    · rw [List.getElem?_range hil] at hx
      simp only [Option.map_some, Option.some.injEq] at hx
      subst hx
      exact hF i hil k u hk hu
    · rw [List.getElem?_eq_none (by simp; omega)] at hx; cases hx
end
end Go.KK
