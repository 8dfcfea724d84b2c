/-
  A part of the proof of the claim that this folder bears.
  This text: K20.
-/
import Derived.Test.YtekgkamjbnfgiaaK19
set_option linter.unusedVariables false
set_option linter.unusedSimpArgs false
set_option linter.unusedSectionVars false
namespace Go.KK

/-! Slices of slices: the headers are a slice of their own, the rows are owned together. -/
structure Hdr where
  a : Option Addr
  n : Nat
  cap : Nat
  deriving Inhabited
def hdrE (T : TypeId) : Enc Hdr := ⟨T, 1, fun h => [.slice h.a h.n h.cap], fun _ => rfl, fun s v h => by
  simp only [List.mem_cons, List.not_mem_nil, or_false] at h; rcases h with rfl; rfl⟩

section
variable {α : Type} {E : Enc α}
def rowL (E : Enc α) (hs : List Hdr) (xss : List (List α)) : List Asn := (hs.zip xss).map fun p => sl E p.1.a p.1.cap p.2
@[irreducible] def rows (E : Enc α) (hs : List Hdr) (xss : List (List α)) : Asn := fun h => hs.map (·.n) = xss.map (·.length) ∧ Sat h (rowL E hs xss)
/-- All rows but one. -/
@[irreducible] def rowsBut (E : Enc α) (i : Nat) (hs : List Hdr) (xss : List (List α)) : Asn := fun h => hs.map (·.n) = xss.map (·.length) ∧ Sat h ((rowL E hs xss).eraseIdx i)

theorem rows_len {hs : List Hdr} {xss : List (List α)} (h : hs.map (·.n) = xss.map (·.length)) : hs.length = xss.length := by simpa using congrArg List.length h
theorem rowL_len {hs : List Hdr} {xss : List (List α)} (h : hs.length = xss.length) : (rowL E hs xss).length = hs.length := by simp [rowL, h]
theorem rowL_get {hs : List Hdr} {xss : List (List α)} {i : Nat} {hd : Hdr} {xs : List α} (h1 : hs[i]? = some hd) (h2 : xss[i]? = some xs) : (rowL E hs xss)[i]? = some (sl E hd.a hd.cap xs) := by
  have h := (List.getElem?_zip_eq_some (l₁ := hs) (l₂ := xss) (z := (hd, xs)) (i := i)).2 ⟨h1, h2⟩
  simp only [rowL, List.getElem?_map, h, Option.map_some]

theorem rows_iff {hs : List Hdr} {xss : List (List α)} {L : List Asn} {h : Hp} : Sat h (rows E hs xss :: L) ↔ hs.map (·.n) = xss.map (·.length) ∧ Sat h (rowL E hs xss ++ L) := by
  rw [← Sat.star]
  constructor
  · rintro ⟨h1, h2, d, l1, l2, a, s⟩
    unfold rows at a
    exact ⟨a.1, h1, h2, d, l1, l2, a.2, s⟩
  · rintro ⟨e, h1, h2, d, l1, l2, a, s⟩
    refine ⟨h1, h2, d, l1, l2, ?_, s⟩
    unfold rows
    exact ⟨e, a⟩
theorem rowsBut_iff {i : Nat} {hs : List Hdr} {xss : List (List α)} {L : List Asn} {h : Hp} : Sat h (rowsBut E i hs xss :: L) ↔ hs.map (·.n) = xss.map (·.length) ∧ Sat h ((rowL E hs xss).eraseIdx i ++ L) := by
  rw [← Sat.star]
  constructor
  · rintro ⟨h1, h2, d, l1, l2, a, s⟩
    unfold rowsBut at a
    exact ⟨a.1, h1, h2, d, l1, l2, a.2, s⟩
  · rintro ⟨e, h1, h2, d, l1, l2, a, s⟩
    refine ⟨h1, h2, d, l1, l2, ?_, s⟩
    unfold rowsBut
    exact ⟨e, a⟩

theorem perm_erase {β : Type} : ∀ {l : List β} {i : Nat} {x : β}, l[i]? = some x → l.Perm (x :: l.eraseIdx i)
  | y :: l, 0, x, h => by simp at h; subst h; simp
  | y :: l, i + 1, x, h => by
    simp only [List.getElem?_cons_succ] at h
    simp only [List.eraseIdx_cons_succ]
    exact ((perm_erase h).cons y).trans (.swap _ _ _)
theorem perm_set {β : Type} : ∀ {l : List β} {i : Nat} {x y : β}, l[i]? = some x → (l.set i y).Perm (y :: l.eraseIdx i)
  | z :: l, 0, x, y, h => by simp
  | z :: l, i + 1, x, y, h => by
    simp only [List.getElem?_cons_succ] at h
    simp only [List.eraseIdx_cons_succ, List.set_cons_succ]
    exact ((perm_set h).cons z).trans (.swap _ _ _)

theorem rows_nil {L : List Asn} {h : Hp} (hs : Sat h L) : Sat h (rows E [] [] :: L) := rows_iff.2 ⟨rfl, by simpa [rowL] using hs⟩
theorem rows_open {hs : List Hdr} {xss : List (List α)} {L : List Asn} {h : Hp} {i : Nat} {hd : Hdr} {xs : List α} (h1 : hs[i]? = some hd) (h2 : xss[i]? = some xs) (s : Sat h (rows E hs xss :: L)) :
    Sat h (sl E hd.a hd.cap xs :: rowsBut E i hs xss :: L) := by
  obtain ⟨e, s⟩ := rows_iff.1 s
  have p := (perm_erase (rowL_get (E := E) h1 h2)).append_right L
  have s2 := s.perm p
  simp only [List.cons_append] at s2
  obtain ⟨k1, k2, d, l1, l2, a, s3⟩ := s2
  exact ⟨k1, k2, d, l1, l2, a, rowsBut_iff.2 ⟨e, s3⟩⟩

theorem rowL_set {hs : List Hdr} {xss : List (List α)} {i : Nat} {hd : Hdr} {xs : List α} : rowL E (hs.set i hd) (xss.set i xs) = (rowL E hs xss).set i (sl E hd.a hd.cap xs) := by
  unfold rowL
  apply List.ext_getElem?
  intro j
  by_cases hij : i = j
  · subst hij
    by_cases h1 : i < hs.length
    · by_cases h2 : i < xss.length
      · rw [List.getElem?_set_self (by simp; omega)]
        have h := (List.getElem?_zip_eq_some (l₁ := hs.set i hd) (l₂ := xss.set i xs) (z := (hd, xs)) (i := i)).2 ⟨List.getElem?_set_self h1, List.getElem?_set_self h2⟩
        simp only [List.getElem?_map, h, Option.map_some]
      · rw [List.getElem?_eq_none (by simp; omega), List.getElem?_eq_none (by simp; omega)]
    · rw [List.getElem?_eq_none (by simp; omega), List.getElem?_eq_none (by simp; omega)]
  · rw [List.getElem?_set_ne hij]
    simp only [List.getElem?_map]
    congr 1
    simp only [List.zip_eq_zipWith, List.getElem?_zipWith, List.getElem?_set_ne hij]

theorem rows_shut {hs : List Hdr} {xss : List (List α)} {L : List Asn} {h : Hp} {i : Nat} {hd : Hdr} {xs : List α} (hi : i < hs.length) (hl : hd.n = xs.length)
    (s : Sat h (sl E hd.a hd.cap xs :: rowsBut E i hs xss :: L)) : Sat h (rows E (hs.set i hd) (xss.set i xs) :: L) := by
  obtain ⟨k1, k2, d, l1, l2, a, s3⟩ := s
  obtain ⟨e, s4⟩ := rowsBut_iff.1 s3
  have hlen := rows_len e
  refine rows_iff.2 ⟨?_, ?_⟩
  · rw [List.map_set, List.map_set, e, hl]
  · rw [rowL_set]
    have h0 : (rowL E hs xss)[i]? = some ((rowL E hs xss)[i]'(by rw [rowL_len hlen]; exact hi)) := List.getElem?_eq_getElem _
    refine Sat.perm (((perm_set h0).append_right L).symm) ?_
    exact ⟨k1, k2, d, l1, l2, a, s4⟩
theorem set_same {β : Type} {l : List β} {i : Nat} {x : β} (h : l[i]? = some x) : l.set i x = l := by
  apply List.ext_getElem?
  intro j
  by_cases hij : i = j
  · subst hij; rw [List.getElem?_set_self (List.getElem?_eq_some_iff.1 h).1, h]
  · rw [List.getElem?_set_ne hij]
theorem rows_back {hs : List Hdr} {xss : List (List α)} {L : List Asn} {h : Hp} {i : Nat} {hd : Hdr} {xs : List α} (h1 : hs[i]? = some hd) (hl : hd.n = xs.length)
    (s : Sat h (sl E hd.a hd.cap xs :: rowsBut E i hs xss :: L)) : Sat h (rows E hs (xss.set i xs) :: L) := by
  have := rows_shut (List.getElem?_eq_some_iff.1 h1).1 hl s
  rwa [set_same h1] at this

theorem rows_snoc {hs : List Hdr} {xss : List (List α)} {L : List Asn} {h : Hp} {a : Option Addr} {n cap : Nat} {xs : List α} (hn : n = xs.length)
    (s : Sat h (sl E a cap xs :: rows E hs xss :: L)) : Sat h (rows E (hs ++ [⟨a, n, cap⟩]) (xss ++ [xs]) :: L) := by
  obtain ⟨k1, k2, d, l1, l2, a', s3⟩ := s
  obtain ⟨e, s4⟩ := rows_iff.1 s3
  have hlen := rows_len e
  refine rows_iff.2 ⟨by simp [e, hn], ?_⟩
  have e2 : rowL E (hs ++ [⟨a, n, cap⟩]) (xss ++ [xs]) = rowL E hs xss ++ [sl E a cap xs] := by
    unfold rowL
    rw [List.zip_append hlen]; simp
  rw [e2]
  refine Sat.perm (L := sl E a cap xs :: (rowL E hs xss ++ L)) ?_ ⟨k1, k2, d, l1, l2, a', s4⟩
  simpa using (List.perm_middle (l₁ := rowL E hs xss) (a := sl E a cap xs) (l₂ := L)).symm

theorem rows_new {L : List Asn} {h : Hp} (s : Sat h L) : ∀ n : Nat, Sat h (rows E (List.replicate n ⟨none, 0, 0⟩) (List.replicate n []) :: L)
  | 0 => rows_nil s
  | n + 1 => by
    have h1 := rows_new s n
    have h2 : Sat h (sl E none 0 [] :: rows E (List.replicate n ⟨none, 0, 0⟩) (List.replicate n []) :: L) := sl_nil_new h1
    have := rows_snoc (n := 0) rfl h2
    rw [List.replicate_succ', List.replicate_succ']
    exact this

end
class RowsIn {α : outParam Type} (E : outParam (Enc α)) (L : List Asn) (hs : List Hdr) (xss : outParam (List (List α))) : Prop where
  out : ∀ h, Sat h L → hs.map (·.n) = xss.map (·.length) ∧ ∀ A ∈ rowL E hs xss, ∃ h1, Hp.le h1 h ∧ A h1
instance RowsIn.head {α : Type} {E : Enc α} {L : List Asn} {hs : List Hdr} {xss : List (List α)} : RowsIn E (rows E hs xss :: L) hs xss := ⟨fun h s => by
  obtain ⟨e, s⟩ := rows_iff.1 s
  exact ⟨e, fun A hA => Sat.mem (List.mem_append_left _ hA) s⟩⟩
instance (priority := 900) RowsIn.tail {α : Type} {E : Enc α} {A : Asn} {L : List Asn} {hs : List Hdr} {xss : List (List α)} [hh : RowsIn E L hs xss] : RowsIn E (A :: L) hs xss := ⟨fun h s => hh.out h s.tail⟩
theorem RowsIn.row {α : Type} {E : Enc α} {L : List Asn} {hs : List Hdr} {xss : List (List α)} (hh : RowsIn E L hs xss) {i : Nat} {hd : Hdr} {xs : List α} (h1 : hs[i]? = some hd) (h2 : xss[i]? = some xs) : SlIn E L hd.a xs := ⟨fun h s => by
  obtain ⟨_, hA⟩ := hh.out h s
  obtain ⟨k, l, a⟩ := hA _ (List.mem_of_getElem? (rowL_get (E := E) h1 h2))
  exact (sl.slR a).mono l⟩
theorem RowsBut.row {α : Type} {E : Enc α} {L : List Asn} {hs : List Hdr} {xss : List (List α)} {i j : Nat} (hm : rowsBut E i hs xss ∈ L) (hij : i ≠ j) {hd : Hdr} {xs : List α} (h1 : hs[j]? = some hd) (h2 : xss[j]? = some xs) : SlIn E L hd.a xs := ⟨fun h s => by
  obtain ⟨k, l, a⟩ := Sat.mem hm s
  unfold rowsBut at a
  have hg := rowL_get (E := E) h1 h2
  have hmem : sl E hd.a hd.cap xs ∈ (rowL E hs xss).eraseIdx i := by
    rw [List.mem_eraseIdx_iff_getElem?]
    exact ⟨j, fun e => hij e.symm, hg⟩
  obtain ⟨k2, l2, a2⟩ := Sat.mem hmem a.2
  exact (sl.slR a2).mono (Hp.le_trans l2 l)⟩
end Go.KK
