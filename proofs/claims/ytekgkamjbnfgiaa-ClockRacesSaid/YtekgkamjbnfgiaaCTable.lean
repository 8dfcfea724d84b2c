/-
  A part of the proof of the claim that this folder bears.
  This text: CTable.
-/
import Derived.Test.YtekgkamjbnfgiaaCClocks
set_option linter.unusedVariables false
set_option linter.unusedSimpArgs false
namespace Go.Proofs.Ytekgkamjbnfgiaa
open Go Go.KK Ck

def rowBE : Enc Hdr := hdrE 47
def RowU (xs : List Evt) (k m : Nat) (row : List Bool) : Prop := ∀ j, j < xs.length → (row.getD j false = true ↔ ∃ i, m ≤ i ∧ i < k ∧ stepB xs (ev xs i) (ev xs k) i = true ∧ (j = i ∨ Bef xs j i))
def TabU (xs : List Evt) (k : Nat) (tab : List (List Bool)) : Prop := tab.length = k ∧ ∀ q, q < k → (tab.getD q []).length = xs.length ∧ ∀ j, j < xs.length → ((tab.getD q []).getD j false = true ↔ Bef xs j q)
theorem row_none (xs : List Evt) (k : Nat) : RowU xs k k (List.replicate xs.length false) := fun j hj => by
  rw [rep_getD hj]
  constructor
  · intro h; cases h
  · rintro ⟨i, h1, h2, _⟩; omega
theorem row_skip1 {xs : List Evt} {k m : Nat} {row : List Bool} (h : RowU xs k (m + 1) row) (hm : m < xs.length) (ht : row.getD m false = true) : RowU xs k m row := fun j hj => by
  rw [h j hj]
  constructor
  · rintro ⟨i, h1, h2, h3⟩; exact ⟨i, by omega, h2, h3⟩
  · rintro ⟨i, h1, h2, h3, h4⟩
    by_cases e : i = m
    · subst e
      obtain ⟨i2, g1, g2, g3, g4⟩ := (h i hm).1 ht
      rcases g4 with g4 | g4
      · omega
      · refine ⟨i2, g1, g2, g3, .inr ?_⟩
        rcases h4 with rfl | h4
        · exact g4
        · exact h4.trans g4
    · exact ⟨i, by omega, h2, h3, h4⟩
theorem row_skip2 {xs : List Evt} {k m : Nat} {row : List Bool} (h : RowU xs k (m + 1) row) (ht : stepB xs (ev xs m) (ev xs k) m = false) : RowU xs k m row := fun j hj => by
  rw [h j hj]
  constructor
  · rintro ⟨i, h1, h2, h3⟩; exact ⟨i, by omega, h2, h3⟩
  · rintro ⟨i, h1, h2, h3, h4⟩
    by_cases e : i = m
    · subst e; rw [ht] at h3; cases h3
    · exact ⟨i, by omega, h2, h3, h4⟩
theorem row_take {xs : List Evt} {k m : Nat} {row row3 prev : List Bool} (h : RowU xs k (m + 1) row) (hk : m < k) (ht : stepB xs (ev xs m) (ev xs k) m = true) (hl : row.length = xs.length)
    (h3 : ∀ q, q < xs.length → (row3.getD q false = true ↔ ((row.set m true).getD q false = true ∨ (q < m ∧ prev.getD q false = true)))) (hp : ∀ q, q < xs.length → (prev.getD q false = true ↔ Bef xs q m)) : RowU xs k m row3 := fun j hj => by
  have hs : (row.set m true).getD j false = true ↔ (j = m ∨ row.getD j false = true) := by
    simp only [List.getD_eq_getElem?_getD]
    by_cases e : j = m
    · subst e; simp [hl, hj]
    · rw [List.getElem?_set_ne (fun h => e h.symm)]; simp [e]
  rw [h3 j hj, hs, h j hj, hp j hj]
  constructor
  · rintro ((rfl | ⟨i, h1, h2, h3⟩) | ⟨h1, h2⟩)
    · exact ⟨j, by omega, hk, ht, .inl rfl⟩
    · exact ⟨i, by omega, h2, h3⟩
    · exact ⟨m, by omega, hk, ht, .inr h2⟩
  · rintro ⟨i, h1, h2, h3, h4⟩
    by_cases e : i = m
    · subst e
      rcases h4 with rfl | h4
      · exact .inl (.inl rfl)
      · exact .inr ⟨h4.lt.1, h4⟩
    · exact .inl (.inr ⟨i, by omega, h2, h3, h4⟩)
theorem row_all {xs : List Evt} {k : Nat} {row : List Bool} (h : RowU xs k 0 row) (hk : k < xs.length) (j : Nat) (hj : j < xs.length) : row.getD j false = true ↔ Bef xs j k := by
  rw [h j hj, Bef.last]
  constructor
  · rintro ⟨i, h1, h2, h3, h4⟩; exact ⟨i, by rcases h4 with h4 | h4; exact .inl h4.symm; exact .inr h4, h2, hk, h3⟩
  · rintro ⟨i, h4, h2, _, h3⟩; exact ⟨i, by omega, h2, h3, by rcases h4 with h4 | h4; exact .inl h4.symm; exact .inr h4⟩
theorem tab_next {xs : List Evt} {k : Nat} {tab : List (List Bool)} {row : List Bool} (h : TabU xs k tab) (hl : row.length = xs.length) (hr : RowU xs k 0 row) (hk : k < xs.length) : TabU xs (k + 1) (tab ++ [row]) := by
  refine ⟨by simp [h.1], fun q hq => ?_⟩
  rcases Nat.lt_or_ge q k with h1 | h1
  · have e : (tab ++ [row]).getD q [] = tab.getD q [] := by
      simp only [List.getD_eq_getElem?_getD]; rw [List.getElem?_append_left (by rw [h.1]; exact h1)]
    rw [e]; exact h.2 q h1
  · have : q = k := by omega
    subst this
    have e : (tab ++ [row]).getD q [] = row := by
      simp only [List.getD_eq_getElem?_getD]; rw [List.getElem?_append_right (by rw [h.1]; exact Nat.le_refl _), h.1]; simp
    rw [e]; exact ⟨hl, fun j hj => row_all hr hk j hj⟩
def OrU (row prev : List Bool) (n j : Nat) (row3 : List Bool) : Prop := ∀ q, q < n → (row3.getD q false = true ↔ (row.getD q false = true ∨ (q < j ∧ prev.getD q false = true)))
theorem or_none (row prev : List Bool) (n : Nat) : OrU row prev n 0 row := fun q _ => ⟨.inl, fun h => by rcases h with h | h; exact h; omega⟩
theorem or_next {row prev row3 : List Bool} {n j : Nat} {b : Bool} (h : OrU row prev n j row3) (hj : j < n) (hl : row3.length = n) (hb : b = (row3.getD j false || prev.getD j false)) : OrU row prev n (j + 1) (row3.set j b) := fun q hq => by
  have hs : (row3.set j b).getD q false = if q = j then b else row3.getD q false := by
    simp only [List.getD_eq_getElem?_getD]
    by_cases e : q = j
    · subst e; simp [hl, hq]
    · rw [List.getElem?_set_ne (fun h => e h.symm), if_neg e]
  rw [hs]
  by_cases e : q = j
  · subst e
    have := h q hq
    rw [if_pos rfl, hb, Bool.or_eq_true, this]
    constructor
    · rintro ((h1 | ⟨h1, h2⟩) | h1)
      · exact .inl h1
      · omega
      · exact .inr ⟨by omega, h1⟩
    · rintro (h1 | ⟨_, h1⟩)
      · exact .inl (.inl h1)
      · exact .inr h1
  · rw [if_neg e, h q hq]
    constructor
    · rintro (h1 | ⟨h1, h2⟩)
      · exact .inl h1
      · exact .inr ⟨by omega, h2⟩
    · rintro (h1 | ⟨h1, h2⟩)
      · exact .inl h1
      · exact .inr ⟨by omega, h2⟩

theorem table_ok {L : List Asn} {b : Option Addr} {n cp : Nat} {xs : List Evt} [SlIn evE L b xs] (hn : n = xs.length) (hb : xs.length ≤ 2000) :
    CallS Try.prog 42 [.slice b n cp].toArray L (fun v M => ∃ a cap hs tab, TabU xs xs.length tab ∧ v = .slice a xs.length cap ∧ M = sl rowBE a cap hs :: rows boolE hs tab :: L) := by
  subst hn
  refine CallS.ent ?_
  refine CallS.enter Try.func42 rfl rfl rfl rfl rfl ?_
  refine J.seq rfl ?_
  refine J.region rfl ?_
  refine JO.pur rfl rfl rfl (Pur.assign rfl) ?_
  refine JO.nil ?_
  refine J.seq rfl ?_
  refine J.region rfl ?_
  refine JO.pur rfl rfl rfl (Pur.assign rfl) ?_
  refine JO.nil ?_
  refine J.seq rfl ?_
  refine J.seq rfl ?_
  refine J.region rfl ?_
  refine JO.pur rfl rfl rfl (Pur.assign rfl) ?_
  refine JO.nil ?_
  refine J.block rfl ?_
  refine J.loopF (ι := Nat × Option Addr × Nat × List Hdr × List (List Bool)) (fun i => i.1 ≤ xs.length ∧ i.2.2.2.1.length = i.1 ∧ TabU xs i.1 i.2.2.2.2) (fun i => [(3, .slice i.2.1 i.1 i.2.2.1), (4, .int .i64 (i.1 : Int))]) [(0, _)] (fun i => sl rowBE i.2.1 i.2.2.1 i.2.2.2.1 :: rows boolE i.2.2.2.1 i.2.2.2.2 :: L) (fun i => xs.length - i.1) (0, none, 0, [], []) rfl (.cons rfl rfl .nil) (.cons rfl rfl (.cons rfl rfl .nil)) (fun h s => SubC.out h (sl_nil_new (E := rowBE) (rows_nil (E := boolE) s))) ⟨Nat.zero_le _, rfl, rfl, fun q hq => by omega⟩ ?_
  rintro ⟨k, a3, c3, hsT, tab⟩ ⟨hk, hT, hU⟩ ih0
  try dsimp only
  dsimp only at hk hT hU
  refine J.seq rfl ?_
  refine J.seq rfl ?_
  refine J.region rfl ?_
  refine JO.pur rfl rfl rfl (Pur.move rfl) ?_
  refine JO.pur rfl rfl rfl (Pur.move rfl) ?_
  refine JO.pur rfl rfl rfl (Pur.len rfl) ?_
  refine JO.pur rfl rfl rfl (Pur.lss rfl rfl) ?_
  refine JO.nil ?_
  refine J.splitB 11 rfl (fun h11 => ?_) (fun h11 => ?_)
  · try simp only [decide_eq_true_eq, decide_eq_false_iff_not, Bool.not_eq_true', Bool.not_eq_false', Bool.and_eq_true, Bool.or_eq_true, Bool.and_eq_false_iff, Bool.or_eq_false_iff, Option.isNone_some, Option.isSome_some, Option.isNone_none, Option.isSome_none, Int.not_lt, Int.not_le, beq_iff_eq, beq_eq_false_iff_ne, bne_iff_ne, ne_eq, Bool.not_not, Decidable.not_not] at h11
    refine J.condT rfl rfl ?_
    refine J.skip rfl ?_
    refine J.seq rfl ?_
    refine J.block rfl ?_
    refine J.seq rfl ?_
    refine J.region rfl ?_
    refine JO.pur rfl rfl rfl (Pur.move rfl) ?_
    refine JO.pur rfl rfl rfl (Pur.len rfl) ?_
    refine JO.eff rfl rfl rfl (Eff.make boolE false rfl rfl rfl rfl rfl (by decide) (by omega) (by omega)) ?_
    rintro _ _ ⟨b16, rfl, rfl⟩
    refine JO.pur rfl rfl rfl (Pur.assign rfl) ?_
    refine JO.nil ?_
    refine J.seq rfl ?_
    refine J.seq rfl ?_
    refine J.region rfl ?_
    refine JO.pur rfl rfl rfl (Pur.move rfl) ?_
    refine JO.pur rfl rfl rfl (Pur.sub rfl rfl (wr64 (by omega))) ?_
    refine JO.pur rfl rfl rfl (Pur.assign rfl) ?_
    refine JO.nil ?_
    refine J.block rfl ?_
    refine J.loopF (ι := Nat × List Bool) (fun i => i.1 ≤ k ∧ i.2.length = xs.length ∧ RowU xs k i.1 i.2) (fun i => [(6, .int .i64 ((i.1 : Int) - 1))]) [(0, _), (3, _), (4, _), (5, _)] (fun i => sl boolE (some ⟨b16, 0, none⟩) xs.length i.2 :: sl rowBE a3 c3 hsT :: rows boolE hsT tab :: L) (fun i => i.1) (k, List.replicate xs.length false) rfl (.cons rfl rfl (.cons rfl rfl (.cons rfl rfl (.cons rfl rfl .nil)))) (.cons rfl rfl .nil) (by first | exact fun _ h => h | exact SubC.out | (dsimp only; exact SubC.out)) ⟨Nat.le_refl _, by simp, row_none xs k⟩ ?_
    rintro ⟨m, row⟩ ⟨hm, hl, hR⟩ ih1
    try dsimp only
    dsimp only at hm hl hR
    refine J.seq rfl ?_
    refine J.seq rfl ?_
    refine J.region rfl ?_
    refine JO.pur rfl rfl rfl (Pur.move rfl) ?_
    refine JO.pur rfl rfl rfl (Pur.geq rfl rfl) ?_
    refine JO.nil ?_
    refine J.splitB 20 rfl (fun h20 => ?_) (fun h20 => ?_)
    · try simp only [decide_eq_true_eq, decide_eq_false_iff_not, Bool.not_eq_true', Bool.not_eq_false', Bool.and_eq_true, Bool.or_eq_true, Bool.and_eq_false_iff, Bool.or_eq_false_iff, Option.isNone_some, Option.isSome_some, Option.isNone_none, Option.isSome_none, Int.not_lt, Int.not_le, beq_iff_eq, beq_eq_false_iff_ne, bne_iff_ne, ne_eq, Bool.not_not, Decidable.not_not] at h20
      have hmi : (m : Int) - 1 = ((m - 1 : Nat) : Int) := by omega
      have hmm : m = (m - 1) + 1 := by omega
      have hR' : RowU xs k ((m - 1) + 1) row := by rw [← hmm]; exact hR
      refine J.condT rfl rfl ?_
      refine J.skip rfl ?_
      refine J.seq rfl ?_
      refine J.block rfl ?_
      refine J.seq rfl ?_
      refine J.seq rfl ?_
      refine J.region rfl ?_
      refine JO.pur rfl rfl rfl (Pur.move rfl) ?_
      refine JO.pur rfl rfl rfl (Pur.move rfl) ?_
      refine JO.pur rfl rfl rfl (Pur.idx rfl rfl rfl (by first | rfl | (simp; done) | omega) hmi (by omega)) ?_
      refine JO.pur rfl rfl rfl (Pur.load rfl (CellIn.el0 rfl (getD_get (d := false) (by omega)) rfl)) ?_
      refine JO.pur rfl rfl rfl (Pur.move rfl) ?_
      refine JO.splitB 27 rfl (fun h27 => ?_) (fun h27 => ?_)
      · try simp only [decide_eq_true_eq, decide_eq_false_iff_not, Bool.not_eq_true', Bool.not_eq_false', Bool.and_eq_true, Bool.or_eq_true, Bool.and_eq_false_iff, Bool.or_eq_false_iff, Option.isNone_some, Option.isSome_some, Option.isNone_none, Option.isSome_none, Int.not_lt, Int.not_le, beq_iff_eq, beq_eq_false_iff_ne, bne_iff_ne, ne_eq, Bool.not_not, Decidable.not_not] at h27
        refine JO.no rfl rfl rfl ?_
        refine JO.no rfl rfl rfl ?_
        refine JO.no rfl rfl rfl ?_
        refine JO.no rfl rfl rfl ?_
        refine JO.no rfl rfl rfl ?_
        refine JO.pur rfl rfl rfl (Pur.pickT rfl rfl) ?_
        refine JO.nil ?_
        refine J.condT rfl rfl ?_
        refine J.exit rfl rfl ?_
        refine J.region rfl ?_
        refine JO.pur rfl rfl rfl (Pur.move rfl) ?_
        refine JO.pur rfl rfl rfl (Pur.sub rfl rfl (wr64 (by omega))) ?_
        refine JO.pur rfl rfl rfl (Pur.assign rfl) ?_
        refine JO.nil ?_
        have hR1 := row_skip1 hR' (by omega) h27
        exact J.weaken (.cons rfl (congrArg (Value.int .i64) (by dsimp only; omega)) (.cons rfl rfl (.cons rfl rfl (.cons rfl rfl (.cons rfl rfl .nil))))) (by first | exact fun _ h => h | exact SubC.out | (dsimp only; exact SubC.out)) (ih1 (m - 1, row) ⟨(by dsimp only; omega), hl, hR1⟩ (by dsimp only; omega))
      · try simp only [decide_eq_true_eq, decide_eq_false_iff_not, Bool.not_eq_true', Bool.not_eq_false', Bool.and_eq_true, Bool.or_eq_true, Bool.and_eq_false_iff, Bool.or_eq_false_iff, Option.isNone_some, Option.isSome_some, Option.isNone_none, Option.isSome_none, Int.not_lt, Int.not_le, beq_iff_eq, beq_eq_false_iff_ne, bne_iff_ne, ne_eq, Bool.not_not, Decidable.not_not] at h27
        refine JO.pur rfl rfl rfl (Pur.move rfl) ?_
        refine JO.pur rfl rfl rfl (Pur.move rfl) ?_
        refine JO.pur rfl rfl rfl (Pur.move rfl) ?_
        refine JO.effR rfl rfl rfl (Eff.call rfl (step_ok (ni := m - 1) (nk := k) rfl (by omega) (by omega) rfl (by omega) (by omega))) ?_
        rw [ev_el (show m - 1 < xs.length by omega), ev_el (show k < xs.length by omega)]
        refine JO.pur rfl rfl rfl (Pur.not rfl) ?_
        refine JO.pur rfl rfl rfl (Pur.pickF rfl rfl) ?_
        refine JO.nil ?_
        refine J.splitB 33 rfl (fun h33 => ?_) (fun h33 => ?_)
        · try simp only [decide_eq_true_eq, decide_eq_false_iff_not, Bool.not_eq_true', Bool.not_eq_false', Bool.and_eq_true, Bool.or_eq_true, Bool.and_eq_false_iff, Bool.or_eq_false_iff, Option.isNone_some, Option.isSome_some, Option.isNone_none, Option.isSome_none, Int.not_lt, Int.not_le, beq_iff_eq, beq_eq_false_iff_ne, bne_iff_ne, ne_eq, Bool.not_not, Decidable.not_not] at h33
          refine J.condT rfl rfl ?_
          refine J.exit rfl rfl ?_
          refine J.region rfl ?_
          refine JO.pur rfl rfl rfl (Pur.move rfl) ?_
          refine JO.pur rfl rfl rfl (Pur.sub rfl rfl (wr64 (by omega))) ?_
          refine JO.pur rfl rfl rfl (Pur.assign rfl) ?_
          refine JO.nil ?_
          have hR1 := row_skip2 hR' (by simpa using h33)
          exact J.weaken (.cons rfl (congrArg (Value.int .i64) (by dsimp only; omega)) (.cons rfl rfl (.cons rfl rfl (.cons rfl rfl (.cons rfl rfl .nil))))) (by first | exact fun _ h => h | exact SubC.out | (dsimp only; exact SubC.out)) (ih1 (m - 1, row) ⟨(by dsimp only; omega), hl, hR1⟩ (by dsimp only; omega))
        · try simp only [decide_eq_true_eq, decide_eq_false_iff_not, Bool.not_eq_true', Bool.not_eq_false', Bool.and_eq_true, Bool.or_eq_true, Bool.and_eq_false_iff, Bool.or_eq_false_iff, Option.isNone_some, Option.isSome_some, Option.isNone_none, Option.isSome_none, Int.not_lt, Int.not_le, beq_iff_eq, beq_eq_false_iff_ne, bne_iff_ne, ne_eq, Bool.not_not, Decidable.not_not] at h33
          have hT1 : hsT[m - 1]? = some (hsT.getD (m - 1) default) := getD_get (by omega)
          have tT1 : tab[m - 1]? = some (tab.getD (m - 1) []) := getD_get (by rw [hU.1]; omega)
          have tl1 := (hU.2 (m - 1) (by omega)).1
          refine J.fact (fun h s => RowsIn.n (hs := hsT) s) fun hnn => ?_
          have hn1 := hdr_n hnn hT1 tT1
          refine J.condF rfl rfl ?_
          refine J.skip rfl ?_
          refine J.seq rfl ?_
          refine J.region rfl ?_
          refine JO.pur rfl rfl rfl (Pur.move rfl) ?_
          refine JO.pur rfl rfl rfl (Pur.move rfl) ?_
          refine JO.pur rfl rfl rfl (Pur.idx rfl rfl rfl (by first | rfl | (simp; done) | omega) hmi (by omega)) ?_
          refine JO.effN rfl rfl (Eff.storeS0 (E := boolE) (z' := true) rfl rfl rfl rfl (getD_get (d := false) (by omega)) .head) ?_
          rintro _ _ ⟨rfl, rfl⟩
          refine JO.nil ?_
          refine J.seq rfl ?_
          refine J.region rfl ?_
          refine JO.pur rfl rfl rfl (Pur.assign rfl) ?_
          refine JO.nil ?_
          refine J.block rfl ?_
          refine J.loopF (ι := Nat × List Bool) (fun i => i.1 ≤ m - 1 ∧ i.2.length = xs.length ∧ OrU (row.set (m - 1) true) (tab.getD (m - 1) []) xs.length i.1 i.2) (fun i => [(7, .int .i64 (i.1 : Int))]) [(0, _), (3, _), (4, _), (5, _), (6, _)] (fun i => sl boolE (some ⟨b16, 0, none⟩) xs.length i.2 :: sl rowBE a3 c3 hsT :: rows boolE hsT tab :: L) (fun i => m - 1 - i.1) (0, row.set (m - 1) true) rfl (.cons rfl rfl (.cons rfl rfl (.cons rfl rfl (.cons rfl rfl (.cons rfl rfl .nil))))) (.cons rfl rfl .nil) (by first | exact fun _ h => h | exact SubC.out | (dsimp only; exact SubC.out)) ⟨Nat.zero_le _, by simp [hl], or_none _ _ _⟩ ?_
          rintro ⟨j, row3⟩ ⟨hj, hl3, hO⟩ ih2
          try dsimp only
          dsimp only at hj hl3 hO
          refine J.seq rfl ?_
          refine J.seq rfl ?_
          refine J.region rfl ?_
          refine JO.pur rfl rfl rfl (Pur.move rfl) ?_
          refine JO.pur rfl rfl rfl (Pur.move rfl) ?_
          refine JO.pur rfl rfl rfl (Pur.lss rfl rfl) ?_
          refine JO.nil ?_
          refine J.splitB 39 rfl (fun h39 => ?_) (fun h39 => ?_)
          · try simp only [decide_eq_true_eq, decide_eq_false_iff_not, Bool.not_eq_true', Bool.not_eq_false', Bool.and_eq_true, Bool.or_eq_true, Bool.and_eq_false_iff, Bool.or_eq_false_iff, Option.isNone_some, Option.isSome_some, Option.isNone_none, Option.isSome_none, Int.not_lt, Int.not_le, beq_iff_eq, beq_eq_false_iff_ne, bne_iff_ne, ne_eq, Bool.not_not, Decidable.not_not] at h39
            refine J.condT rfl rfl ?_
            refine J.skip rfl ?_
            refine J.seq rfl ?_
            refine J.block rfl ?_
            refine J.region rfl ?_
            refine JO.pur rfl rfl rfl (Pur.move rfl) ?_
            refine JO.pur rfl rfl rfl (Pur.move rfl) ?_
            refine JO.pur rfl rfl rfl (Pur.move rfl) ?_
            refine JO.pur rfl rfl rfl (Pur.move rfl) ?_
            refine JO.pur rfl rfl rfl (Pur.idx rfl rfl rfl (by first | rfl | (simp; done) | omega) rfl (by omega)) ?_
            refine JO.pur rfl rfl rfl (Pur.load rfl (CellIn.el0 rfl (getD_get (d := false) (by omega)) rfl)) ?_
            refine JO.pur rfl rfl rfl (Pur.move rfl) ?_
            refine JO.splitB 48 rfl (fun h48 => ?_) (fun h48 => ?_)
            · try simp only [decide_eq_true_eq, decide_eq_false_iff_not, Bool.not_eq_true', Bool.not_eq_false', Bool.and_eq_true, Bool.or_eq_true, Bool.and_eq_false_iff, Bool.or_eq_false_iff, Option.isNone_some, Option.isSome_some, Option.isNone_none, Option.isSome_none, Int.not_lt, Int.not_le, beq_iff_eq, beq_eq_false_iff_ne, bne_iff_ne, ne_eq, Bool.not_not, Decidable.not_not] at h48
              refine JO.no rfl rfl rfl ?_
              refine JO.no rfl rfl rfl ?_
              refine JO.no rfl rfl rfl ?_
              refine JO.no rfl rfl rfl ?_
              refine JO.no rfl rfl rfl ?_
              refine JO.no rfl rfl rfl ?_
              refine JO.no rfl rfl rfl ?_
              refine JO.pur rfl rfl rfl (Pur.pickT rfl rfl) ?_
              refine JO.pur rfl rfl rfl (Pur.idx rfl rfl rfl (by first | rfl | (simp; done) | omega) rfl (by omega)) ?_
              refine JO.effN rfl rfl (Eff.storeS0 (z' := _) rfl rfl rfl rfl (List.getElem?_eq_getElem (by omega)) .head) ?_
              rintro _ _ ⟨rfl, rfl⟩
              refine JO.nil ?_
              refine J.inBlock ?_
              refine J.region rfl ?_
              refine JO.pur rfl rfl rfl (Pur.move rfl) ?_
              refine JO.pur rfl rfl rfl (Pur.add rfl rfl (wr64 (by omega))) ?_
              refine JO.pur rfl rfl rfl (Pur.assign rfl) ?_
              refine JO.nil ?_
              have hbv : true = (row3.getD j false || (tab.getD (m - 1) []).getD j false) := by rw [h48]; rfl
              exact J.weaken (.cons rfl (congrArg (Value.int .i64) (by dsimp only; omega)) (.cons rfl rfl (.cons rfl rfl (.cons rfl rfl (.cons rfl rfl (.cons rfl rfl .nil)))))) (by first | exact fun _ h => h | exact SubC.out | (dsimp only; exact SubC.out)) (ih2 (j + 1, _) ⟨(by dsimp only; omega), (by simp [hl3]), or_next hO (by omega) hl3 hbv⟩ (by dsimp only; omega))
            · try simp only [decide_eq_true_eq, decide_eq_false_iff_not, Bool.not_eq_true', Bool.not_eq_false', Bool.and_eq_true, Bool.or_eq_true, Bool.and_eq_false_iff, Bool.or_eq_false_iff, Option.isNone_some, Option.isSome_some, Option.isNone_none, Option.isSome_none, Int.not_lt, Int.not_le, beq_iff_eq, beq_eq_false_iff_ne, bne_iff_ne, ne_eq, Bool.not_not, Decidable.not_not] at h48
              refine JO.pur rfl rfl rfl (Pur.move rfl) ?_
              refine JO.pur rfl rfl rfl (Pur.move rfl) ?_
              refine JO.pur rfl rfl rfl (Pur.idx rfl rfl rfl (by first | rfl | (simp; done) | omega) hmi (by omega)) ?_
              refine JO.pur rfl rfl rfl (Pur.load rfl (CellIn.el0 rfl hT1 rfl)) ?_
              refine JO.pur rfl rfl rfl (Pur.move rfl) ?_
              refine JO.pur rfl rfl rfl (Pur.idx (hs := RowsIn.row (E := boolE) inferInstance hT1 tT1) rfl rfl rfl (by first | rfl | (simp; done) | omega) rfl (by omega)) ?_
              refine JO.pur rfl rfl rfl (Pur.load rfl (CellIn.el0 (hh := RowsIn.row (E := boolE) inferInstance hT1 tT1) rfl (getD_get (d := false) (by omega)) rfl)) ?_
              refine JO.pur rfl rfl rfl (Pur.pickF rfl rfl) ?_
              refine JO.pur rfl rfl rfl (Pur.idx rfl rfl rfl (by first | rfl | (simp; done) | omega) rfl (by omega)) ?_
              refine JO.effN rfl rfl (Eff.storeS0 (z' := _) rfl rfl rfl rfl (List.getElem?_eq_getElem (by omega)) .head) ?_
              rintro _ _ ⟨rfl, rfl⟩
              refine JO.nil ?_
              refine J.inBlock ?_
              refine J.region rfl ?_
              refine JO.pur rfl rfl rfl (Pur.move rfl) ?_
              refine JO.pur rfl rfl rfl (Pur.add rfl rfl (wr64 (by omega))) ?_
              refine JO.pur rfl rfl rfl (Pur.assign rfl) ?_
              refine JO.nil ?_
              have hbv : (tab.getD (m - 1) []).getD j false = (row3.getD j false || (tab.getD (m - 1) []).getD j false) := by rw [h48]; rfl
              exact J.weaken (.cons rfl (congrArg (Value.int .i64) (by dsimp only; omega)) (.cons rfl rfl (.cons rfl rfl (.cons rfl rfl (.cons rfl rfl (.cons rfl rfl .nil)))))) (by first | exact fun _ h => h | exact SubC.out | (dsimp only; exact SubC.out)) (ih2 (j + 1, _) ⟨(by dsimp only; omega), (by simp [hl3]), or_next hO (by omega) hl3 hbv⟩ (by dsimp only; omega))
          · try simp only [decide_eq_true_eq, decide_eq_false_iff_not, Bool.not_eq_true', Bool.not_eq_false', Bool.and_eq_true, Bool.or_eq_true, Bool.and_eq_false_iff, Bool.or_eq_false_iff, Option.isNone_some, Option.isSome_some, Option.isNone_none, Option.isSome_none, Int.not_lt, Int.not_le, beq_iff_eq, beq_eq_false_iff_ne, bne_iff_ne, ne_eq, Bool.not_not, Decidable.not_not] at h39
            refine J.condF rfl rfl ?_
            refine J.exit rfl rfl ?_
            refine J.inBlock ?_
            refine J.region rfl ?_
            refine JO.pur rfl rfl rfl (Pur.move rfl) ?_
            refine JO.pur rfl rfl rfl (Pur.sub rfl rfl (wr64 (by omega))) ?_
            refine JO.pur rfl rfl rfl (Pur.assign rfl) ?_
            refine JO.nil ?_
            have hjm : j = m - 1 := by omega
            subst hjm
            have hR1 := row_take hR' (by omega) (by simpa using h33) hl hO (fun q hq => (hU.2 (m - 1) (by omega)).2 q hq)
            exact J.weaken (.cons rfl (congrArg (Value.int .i64) (by dsimp only; omega)) (.cons rfl rfl (.cons rfl rfl (.cons rfl rfl (.cons rfl rfl .nil))))) (by first | exact fun _ h => h | exact SubC.out | (dsimp only; exact SubC.out)) (ih1 (m - 1, row3) ⟨(by dsimp only; omega), hl3, hR1⟩ (by dsimp only; omega))
    · try simp only [decide_eq_true_eq, decide_eq_false_iff_not, Bool.not_eq_true', Bool.not_eq_false', Bool.and_eq_true, Bool.or_eq_true, Bool.and_eq_false_iff, Bool.or_eq_false_iff, Option.isNone_some, Option.isSome_some, Option.isNone_none, Option.isSome_none, Int.not_lt, Int.not_le, beq_iff_eq, beq_eq_false_iff_ne, bne_iff_ne, ne_eq, Bool.not_not, Decidable.not_not] at h20
      refine J.condF rfl rfl ?_
      refine J.exit rfl rfl ?_
      refine J.region rfl ?_
      refine JO.pur rfl rfl rfl (Pur.move rfl) ?_
      refine JO.pur rfl rfl rfl (Pur.move rfl) ?_
      refine JO.eff rfl rfl rfl (Eff.buildSlice rowBE [⟨some ⟨b16, 0, none⟩, xs.length, xs.length⟩] rfl rfl rfl rfl rfl rfl rfl) ?_
      rintro _ _ ⟨b60, rfl, -, rfl⟩
      refine JO.eff rfl rfl rfl (Eff.append rfl rfl rfl rfl (by first | rfl | omega | (simp; done) | (simp; omega)) (by first | rfl | omega | (simp; done) | (simp; omega)) (by decide) (by first | omega | (simp only [List.length_cons, List.length_nil]; omega) | (simp; omega)) (by first | omega | (simp only [List.length_cons, List.length_nil]; omega) | (simp; omega)) (fun h => by cases h)) ?_
      rintro _ _ ⟨a61, c61, rfl, rfl⟩
      refine JO.pur rfl rfl rfl (Pur.assign rfl) ?_
      refine JO.nil ?_
      refine J.inBlock ?_
      refine J.region rfl ?_
      refine JO.pur rfl rfl rfl (Pur.move rfl) ?_
      refine JO.pur rfl rfl rfl (Pur.add rfl rfl (wr64 (by omega))) ?_
      refine JO.pur rfl rfl rfl (Pur.assign rfl) ?_
      refine JO.nil ?_
      have hm0 : m = 0 := by omega
      subst hm0
      have hR0 := hR
      exact J.weaken (.cons rfl (by simp [hT]) (.cons rfl (congrArg (Value.int .i64) (by dsimp only; omega)) (.cons rfl rfl .nil))) (fun h s => by dsimp only; exact SubC.out h (snoc_row (E := boolE) (a := some ⟨b16, 0, none⟩) (n := xs.length) (cap := xs.length) (hs := hsT) hl.symm s)) (ih0 (k + 1, a61, c61, hsT ++ [⟨some ⟨b16, 0, none⟩, xs.length, xs.length⟩], tab ++ [row]) ⟨(by dsimp only; omega), (by simp [hT]), tab_next hU hl hR0 (by omega)⟩ (by dsimp only; omega))
  · try simp only [decide_eq_true_eq, decide_eq_false_iff_not, Bool.not_eq_true', Bool.not_eq_false', Bool.and_eq_true, Bool.or_eq_true, Bool.and_eq_false_iff, Bool.or_eq_false_iff, Option.isNone_some, Option.isSome_some, Option.isNone_none, Option.isSome_none, Int.not_lt, Int.not_le, beq_iff_eq, beq_eq_false_iff_ne, bne_iff_ne, ne_eq, Bool.not_not, Decidable.not_not] at h11
    refine J.condF rfl rfl ?_
    refine J.exit rfl rfl ?_
    refine J.seq rfl ?_
    refine J.region rfl ?_
    refine JO.pur rfl rfl rfl (Pur.move rfl) ?_
    refine JO.pur rfl rfl rfl (Pur.assign rfl) ?_
    refine JO.nil ?_
    refine J.ret rfl rfl ?_
    have hie : k = xs.length := by omega
    subst hie
    exact ⟨_, _, ⟨a3, c3, hsT, tab, hU, rfl, rfl⟩, rfl, SubC.out⟩

end Go.Proofs.Ytekgkamjbnfgiaa
