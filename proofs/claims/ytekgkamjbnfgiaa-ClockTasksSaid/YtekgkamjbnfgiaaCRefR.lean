/-
  A part of the proof of the claim that this folder bears.
  This text: CRefR.
-/
import Derived.Test.YtekgkamjbnfgiaaCStep
import Derived.Test.YtekgkamjbnfgiaaCLaw2
set_option linter.unusedVariables false
set_option linter.unusedSimpArgs false
namespace Go.Proofs.Ytekgkamjbnfgiaa
open Go Go.KK Ck

theorem size0 {s : ByteArray} (h : (s.size : Int) < 1) : s = (⟨#[]⟩ : ByteArray) := by
  obtain ⟨⟨l⟩⟩ := s
  have : l.length = 0 := by have h2 : (⟨⟨l⟩⟩ : ByteArray).size = l.length := rfl
                            omega
  rw [List.eq_nil_of_length_eq_zero this]
theorem sizeN {s : ByteArray} (h : 1 ≤ (s.size : Int)) : s ≠ (⟨#[]⟩ : ByteArray) := by
  rintro rfl; exact absurd h (by decide)
theorem hasCell_not {xs : List Evt} {c : Str} {i : Nat} (hi : i ≤ xs.length) (h : ¬ (i : Int) ≤ (firstGive xs c : Int)) : hasCell (Ck.seen (xs.take i)).given c = true := by
  cases hh : hasCell (Ck.seen (xs.take i)).given c with
  | true => rfl
  | false => have := (first_lt hi).1 hh; omega
theorem hasCell_yes {xs : List Evt} {c : Str} {i : Nat} (hi : i ≤ xs.length) (h : (i : Int) ≤ (firstGive xs c : Int)) : hasCell (Ck.seen (xs.take i)).given c = false := (first_lt hi).2 (by omega)
theorem right_no {xs : List Evt} {i : Nat} (h : i < xs.length) (h2 : okE (Ck.seen (xs.take i)) xs[i] = false) : rightB xs = false := by
  unfold rightB
  have := okUpto_not h h h2
  rw [← okB_iff] at this
  simp [this]
theorem right_yes {xs : List Evt} (h : xs.length ≤ 2000) (h2 : okUpto xs xs.length) : rightB xs = true := by
  unfold rightB; rw [(okB_iff _ _).2 h2]; simp [h]
theorem right_long {xs : List Evt} (h : 2000 < xs.length) : rightB xs = false := by
  unfold rightB; rw [decide_eq_false (by omega)]; rfl

theorem rright_ok {L : List Asn} {b : Option Addr} {n cp : Nat} {xs : List Evt} [SlIn evE L b xs] (hn : n = xs.length) (hb : xs.length ≤ 9223372036854775807) :
    CallS Try.prog 17 [.slice b n cp].toArray L (fun v M => v = .bool (rightB xs) ∧ M = L) := by
  subst hn
  refine CallS.ent ?_
  refine CallS.enter Try.func17 rfl rfl rfl rfl rfl ?_
  refine J.seq rfl ?_
  refine J.region rfl ?_
  refine JO.pur rfl rfl rfl (Pur.assign rfl) ?_
  refine JO.nil ?_
  refine J.seq rfl ?_
  refine J.seq rfl ?_
  refine J.region rfl ?_
  refine JO.pur rfl rfl rfl (Pur.move rfl) ?_
  refine JO.pur rfl rfl rfl (Pur.len rfl) ?_
  refine JO.pur rfl rfl rfl (Pur.gtr rfl rfl) ?_
  refine JO.nil ?_
  refine J.splitB 8 rfl (fun h8 => ?_) (fun h8 => ?_)
  · try simp only [decide_eq_true_eq, decide_eq_false_iff_not, Bool.not_eq_true', Bool.not_eq_false', Bool.and_eq_true, Bool.or_eq_true, Bool.and_eq_false_iff, Bool.or_eq_false_iff, Option.isNone_some, Option.isSome_some, Option.isNone_none, Option.isSome_none, Int.not_lt, Int.not_le, beq_iff_eq, beq_eq_false_iff_ne, bne_iff_ne, ne_eq, Bool.not_not, Decidable.not_not] at h8
    refine J.condT rfl rfl ?_
    refine J.seq rfl ?_
    refine J.region rfl ?_
    refine JO.pur rfl rfl rfl (Pur.assign rfl) ?_
    refine JO.nil ?_
    refine J.ret rfl rfl ?_
    exact ⟨_, _, ⟨rfl, rfl⟩, congrArg Value.bool (right_long (by omega)).symm, fun h hs => hs⟩
  · try simp only [decide_eq_true_eq, decide_eq_false_iff_not, Bool.not_eq_true', Bool.not_eq_false', Bool.and_eq_true, Bool.or_eq_true, Bool.and_eq_false_iff, Bool.or_eq_false_iff, Option.isNone_some, Option.isSome_some, Option.isNone_none, Option.isSome_none, Int.not_lt, Int.not_le, beq_iff_eq, beq_eq_false_iff_ne, bne_iff_ne, ne_eq, Bool.not_not, Decidable.not_not] at h8
    refine J.condF rfl rfl ?_
    refine J.skip rfl ?_
    refine J.seq rfl ?_
    refine J.region rfl ?_
    refine JO.eff rfl rfl rfl (Eff.buildSlice boolE [false] rfl rfl rfl rfl rfl rfl rfl) ?_
    rintro _ _ ⟨b9, rfl, -, rfl⟩
    refine JO.pur rfl rfl rfl (Pur.assign rfl) ?_
    refine JO.nil ?_
    refine J.seq rfl ?_
    refine J.seq rfl ?_
    refine J.region rfl ?_
    refine JO.pur rfl rfl rfl (Pur.assign rfl) ?_
    refine JO.nil ?_
    refine J.block rfl ?_
    refine J.loopF (ι := Nat × Option Addr × Nat) (fun i => i.1 ≤ xs.length ∧ okUpto xs i.1 ∧ (Ck.seen (xs.take i.1)).joined.length ≤ i.1 + 1) (fun i => [(3, .slice i.2.1 (Ck.seen (xs.take i.1)).joined.length i.2.2), (4, .int .i64 (i.1 : Int))]) [(0, _)] (fun i => sl boolE i.2.1 i.2.2 (Ck.seen (xs.take i.1)).joined :: L) (fun i => xs.length - i.1) (0, some ⟨b9, 0, none⟩, 1) rfl (.cons rfl rfl .nil) (.cons rfl rfl (.cons rfl rfl .nil)) (by first | exact fun _ h => h | exact SubC.out | (dsimp only; exact SubC.out)) ⟨Nat.zero_le _, trivial, Nat.le_refl _⟩ ?_
    rintro ⟨i, a0, cap0⟩ ⟨hi, hok, hj0⟩ ih0
    try dsimp only
    dsimp only at hi hok hj0
    have hS : ∀ j : Nat, j < i + 1 → True := fun _ _ => trivial
    refine J.seq rfl ?_
    refine J.seq rfl ?_
    refine J.region rfl ?_
    refine JO.pur rfl rfl rfl (Pur.move rfl) ?_
    refine JO.pur rfl rfl rfl (Pur.move rfl) ?_
    refine JO.pur rfl rfl rfl (Pur.len rfl) ?_
    refine JO.pur rfl rfl rfl (Pur.lss rfl rfl) ?_
    refine JO.nil ?_
    refine J.splitB 13 rfl (fun h13 => ?_) (fun h13 => ?_)
    · try simp only [decide_eq_true_eq, decide_eq_false_iff_not, Bool.not_eq_true', Bool.not_eq_false', Bool.and_eq_true, Bool.or_eq_true, Bool.and_eq_false_iff, Bool.or_eq_false_iff, Option.isNone_some, Option.isSome_some, Option.isNone_none, Option.isSome_none, Int.not_lt, Int.not_le, beq_iff_eq, beq_eq_false_iff_ne, bne_iff_ne, ne_eq, Bool.not_not, Decidable.not_not] at h13
      refine J.condT rfl rfl ?_
      refine J.skip rfl ?_
      refine J.seq rfl ?_
      refine J.block rfl ?_
      refine J.seq rfl ?_
      refine J.region rfl ?_
      refine JO.pur rfl rfl rfl (Pur.move rfl) ?_
      refine JO.pur rfl rfl rfl (Pur.move rfl) ?_
      refine JO.pur rfl rfl rfl (Pur.idx rfl rfl rfl (by first | rfl | (simp; done) | omega) (by first | rfl | exact (Int.toNat_of_nonneg (by omega)).symm) (by first | omega | (simp only [List.length_map]; omega) | (simp; omega))) ?_
      refine JO.pur rfl rfl rfl (Pur.loadA rfl rfl rfl (CellsIn.el rfl (List.getElem?_eq_getElem (by omega)))) ?_
      refine JO.eff rfl rfl rfl (Eff.alloc (cs := [_, _, _, _]) rfl) ?_
      rintro _ _ ⟨b5, rfl, rfl⟩
      refine JO.effN rfl rfl (Eff.storeBA (cs' := [_, _, _, _]) rfl rfl (by rfl) (by rfl) (by rfl)) ?_
      rintro _ _ ⟨rfl, rfl⟩
      refine JO.nil ?_
      refine J.seq rfl ?_
      refine J.seq rfl ?_
      refine J.region rfl ?_
      refine JO.pur rfl rfl rfl (Pur.fieldAddr rfl) ?_
      refine JO.pur rfl rfl rfl (Pur.load rfl (CellIn.blk rfl)) ?_
      refine JO.pur rfl rfl rfl (Pur.lss rfl rfl) ?_
      refine JO.pur rfl rfl rfl (Pur.move rfl) ?_
      refine JO.splitB 23 rfl (fun h23 => ?_) (fun h23 => ?_)
      · try simp only [decide_eq_true_eq, decide_eq_false_iff_not, Bool.not_eq_true', Bool.not_eq_false', Bool.and_eq_true, Bool.or_eq_true, Bool.and_eq_false_iff, Bool.or_eq_false_iff, Option.isNone_some, Option.isSome_some, Option.isNone_none, Option.isSome_none, Int.not_lt, Int.not_le, beq_iff_eq, beq_eq_false_iff_ne, bne_iff_ne, ne_eq, Bool.not_not, Decidable.not_not] at h23
        refine JO.no rfl rfl rfl ?_
        refine JO.no rfl rfl rfl ?_
        refine JO.no rfl rfl rfl ?_
        refine JO.no rfl rfl rfl ?_
        refine JO.no rfl rfl rfl ?_
        refine JO.pur rfl rfl rfl (Pur.pickT rfl rfl) ?_
        refine JO.pur rfl rfl rfl (Pur.move rfl) ?_
        refine JO.no rfl rfl rfl ?_
        refine JO.no rfl rfl rfl ?_
        refine JO.no rfl rfl rfl ?_
        refine JO.no rfl rfl rfl ?_
        refine JO.no rfl rfl rfl ?_
        refine JO.pur rfl rfl rfl (Pur.pickT rfl rfl) ?_
        refine JO.nil ?_
        refine J.condT rfl rfl ?_
        refine J.seq rfl ?_
        refine J.region rfl ?_
        refine JO.pur rfl rfl rfl (Pur.assign rfl) ?_
        refine JO.nil ?_
        refine J.ret rfl rfl ?_
        exact ⟨_, _, ⟨rfl, rfl⟩, congrArg Value.bool (right_no (i := i) (by omega) (ok_bad (.inl h23))).symm, SubC.out⟩
      · try simp only [decide_eq_true_eq, decide_eq_false_iff_not, Bool.not_eq_true', Bool.not_eq_false', Bool.and_eq_true, Bool.or_eq_true, Bool.and_eq_false_iff, Bool.or_eq_false_iff, Option.isNone_some, Option.isSome_some, Option.isNone_none, Option.isSome_none, Int.not_lt, Int.not_le, beq_iff_eq, beq_eq_false_iff_ne, bne_iff_ne, ne_eq, Bool.not_not, Decidable.not_not] at h23
        refine JO.pur rfl rfl rfl (Pur.fieldAddr rfl) ?_
        refine JO.pur rfl rfl rfl (Pur.load rfl (CellIn.blk rfl)) ?_
        refine JO.pur rfl rfl rfl (Pur.move rfl) ?_
        refine JO.pur rfl rfl rfl (Pur.len rfl) ?_
        refine JO.pur rfl rfl rfl (Pur.geq rfl rfl) ?_
        refine JO.pur rfl rfl rfl (Pur.pickF rfl rfl) ?_
        refine JO.pur rfl rfl rfl (Pur.move rfl) ?_
        refine JO.splitB 30 rfl (fun h30 => ?_) (fun h30 => ?_)
        · try simp only [decide_eq_true_eq, decide_eq_false_iff_not, Bool.not_eq_true', Bool.not_eq_false', Bool.and_eq_true, Bool.or_eq_true, Bool.and_eq_false_iff, Bool.or_eq_false_iff, Option.isNone_some, Option.isSome_some, Option.isNone_none, Option.isSome_none, Int.not_lt, Int.not_le, beq_iff_eq, beq_eq_false_iff_ne, bne_iff_ne, ne_eq, Bool.not_not, Decidable.not_not] at h30
          refine JO.no rfl rfl rfl ?_
          refine JO.no rfl rfl rfl ?_
          refine JO.no rfl rfl rfl ?_
          refine JO.no rfl rfl rfl ?_
          refine JO.no rfl rfl rfl ?_
          refine JO.pur rfl rfl rfl (Pur.pickT rfl rfl) ?_
          refine JO.nil ?_
          refine J.condT rfl rfl ?_
          refine J.seq rfl ?_
          refine J.region rfl ?_
          refine JO.pur rfl rfl rfl (Pur.assign rfl) ?_
          refine JO.nil ?_
          refine J.ret rfl rfl ?_
          exact ⟨_, _, ⟨rfl, rfl⟩, congrArg Value.bool (right_no (i := i) (by omega) (ok_bad (.inr (.inl h30)))).symm, SubC.out⟩
        · try simp only [decide_eq_true_eq, decide_eq_false_iff_not, Bool.not_eq_true', Bool.not_eq_false', Bool.and_eq_true, Bool.or_eq_true, Bool.and_eq_false_iff, Bool.or_eq_false_iff, Option.isNone_some, Option.isSome_some, Option.isNone_none, Option.isSome_none, Int.not_lt, Int.not_le, beq_iff_eq, beq_eq_false_iff_ne, bne_iff_ne, ne_eq, Bool.not_not, Decidable.not_not] at h30
          refine JO.pur rfl rfl rfl (Pur.move rfl) ?_
          refine JO.pur rfl rfl rfl (Pur.fieldAddr rfl) ?_
          refine JO.pur rfl rfl rfl (Pur.load rfl (CellIn.blk rfl)) ?_
          refine JO.pur rfl rfl rfl (Pur.idx rfl rfl rfl (by first | rfl | (simp; done) | omega) (Int.toNat_of_nonneg (by omega)).symm (by omega)) ?_
          refine JO.pur rfl rfl rfl (Pur.load rfl (CellIn.el0 rfl (getD_get (d := true) (by omega)) rfl)) ?_
          refine JO.pur rfl rfl rfl (Pur.pickF rfl rfl) ?_
          refine JO.nil ?_
          refine J.splitB 36 rfl (fun h36 => ?_) (fun h36 => ?_)
          · try simp only [decide_eq_true_eq, decide_eq_false_iff_not, Bool.not_eq_true', Bool.not_eq_false', Bool.and_eq_true, Bool.or_eq_true, Bool.and_eq_false_iff, Bool.or_eq_false_iff, Option.isNone_some, Option.isSome_some, Option.isNone_none, Option.isSome_none, Int.not_lt, Int.not_le, beq_iff_eq, beq_eq_false_iff_ne, bne_iff_ne, ne_eq, Bool.not_not, Decidable.not_not] at h36
            refine J.condT rfl rfl ?_
            refine J.seq rfl ?_
            refine J.region rfl ?_
            refine JO.pur rfl rfl rfl (Pur.assign rfl) ?_
            refine JO.nil ?_
            refine J.ret rfl rfl ?_
            exact ⟨_, _, ⟨rfl, rfl⟩, congrArg Value.bool (right_no (i := i) (by omega) (ok_bad (.inr (.inr h36)))).symm, SubC.out⟩
          · try simp only [decide_eq_true_eq, decide_eq_false_iff_not, Bool.not_eq_true', Bool.not_eq_false', Bool.and_eq_true, Bool.or_eq_true, Bool.and_eq_false_iff, Bool.or_eq_false_iff, Option.isNone_some, Option.isSome_some, Option.isNone_none, Option.isSome_none, Int.not_lt, Int.not_le, beq_iff_eq, beq_eq_false_iff_ne, bne_iff_ne, ne_eq, Bool.not_not, Decidable.not_not] at h36
            refine J.condF rfl rfl ?_
            refine J.skip rfl ?_
            refine J.block rfl ?_
            refine J.seq rfl ?_
            refine J.region rfl ?_
            refine JO.pur rfl rfl rfl (Pur.fieldAddr rfl) ?_
            refine JO.pur rfl rfl rfl (Pur.load rfl (CellIn.blk rfl)) ?_
            refine JO.pur rfl rfl rfl (Pur.eqlT rfl rfl) ?_
            refine JO.pur rfl rfl rfl (Pur.assign rfl) ?_
            refine JO.nil ?_
            refine J.splitB 37 rfl (fun h37 => ?_) (fun h37 => ?_)
            · try simp only [decide_eq_true_eq, decide_eq_false_iff_not, Bool.not_eq_true', Bool.not_eq_false', Bool.and_eq_true, Bool.or_eq_true, Bool.and_eq_false_iff, Bool.or_eq_false_iff, Option.isNone_some, Option.isSome_some, Option.isNone_none, Option.isSome_none, Int.not_lt, Int.not_le, beq_iff_eq, beq_eq_false_iff_ne, bne_iff_ne, ne_eq, Bool.not_not, Decidable.not_not] at h37
              refine J.condT rfl rfl ?_
              refine J.seq rfl ?_
              refine J.seq rfl ?_
              refine J.region rfl ?_
              refine JO.pur rfl rfl rfl (Pur.fieldAddr rfl) ?_
              refine JO.pur rfl rfl rfl (Pur.load rfl (CellIn.blk rfl)) ?_
              refine JO.pur rfl rfl rfl (Pur.move rfl) ?_
              refine JO.pur rfl rfl rfl (Pur.len rfl) ?_
              refine JO.pur rfl rfl rfl (Pur.neqI rfl rfl) ?_
              refine JO.pur rfl rfl rfl (Pur.move rfl) ?_
              refine JO.splitB 46 rfl (fun h46 => ?_) (fun h46 => ?_)
              · try simp only [decide_eq_true_eq, decide_eq_false_iff_not, Bool.not_eq_true', Bool.not_eq_false', Bool.and_eq_true, Bool.or_eq_true, Bool.and_eq_false_iff, Bool.or_eq_false_iff, Option.isNone_some, Option.isSome_some, Option.isNone_none, Option.isSome_none, Int.not_lt, Int.not_le, beq_iff_eq, beq_eq_false_iff_ne, bne_iff_ne, ne_eq, Bool.not_not, Decidable.not_not] at h46
                refine JO.no rfl rfl rfl ?_
                refine JO.no rfl rfl rfl ?_
                refine JO.no rfl rfl rfl ?_
                refine JO.pur rfl rfl rfl (Pur.pickT rfl rfl) ?_
                refine JO.nil ?_
                refine J.condT rfl rfl ?_
                refine J.seq rfl ?_
                refine J.region rfl ?_
                refine JO.pur rfl rfl rfl (Pur.assign rfl) ?_
                refine JO.nil ?_
                refine J.ret rfl rfl ?_
                have hA0 : ¬ noTask (Ck.seen (xs.take i)) xs[i] := by unfold noTask; simp only [not_or]; exact ⟨by omega, by omega, by simpa using h36⟩
                have hF : xs[i].act = sFork := h37
                exact ⟨_, _, ⟨rfl, rfl⟩, congrArg Value.bool (right_no (i := i) (by omega) (by rw [ok_fork hA0 hF, decide_eq_false h46]; rfl)).symm, SubC.out⟩
              · try simp only [decide_eq_true_eq, decide_eq_false_iff_not, Bool.not_eq_true', Bool.not_eq_false', Bool.and_eq_true, Bool.or_eq_true, Bool.and_eq_false_iff, Bool.or_eq_false_iff, Option.isNone_some, Option.isSome_some, Option.isNone_none, Option.isSome_none, Int.not_lt, Int.not_le, beq_iff_eq, beq_eq_false_iff_ne, bne_iff_ne, ne_eq, Bool.not_not, Decidable.not_not] at h46
                refine JO.pur rfl rfl rfl (Pur.fieldAddr rfl) ?_
                refine JO.pur rfl rfl rfl (Pur.load rfl (CellIn.blk rfl)) ?_
                refine JO.pur rfl rfl rfl (Pur.neqT rfl rfl) ?_
                refine JO.pur rfl rfl rfl (Pur.pickF rfl rfl) ?_
                refine JO.nil ?_
                refine J.splitB 50 rfl (fun h50 => ?_) (fun h50 => ?_)
                · try simp only [decide_eq_true_eq, decide_eq_false_iff_not, Bool.not_eq_true', Bool.not_eq_false', Bool.and_eq_true, Bool.or_eq_true, Bool.and_eq_false_iff, Bool.or_eq_false_iff, Option.isNone_some, Option.isSome_some, Option.isNone_none, Option.isSome_none, Int.not_lt, Int.not_le, beq_iff_eq, beq_eq_false_iff_ne, bne_iff_ne, ne_eq, Bool.not_not, Decidable.not_not] at h50
                  refine J.condT rfl rfl ?_
                  refine J.seq rfl ?_
                  refine J.region rfl ?_
                  refine JO.pur rfl rfl rfl (Pur.assign rfl) ?_
                  refine JO.nil ?_
                  refine J.ret rfl rfl ?_
                  have hA0 : ¬ noTask (Ck.seen (xs.take i)) xs[i] := by unfold noTask; simp only [not_or]; exact ⟨by omega, by omega, by simpa using h36⟩
                  have hF : xs[i].act = sFork := h37
                  exact ⟨_, _, ⟨rfl, rfl⟩, congrArg Value.bool (right_no (i := i) (by omega) (by rw [ok_fork hA0 hF, decide_eq_false (p := xs[i].cell = (⟨#[]⟩ : ByteArray)) h50, Bool.and_false])).symm, SubC.out⟩
                · try simp only [decide_eq_true_eq, decide_eq_false_iff_not, Bool.not_eq_true', Bool.not_eq_false', Bool.and_eq_true, Bool.or_eq_true, Bool.and_eq_false_iff, Bool.or_eq_false_iff, Option.isNone_some, Option.isSome_some, Option.isNone_none, Option.isSome_none, Int.not_lt, Int.not_le, beq_iff_eq, beq_eq_false_iff_ne, bne_iff_ne, ne_eq, Bool.not_not, Decidable.not_not] at h50
                  refine J.condF rfl rfl ?_
                  refine J.skip rfl ?_
                  refine J.region rfl ?_
                  refine JO.pur rfl rfl rfl (Pur.move rfl) ?_
                  refine JO.eff rfl rfl rfl (Eff.buildSlice boolE [false] rfl rfl rfl rfl rfl rfl rfl) ?_
                  rintro _ _ ⟨b52, rfl, -, rfl⟩
                  refine JO.eff rfl rfl rfl (Eff.append rfl rfl rfl rfl (by first | rfl | omega | (simp; done) | (simp; omega)) (by first | rfl | omega | (simp; done) | (simp; omega)) (by decide) (by first | omega | (simp only [List.length_cons, List.length_nil]; omega) | (simp; omega)) (by first | omega | (simp only [List.length_cons, List.length_nil]; omega) | (simp; omega)) (fun h => by cases h)) ?_
                  rintro _ _ ⟨a53, c53, rfl, rfl⟩
                  refine JO.pur rfl rfl rfl (Pur.assign rfl) ?_
                  refine JO.nil ?_
                  refine J.inBlock ?_
                  refine J.inBlock ?_
                  refine J.region rfl ?_
                  refine JO.pur rfl rfl rfl (Pur.move rfl) ?_
                  refine JO.pur rfl rfl rfl (Pur.add rfl rfl (wr64 (by omega))) ?_
                  refine JO.pur rfl rfl rfl (Pur.assign rfl) ?_
                  refine JO.nil ?_
                  have hA0 : ¬ noTask (Ck.seen (xs.take i)) xs[i] := by unfold noTask; simp only [not_or]; exact ⟨by omega, by omega, by simpa using h36⟩
                  have hF : xs[i].act = sFork := h37
                  have hk : okE (Ck.seen (xs.take i)) xs[i] = true := by rw [ok_fork hA0 hF, decide_eq_true h46, decide_eq_true (p := xs[i].cell = (⟨#[]⟩ : ByteArray)) h50]; rfl
                  have hA := congrArg Seen.joined (af_fork (s := (Ck.seen (xs.take i))) hF)
                  have hlen : (Ck.seen (xs.take i)).joined.length + [false].length = ((Ck.seen (xs.take i)).joined ++ [false]).length := by simp
                  exact J.weaken (.cons rfl (by dsimp only; rw [← seen_next (by omega), hA, hlen]) (.cons rfl (congrArg (Value.int .i64) (by dsimp only; omega)) (.cons rfl rfl .nil))) (fun h hs => by dsimp only; rw [← seen_next (by omega), hA]; exact SubC.out h hs) (ih0 (i + 1, a53, c53) ⟨(by dsimp only; omega), okUpto_next (by omega) hok hk, (by dsimp only; rw [← seen_next (by omega)]; have := after_len (Ck.seen (xs.take i)) xs[i]; omega)⟩ (by dsimp only; omega))
            · try simp only [decide_eq_true_eq, decide_eq_false_iff_not, Bool.not_eq_true', Bool.not_eq_false', Bool.and_eq_true, Bool.or_eq_true, Bool.and_eq_false_iff, Bool.or_eq_false_iff, Option.isNone_some, Option.isSome_some, Option.isNone_none, Option.isSome_none, Int.not_lt, Int.not_le, beq_iff_eq, beq_eq_false_iff_ne, bne_iff_ne, ne_eq, Bool.not_not, Decidable.not_not] at h37
              refine J.condF rfl rfl ?_
              refine J.seq rfl ?_
              refine J.region rfl ?_
              refine JO.pur rfl rfl rfl (Pur.fieldAddr rfl) ?_
              refine JO.pur rfl rfl rfl (Pur.load rfl (CellIn.blk rfl)) ?_
              refine JO.pur rfl rfl rfl (Pur.eqlT rfl rfl) ?_
              refine JO.pur rfl rfl rfl (Pur.assign rfl) ?_
              refine JO.nil ?_
              refine J.splitB 54 rfl (fun h54 => ?_) (fun h54 => ?_)
              · try simp only [decide_eq_true_eq, decide_eq_false_iff_not, Bool.not_eq_true', Bool.not_eq_false', Bool.and_eq_true, Bool.or_eq_true, Bool.and_eq_false_iff, Bool.or_eq_false_iff, Option.isNone_some, Option.isSome_some, Option.isNone_none, Option.isSome_none, Int.not_lt, Int.not_le, beq_iff_eq, beq_eq_false_iff_ne, bne_iff_ne, ne_eq, Bool.not_not, Decidable.not_not] at h54
                refine J.condT rfl rfl ?_
                refine J.seq rfl ?_
                refine J.seq rfl ?_
                refine J.region rfl ?_
                refine JO.pur rfl rfl rfl (Pur.fieldAddr rfl) ?_
                refine JO.pur rfl rfl rfl (Pur.load rfl (CellIn.blk rfl)) ?_
                refine JO.pur rfl rfl rfl (Pur.lss rfl rfl) ?_
                refine JO.pur rfl rfl rfl (Pur.move rfl) ?_
                refine JO.splitB 61 rfl (fun h61 => ?_) (fun h61 => ?_)
                · try simp only [decide_eq_true_eq, decide_eq_false_iff_not, Bool.not_eq_true', Bool.not_eq_false', Bool.and_eq_true, Bool.or_eq_true, Bool.and_eq_false_iff, Bool.or_eq_false_iff, Option.isNone_some, Option.isSome_some, Option.isNone_none, Option.isSome_none, Int.not_lt, Int.not_le, beq_iff_eq, beq_eq_false_iff_ne, bne_iff_ne, ne_eq, Bool.not_not, Decidable.not_not] at h61
                  refine JO.no rfl rfl rfl ?_
                  refine JO.no rfl rfl rfl ?_
                  refine JO.no rfl rfl rfl ?_
                  refine JO.no rfl rfl rfl ?_
                  refine JO.no rfl rfl rfl ?_
                  refine JO.pur rfl rfl rfl (Pur.pickT rfl rfl) ?_
                  refine JO.pur rfl rfl rfl (Pur.move rfl) ?_
                  refine JO.no rfl rfl rfl ?_
                  refine JO.no rfl rfl rfl ?_
                  refine JO.no rfl rfl rfl ?_
                  refine JO.no rfl rfl rfl ?_
                  refine JO.no rfl rfl rfl ?_
                  refine JO.pur rfl rfl rfl (Pur.pickT rfl rfl) ?_
                  refine JO.pur rfl rfl rfl (Pur.move rfl) ?_
                  refine JO.no rfl rfl rfl ?_
                  refine JO.no rfl rfl rfl ?_
                  refine JO.no rfl rfl rfl ?_
                  refine JO.no rfl rfl rfl ?_
                  refine JO.no rfl rfl rfl ?_
                  refine JO.pur rfl rfl rfl (Pur.pickT rfl rfl) ?_
                  refine JO.pur rfl rfl rfl (Pur.move rfl) ?_
                  refine JO.no rfl rfl rfl ?_
                  refine JO.no rfl rfl rfl ?_
                  refine JO.no rfl rfl rfl ?_
                  refine JO.pur rfl rfl rfl (Pur.pickT rfl rfl) ?_
                  refine JO.nil ?_
                  refine J.condT rfl rfl ?_
                  refine J.seq rfl ?_
                  refine J.region rfl ?_
                  refine JO.pur rfl rfl rfl (Pur.assign rfl) ?_
                  refine JO.nil ?_
                  refine J.ret rfl rfl ?_
                  have hF : xs[i].act ≠ sFork := h37
                  have hJ : xs[i].act = sJoin := h54
                  have hA0 : ¬ noTask (Ck.seen (xs.take i)) xs[i] := by unfold noTask; simp only [not_or]; exact ⟨by omega, by omega, by simpa using h36⟩
                  exact ⟨_, _, ⟨rfl, rfl⟩, congrArg Value.bool (right_no (i := i) (by omega) (by rw [ok_join hA0 hF hJ, decide_eq_false (p := 0 ≤ xs[i].other) (by omega)]; simp)).symm, SubC.out⟩
                · try simp only [decide_eq_true_eq, decide_eq_false_iff_not, Bool.not_eq_true', Bool.not_eq_false', Bool.and_eq_true, Bool.or_eq_true, Bool.and_eq_false_iff, Bool.or_eq_false_iff, Option.isNone_some, Option.isSome_some, Option.isNone_none, Option.isSome_none, Int.not_lt, Int.not_le, beq_iff_eq, beq_eq_false_iff_ne, bne_iff_ne, ne_eq, Bool.not_not, Decidable.not_not] at h61
                  refine JO.pur rfl rfl rfl (Pur.fieldAddr rfl) ?_
                  refine JO.pur rfl rfl rfl (Pur.load rfl (CellIn.blk rfl)) ?_
                  refine JO.pur rfl rfl rfl (Pur.move rfl) ?_
                  refine JO.pur rfl rfl rfl (Pur.len rfl) ?_
                  refine JO.pur rfl rfl rfl (Pur.geq rfl rfl) ?_
                  refine JO.pur rfl rfl rfl (Pur.pickF rfl rfl) ?_
                  refine JO.pur rfl rfl rfl (Pur.move rfl) ?_
                  refine JO.splitB 68 rfl (fun h68 => ?_) (fun h68 => ?_)
                  · try simp only [decide_eq_true_eq, decide_eq_false_iff_not, Bool.not_eq_true', Bool.not_eq_false', Bool.and_eq_true, Bool.or_eq_true, Bool.and_eq_false_iff, Bool.or_eq_false_iff, Option.isNone_some, Option.isSome_some, Option.isNone_none, Option.isSome_none, Int.not_lt, Int.not_le, beq_iff_eq, beq_eq_false_iff_ne, bne_iff_ne, ne_eq, Bool.not_not, Decidable.not_not] at h68
                    refine JO.no rfl rfl rfl ?_
                    refine JO.no rfl rfl rfl ?_
                    refine JO.no rfl rfl rfl ?_
                    refine JO.no rfl rfl rfl ?_
                    refine JO.no rfl rfl rfl ?_
                    refine JO.pur rfl rfl rfl (Pur.pickT rfl rfl) ?_
                    refine JO.pur rfl rfl rfl (Pur.move rfl) ?_
                    refine JO.no rfl rfl rfl ?_
                    refine JO.no rfl rfl rfl ?_
                    refine JO.no rfl rfl rfl ?_
                    refine JO.no rfl rfl rfl ?_
                    refine JO.no rfl rfl rfl ?_
                    refine JO.pur rfl rfl rfl (Pur.pickT rfl rfl) ?_
                    refine JO.pur rfl rfl rfl (Pur.move rfl) ?_
                    refine JO.no rfl rfl rfl ?_
                    refine JO.no rfl rfl rfl ?_
                    refine JO.no rfl rfl rfl ?_
                    refine JO.pur rfl rfl rfl (Pur.pickT rfl rfl) ?_
                    refine JO.nil ?_
                    refine J.condT rfl rfl ?_
                    refine J.seq rfl ?_
                    refine J.region rfl ?_
                    refine JO.pur rfl rfl rfl (Pur.assign rfl) ?_
                    refine JO.nil ?_
                    refine J.ret rfl rfl ?_
                    have hF : xs[i].act ≠ sFork := h37
                    have hJ : xs[i].act = sJoin := h54
                    have hA0 : ¬ noTask (Ck.seen (xs.take i)) xs[i] := by unfold noTask; simp only [not_or]; exact ⟨by omega, by omega, by simpa using h36⟩
                    exact ⟨_, _, ⟨rfl, rfl⟩, congrArg Value.bool (right_no (i := i) (by omega) (by rw [ok_join hA0 hF hJ, decide_eq_false (p := xs[i].other < ((Ck.seen (xs.take i)).joined.length : Int)) (by omega)]; simp)).symm, SubC.out⟩
                  · try simp only [decide_eq_true_eq, decide_eq_false_iff_not, Bool.not_eq_true', Bool.not_eq_false', Bool.and_eq_true, Bool.or_eq_true, Bool.and_eq_false_iff, Bool.or_eq_false_iff, Option.isNone_some, Option.isSome_some, Option.isNone_none, Option.isSome_none, Int.not_lt, Int.not_le, beq_iff_eq, beq_eq_false_iff_ne, bne_iff_ne, ne_eq, Bool.not_not, Decidable.not_not] at h68
                    refine JO.pur rfl rfl rfl (Pur.fieldAddr rfl) ?_
                    refine JO.pur rfl rfl rfl (Pur.load rfl (CellIn.blk rfl)) ?_
                    refine JO.pur rfl rfl rfl (Pur.fieldAddr rfl) ?_
                    refine JO.pur rfl rfl rfl (Pur.load rfl (CellIn.blk rfl)) ?_
                    refine JO.pur rfl rfl rfl (Pur.eqlI rfl rfl) ?_
                    refine JO.pur rfl rfl rfl (Pur.pickF rfl rfl) ?_
                    refine JO.pur rfl rfl rfl (Pur.move rfl) ?_
                    refine JO.splitB 75 rfl (fun h75 => ?_) (fun h75 => ?_)
                    · try simp only [decide_eq_true_eq, decide_eq_false_iff_not, Bool.not_eq_true', Bool.not_eq_false', Bool.and_eq_true, Bool.or_eq_true, Bool.and_eq_false_iff, Bool.or_eq_false_iff, Option.isNone_some, Option.isSome_some, Option.isNone_none, Option.isSome_none, Int.not_lt, Int.not_le, beq_iff_eq, beq_eq_false_iff_ne, bne_iff_ne, ne_eq, Bool.not_not, Decidable.not_not] at h75
                      refine JO.no rfl rfl rfl ?_
                      refine JO.no rfl rfl rfl ?_
                      refine JO.no rfl rfl rfl ?_
                      refine JO.no rfl rfl rfl ?_
                      refine JO.no rfl rfl rfl ?_
                      refine JO.pur rfl rfl rfl (Pur.pickT rfl rfl) ?_
                      refine JO.pur rfl rfl rfl (Pur.move rfl) ?_
                      refine JO.no rfl rfl rfl ?_
                      refine JO.no rfl rfl rfl ?_
                      refine JO.no rfl rfl rfl ?_
                      refine JO.pur rfl rfl rfl (Pur.pickT rfl rfl) ?_
                      refine JO.nil ?_
                      refine J.condT rfl rfl ?_
                      refine J.seq rfl ?_
                      refine J.region rfl ?_
                      refine JO.pur rfl rfl rfl (Pur.assign rfl) ?_
                      refine JO.nil ?_
                      refine J.ret rfl rfl ?_
                      have hF : xs[i].act ≠ sFork := h37
                      have hJ : xs[i].act = sJoin := h54
                      have hA0 : ¬ noTask (Ck.seen (xs.take i)) xs[i] := by unfold noTask; simp only [not_or]; exact ⟨by omega, by omega, by simpa using h36⟩
                      exact ⟨_, _, ⟨rfl, rfl⟩, congrArg Value.bool (right_no (i := i) (by omega) (by rw [ok_join hA0 hF hJ, decide_eq_false (p := xs[i].other ≠ xs[i].task) (by omega)]; simp)).symm, SubC.out⟩
                    · try simp only [decide_eq_true_eq, decide_eq_false_iff_not, Bool.not_eq_true', Bool.not_eq_false', Bool.and_eq_true, Bool.or_eq_true, Bool.and_eq_false_iff, Bool.or_eq_false_iff, Option.isNone_some, Option.isSome_some, Option.isNone_none, Option.isSome_none, Int.not_lt, Int.not_le, beq_iff_eq, beq_eq_false_iff_ne, bne_iff_ne, ne_eq, Bool.not_not, Decidable.not_not] at h75
                      refine JO.pur rfl rfl rfl (Pur.move rfl) ?_
                      refine JO.pur rfl rfl rfl (Pur.fieldAddr rfl) ?_
                      refine JO.pur rfl rfl rfl (Pur.load rfl (CellIn.blk rfl)) ?_
                      refine JO.pur rfl rfl rfl (Pur.idx rfl rfl rfl (by first | rfl | (simp; done) | omega) (Int.toNat_of_nonneg (by omega)).symm (by omega)) ?_
                      refine JO.pur rfl rfl rfl (Pur.load rfl (CellIn.el0 rfl (getD_get (d := true) (by omega)) rfl)) ?_
                      refine JO.pur rfl rfl rfl (Pur.pickF rfl rfl) ?_
                      refine JO.pur rfl rfl rfl (Pur.move rfl) ?_
                      refine JO.splitB 82 rfl (fun h82 => ?_) (fun h82 => ?_)
                      · try simp only [decide_eq_true_eq, decide_eq_false_iff_not, Bool.not_eq_true', Bool.not_eq_false', Bool.and_eq_true, Bool.or_eq_true, Bool.and_eq_false_iff, Bool.or_eq_false_iff, Option.isNone_some, Option.isSome_some, Option.isNone_none, Option.isSome_none, Int.not_lt, Int.not_le, beq_iff_eq, beq_eq_false_iff_ne, bne_iff_ne, ne_eq, Bool.not_not, Decidable.not_not] at h82
                        refine JO.no rfl rfl rfl ?_
                        refine JO.no rfl rfl rfl ?_
                        refine JO.no rfl rfl rfl ?_
                        refine JO.pur rfl rfl rfl (Pur.pickT rfl rfl) ?_
                        refine JO.nil ?_
                        refine J.condT rfl rfl ?_
                        refine J.seq rfl ?_
                        refine J.region rfl ?_
                        refine JO.pur rfl rfl rfl (Pur.assign rfl) ?_
                        refine JO.nil ?_
                        refine J.ret rfl rfl ?_
                        have hF : xs[i].act ≠ sFork := h37
                        have hJ : xs[i].act = sJoin := h54
                        have hA0 : ¬ noTask (Ck.seen (xs.take i)) xs[i] := by unfold noTask; simp only [not_or]; exact ⟨by omega, by omega, by simpa using h36⟩
                        exact ⟨_, _, ⟨rfl, rfl⟩, congrArg Value.bool (right_no (i := i) (by omega) (by rw [ok_join hA0 hF hJ, h82]; simp)).symm, SubC.out⟩
                      · try simp only [decide_eq_true_eq, decide_eq_false_iff_not, Bool.not_eq_true', Bool.not_eq_false', Bool.and_eq_true, Bool.or_eq_true, Bool.and_eq_false_iff, Bool.or_eq_false_iff, Option.isNone_some, Option.isSome_some, Option.isNone_none, Option.isSome_none, Int.not_lt, Int.not_le, beq_iff_eq, beq_eq_false_iff_ne, bne_iff_ne, ne_eq, Bool.not_not, Decidable.not_not] at h82
                        refine JO.pur rfl rfl rfl (Pur.fieldAddr rfl) ?_
                        refine JO.pur rfl rfl rfl (Pur.load rfl (CellIn.blk rfl)) ?_
                        refine JO.pur rfl rfl rfl (Pur.neqT rfl rfl) ?_
                        refine JO.pur rfl rfl rfl (Pur.pickF rfl rfl) ?_
                        refine JO.nil ?_
                        refine J.splitB 86 rfl (fun h86 => ?_) (fun h86 => ?_)
                        · try simp only [decide_eq_true_eq, decide_eq_false_iff_not, Bool.not_eq_true', Bool.not_eq_false', Bool.and_eq_true, Bool.or_eq_true, Bool.and_eq_false_iff, Bool.or_eq_false_iff, Option.isNone_some, Option.isSome_some, Option.isNone_none, Option.isSome_none, Int.not_lt, Int.not_le, beq_iff_eq, beq_eq_false_iff_ne, bne_iff_ne, ne_eq, Bool.not_not, Decidable.not_not] at h86
                          refine J.condT rfl rfl ?_
                          refine J.seq rfl ?_
                          refine J.region rfl ?_
                          refine JO.pur rfl rfl rfl (Pur.assign rfl) ?_
                          refine JO.nil ?_
                          refine J.ret rfl rfl ?_
                          have hF : xs[i].act ≠ sFork := h37
                          have hJ : xs[i].act = sJoin := h54
                          have hA0 : ¬ noTask (Ck.seen (xs.take i)) xs[i] := by unfold noTask; simp only [not_or]; exact ⟨by omega, by omega, by simpa using h36⟩
                          exact ⟨_, _, ⟨rfl, rfl⟩, congrArg Value.bool (right_no (i := i) (by omega) (by rw [ok_join hA0 hF hJ, decide_eq_false (p := xs[i].cell = (⟨#[]⟩ : ByteArray)) h86]; rfl)).symm, SubC.out⟩
                        · try simp only [decide_eq_true_eq, decide_eq_false_iff_not, Bool.not_eq_true', Bool.not_eq_false', Bool.and_eq_true, Bool.or_eq_true, Bool.and_eq_false_iff, Bool.or_eq_false_iff, Option.isNone_some, Option.isSome_some, Option.isNone_none, Option.isSome_none, Int.not_lt, Int.not_le, beq_iff_eq, beq_eq_false_iff_ne, bne_iff_ne, ne_eq, Bool.not_not, Decidable.not_not] at h86
                          refine J.condF rfl rfl ?_
                          refine J.skip rfl ?_
                          refine J.region rfl ?_
                          refine JO.pur rfl rfl rfl (Pur.move rfl) ?_
                          refine JO.pur rfl rfl rfl (Pur.fieldAddr rfl) ?_
                          refine JO.pur rfl rfl rfl (Pur.load rfl (CellIn.blk rfl)) ?_
                          refine JO.pur rfl rfl rfl (Pur.idx rfl rfl rfl (by first | rfl | (simp; done) | omega) (Int.toNat_of_nonneg (by omega)).symm (by omega)) ?_
                          refine JO.effN rfl rfl (Eff.storeS0 (z' := true) rfl rfl rfl rfl (getD_get (d := true) (by omega)) .head) ?_
                          rintro _ _ ⟨rfl, rfl⟩
                          refine JO.nil ?_
                          refine J.inBlock ?_
                          refine J.inBlock ?_
                          refine J.region rfl ?_
                          refine JO.pur rfl rfl rfl (Pur.move rfl) ?_
                          refine JO.pur rfl rfl rfl (Pur.add rfl rfl (wr64 (by omega))) ?_
                          refine JO.pur rfl rfl rfl (Pur.assign rfl) ?_
                          refine JO.nil ?_
                          have hF : xs[i].act ≠ sFork := h37
                          have hJ : xs[i].act = sJoin := h54
                          have hA0 : ¬ noTask (Ck.seen (xs.take i)) xs[i] := by unfold noTask; simp only [not_or]; exact ⟨by omega, by omega, by simpa using h36⟩
                          have hk : okE (Ck.seen (xs.take i)) xs[i] = true := by rw [ok_join hA0 hF hJ, h82, decide_eq_true (p := xs[i].cell = (⟨#[]⟩ : ByteArray)) h86]; simp [h61, h68, h75]
                          have hA := congrArg Seen.joined (af_join (s := (Ck.seen (xs.take i))) hF hJ)
                          have hlen : (Ck.seen (xs.take i)).joined.length = ((Ck.seen (xs.take i)).joined.set xs[i].other.toNat true).length := by simp
                          exact J.weaken (.cons rfl (by dsimp only; rw [← seen_next (by omega), hA, hlen]) (.cons rfl (congrArg (Value.int .i64) (by dsimp only; omega)) (.cons rfl rfl .nil))) (fun h hs => by dsimp only; rw [← seen_next (by omega), hA]; exact SubC.out h hs) (ih0 (i + 1, a0, cap0) ⟨(by dsimp only; omega), okUpto_next (by omega) hok hk, (by dsimp only; rw [← seen_next (by omega)]; have := after_len (Ck.seen (xs.take i)) xs[i]; omega)⟩ (by dsimp only; omega))
              · try simp only [decide_eq_true_eq, decide_eq_false_iff_not, Bool.not_eq_true', Bool.not_eq_false', Bool.and_eq_true, Bool.or_eq_true, Bool.and_eq_false_iff, Bool.or_eq_false_iff, Option.isNone_some, Option.isSome_some, Option.isNone_none, Option.isSome_none, Int.not_lt, Int.not_le, beq_iff_eq, beq_eq_false_iff_ne, bne_iff_ne, ne_eq, Bool.not_not, Decidable.not_not] at h54
                refine J.condF rfl rfl ?_
                refine J.seq rfl ?_
                refine J.region rfl ?_
                refine JO.pur rfl rfl rfl (Pur.loadA rfl rfl rfl CellsIn.blk) ?_
                refine JO.effR rfl rfl rfl (Eff.call rfl (isAcc_ok xs[i])) ?_
                refine JO.pur rfl rfl rfl (Pur.not rfl) ?_
                refine JO.pur rfl rfl rfl (Pur.move rfl) ?_
                refine JO.splitB 95 rfl (fun h95 => ?_) (fun h95 => ?_)
                · try simp only [decide_eq_true_eq, decide_eq_false_iff_not, Bool.not_eq_true', Bool.not_eq_false', Bool.and_eq_true, Bool.or_eq_true, Bool.and_eq_false_iff, Bool.or_eq_false_iff, Option.isNone_some, Option.isSome_some, Option.isNone_none, Option.isSome_none, Int.not_lt, Int.not_le, beq_iff_eq, beq_eq_false_iff_ne, bne_iff_ne, ne_eq, Bool.not_not, Decidable.not_not] at h95
                  refine JO.no rfl rfl rfl ?_
                  refine JO.no rfl rfl rfl ?_
                  refine JO.no rfl rfl rfl ?_
                  refine JO.no rfl rfl rfl ?_
                  refine JO.pur rfl rfl rfl (Pur.pickT rfl rfl) ?_
                  refine JO.pur rfl rfl rfl (Pur.move rfl) ?_
                  refine JO.no rfl rfl rfl ?_
                  refine JO.no rfl rfl rfl ?_
                  refine JO.no rfl rfl rfl ?_
                  refine JO.no rfl rfl rfl ?_
                  refine JO.pur rfl rfl rfl (Pur.pickT rfl rfl) ?_
                  refine JO.pur rfl rfl rfl (Pur.move rfl) ?_
                  refine JO.no rfl rfl rfl ?_
                  refine JO.no rfl rfl rfl ?_
                  refine JO.no rfl rfl rfl ?_
                  refine JO.pur rfl rfl rfl (Pur.pickT rfl rfl) ?_
                  refine JO.pur rfl rfl rfl (Pur.assign rfl) ?_
                  refine JO.nil ?_
                  refine J.condT rfl rfl ?_
                  refine J.seq rfl ?_
                  refine J.region rfl ?_
                  refine JO.pur rfl rfl rfl (Pur.assign rfl) ?_
                  refine JO.nil ?_
                  refine J.ret rfl rfl ?_
                  have hF : xs[i].act ≠ sFork := h37
                  have hJ : xs[i].act ≠ sJoin := h54
                  exact ⟨_, _, ⟨rfl, rfl⟩, congrArg Value.bool (right_no (i := i) (by omega) (ok_accBad hF hJ (.inl (by simpa using h95)))).symm, SubC.out⟩
                · try simp only [decide_eq_true_eq, decide_eq_false_iff_not, Bool.not_eq_true', Bool.not_eq_false', Bool.and_eq_true, Bool.or_eq_true, Bool.and_eq_false_iff, Bool.or_eq_false_iff, Option.isNone_some, Option.isSome_some, Option.isNone_none, Option.isSome_none, Int.not_lt, Int.not_le, beq_iff_eq, beq_eq_false_iff_ne, bne_iff_ne, ne_eq, Bool.not_not, Decidable.not_not] at h95
                  refine JO.pur rfl rfl rfl (Pur.fieldAddr rfl) ?_
                  refine JO.pur rfl rfl rfl (Pur.load rfl (CellIn.blk rfl)) ?_
                  refine JO.pur rfl rfl rfl (Pur.lenT rfl) ?_
                  refine JO.pur rfl rfl rfl (Pur.lss rfl rfl) ?_
                  refine JO.pur rfl rfl rfl (Pur.pickF rfl rfl) ?_
                  refine JO.pur rfl rfl rfl (Pur.move rfl) ?_
                  refine JO.splitB 101 rfl (fun h101 => ?_) (fun h101 => ?_)
                  · try simp only [decide_eq_true_eq, decide_eq_false_iff_not, Bool.not_eq_true', Bool.not_eq_false', Bool.and_eq_true, Bool.or_eq_true, Bool.and_eq_false_iff, Bool.or_eq_false_iff, Option.isNone_some, Option.isSome_some, Option.isNone_none, Option.isSome_none, Int.not_lt, Int.not_le, beq_iff_eq, beq_eq_false_iff_ne, bne_iff_ne, ne_eq, Bool.not_not, Decidable.not_not] at h101
                    refine JO.no rfl rfl rfl ?_
                    refine JO.no rfl rfl rfl ?_
                    refine JO.no rfl rfl rfl ?_
                    refine JO.no rfl rfl rfl ?_
                    refine JO.pur rfl rfl rfl (Pur.pickT rfl rfl) ?_
                    refine JO.pur rfl rfl rfl (Pur.move rfl) ?_
                    refine JO.no rfl rfl rfl ?_
                    refine JO.no rfl rfl rfl ?_
                    refine JO.no rfl rfl rfl ?_
                    refine JO.pur rfl rfl rfl (Pur.pickT rfl rfl) ?_
                    refine JO.pur rfl rfl rfl (Pur.assign rfl) ?_
                    refine JO.nil ?_
                    refine J.condT rfl rfl ?_
                    refine J.seq rfl ?_
                    refine J.region rfl ?_
                    refine JO.pur rfl rfl rfl (Pur.assign rfl) ?_
                    refine JO.nil ?_
                    refine J.ret rfl rfl ?_
                    have hF : xs[i].act ≠ sFork := h37
                    have hJ : xs[i].act ≠ sJoin := h54
                    exact ⟨_, _, ⟨rfl, rfl⟩, congrArg Value.bool (right_no (i := i) (by omega) (ok_accBad hF hJ (.inr (.inr (.inl (size0 (by omega))))))).symm, SubC.out⟩
                  · try simp only [decide_eq_true_eq, decide_eq_false_iff_not, Bool.not_eq_true', Bool.not_eq_false', Bool.and_eq_true, Bool.or_eq_true, Bool.and_eq_false_iff, Bool.or_eq_false_iff, Option.isNone_some, Option.isSome_some, Option.isNone_none, Option.isSome_none, Int.not_lt, Int.not_le, beq_iff_eq, beq_eq_false_iff_ne, bne_iff_ne, ne_eq, Bool.not_not, Decidable.not_not] at h101
                    refine JO.pur rfl rfl rfl (Pur.fieldAddr rfl) ?_
                    refine JO.pur rfl rfl rfl (Pur.load rfl (CellIn.blk rfl)) ?_
                    refine JO.pur rfl rfl rfl (Pur.lenT rfl) ?_
                    refine JO.pur rfl rfl rfl (Pur.gtr rfl rfl) ?_
                    refine JO.pur rfl rfl rfl (Pur.pickF rfl rfl) ?_
                    refine JO.pur rfl rfl rfl (Pur.move rfl) ?_
                    refine JO.splitB 107 rfl (fun h107 => ?_) (fun h107 => ?_)
                    · try simp only [decide_eq_true_eq, decide_eq_false_iff_not, Bool.not_eq_true', Bool.not_eq_false', Bool.and_eq_true, Bool.or_eq_true, Bool.and_eq_false_iff, Bool.or_eq_false_iff, Option.isNone_some, Option.isSome_some, Option.isNone_none, Option.isSome_none, Int.not_lt, Int.not_le, beq_iff_eq, beq_eq_false_iff_ne, bne_iff_ne, ne_eq, Bool.not_not, Decidable.not_not] at h107
                      refine JO.no rfl rfl rfl ?_
                      refine JO.no rfl rfl rfl ?_
                      refine JO.no rfl rfl rfl ?_
                      refine JO.pur rfl rfl rfl (Pur.pickT rfl rfl) ?_
                      refine JO.pur rfl rfl rfl (Pur.assign rfl) ?_
                      refine JO.nil ?_
                      refine J.condT rfl rfl ?_
                      refine J.seq rfl ?_
                      refine J.region rfl ?_
                      refine JO.pur rfl rfl rfl (Pur.assign rfl) ?_
                      refine JO.nil ?_
                      refine J.ret rfl rfl ?_
                      have hF : xs[i].act ≠ sFork := h37
                      have hJ : xs[i].act ≠ sJoin := h54
                      exact ⟨_, _, ⟨rfl, rfl⟩, congrArg Value.bool (right_no (i := i) (by omega) (ok_accBad hF hJ (.inr (.inr (.inr h107))))).symm, SubC.out⟩
                    · try simp only [decide_eq_true_eq, decide_eq_false_iff_not, Bool.not_eq_true', Bool.not_eq_false', Bool.and_eq_true, Bool.or_eq_true, Bool.and_eq_false_iff, Bool.or_eq_false_iff, Option.isNone_some, Option.isSome_some, Option.isNone_none, Option.isSome_none, Int.not_lt, Int.not_le, beq_iff_eq, beq_eq_false_iff_ne, bne_iff_ne, ne_eq, Bool.not_not, Decidable.not_not] at h107
                      refine JO.pur rfl rfl rfl (Pur.fieldAddr rfl) ?_
                      refine JO.pur rfl rfl rfl (Pur.load rfl (CellIn.blk rfl)) ?_
                      refine JO.pur rfl rfl rfl (Pur.neqI rfl rfl) ?_
                      refine JO.pur rfl rfl rfl (Pur.pickF rfl rfl) ?_
                      refine JO.pur rfl rfl rfl (Pur.assign rfl) ?_
                      refine JO.nil ?_
                      refine J.splitB 91 rfl (fun h91 => ?_) (fun h91 => ?_)
                      · try simp only [decide_eq_true_eq, decide_eq_false_iff_not, Bool.not_eq_true', Bool.not_eq_false', Bool.and_eq_true, Bool.or_eq_true, Bool.and_eq_false_iff, Bool.or_eq_false_iff, Option.isNone_some, Option.isSome_some, Option.isNone_none, Option.isSome_none, Int.not_lt, Int.not_le, beq_iff_eq, beq_eq_false_iff_ne, bne_iff_ne, ne_eq, Bool.not_not, Decidable.not_not] at h91
                        refine J.condT rfl rfl ?_
                        refine J.seq rfl ?_
                        refine J.region rfl ?_
                        refine JO.pur rfl rfl rfl (Pur.assign rfl) ?_
                        refine JO.nil ?_
                        refine J.ret rfl rfl ?_
                        have hF : xs[i].act ≠ sFork := h37
                        have hJ : xs[i].act ≠ sJoin := h54
                        exact ⟨_, _, ⟨rfl, rfl⟩, congrArg Value.bool (right_no (i := i) (by omega) (ok_accBad hF hJ (.inr (.inl h91)))).symm, SubC.out⟩
                      · try simp only [decide_eq_true_eq, decide_eq_false_iff_not, Bool.not_eq_true', Bool.not_eq_false', Bool.and_eq_true, Bool.or_eq_true, Bool.and_eq_false_iff, Bool.or_eq_false_iff, Option.isNone_some, Option.isSome_some, Option.isNone_none, Option.isSome_none, Int.not_lt, Int.not_le, beq_iff_eq, beq_eq_false_iff_ne, bne_iff_ne, ne_eq, Bool.not_not, Decidable.not_not] at h91
                        refine J.condF rfl rfl ?_
                        refine J.seq rfl ?_
                        refine J.region rfl ?_
                        refine JO.pur rfl rfl rfl (Pur.fieldAddr rfl) ?_
                        refine JO.pur rfl rfl rfl (Pur.load rfl (CellIn.blk rfl)) ?_
                        refine JO.pur rfl rfl rfl (Pur.eqlT rfl rfl) ?_
                        refine JO.pur rfl rfl rfl (Pur.move rfl) ?_
                        refine JO.splitB 116 rfl (fun h116 => ?_) (fun h116 => ?_)
                        · try simp only [decide_eq_true_eq, decide_eq_false_iff_not, Bool.not_eq_true', Bool.not_eq_false', Bool.and_eq_true, Bool.or_eq_true, Bool.and_eq_false_iff, Bool.or_eq_false_iff, Option.isNone_some, Option.isSome_some, Option.isNone_none, Option.isSome_none, Int.not_lt, Int.not_le, beq_iff_eq, beq_eq_false_iff_ne, bne_iff_ne, ne_eq, Bool.not_not, Decidable.not_not] at h116
                          refine JO.pur rfl rfl rfl (Pur.move rfl) ?_
                          refine JO.pur rfl rfl rfl (Pur.fieldAddr rfl) ?_
                          refine JO.pur rfl rfl rfl (Pur.load rfl (CellIn.blk rfl)) ?_
                          refine JO.effR rfl rfl rfl (Eff.call rfl (given_ok rfl (by omega) xs[i].cell)) ?_
                          refine JO.pur rfl rfl rfl (Pur.move rfl) ?_
                          refine JO.pur rfl rfl rfl (Pur.geq rfl rfl) ?_
                          refine JO.pur rfl rfl rfl (Pur.pickT rfl rfl) ?_
                          refine JO.pur rfl rfl rfl (Pur.assign rfl) ?_
                          refine JO.nil ?_
                          refine J.splitB 112 rfl (fun h112 => ?_) (fun h112 => ?_)
                          · try simp only [decide_eq_true_eq, decide_eq_false_iff_not, Bool.not_eq_true', Bool.not_eq_false', Bool.and_eq_true, Bool.or_eq_true, Bool.and_eq_false_iff, Bool.or_eq_false_iff, Option.isNone_some, Option.isSome_some, Option.isNone_none, Option.isSome_none, Int.not_lt, Int.not_le, beq_iff_eq, beq_eq_false_iff_ne, bne_iff_ne, ne_eq, Bool.not_not, Decidable.not_not] at h112
                            refine J.condT rfl rfl ?_
                            refine J.seq rfl ?_
                            refine J.region rfl ?_
                            refine JO.pur rfl rfl rfl (Pur.assign rfl) ?_
                            refine JO.nil ?_
                            refine J.ret rfl rfl ?_
                            have hF : xs[i].act ≠ sFork := h37
                            have hJ : xs[i].act ≠ sJoin := h54
                            have hA0 : ¬ noTask (Ck.seen (xs.take i)) xs[i] := by unfold noTask; simp only [not_or]; exact ⟨by omega, by omega, by simpa using h36⟩
                            have hokE := ok_acc hA0 hF hJ (by simpa using h95) (by simpa using h91) (sizeN (by omega)) (by omega)
                            exact ⟨_, _, ⟨rfl, rfl⟩, congrArg Value.bool (right_no (i := i) (by omega) (by rw [hokE, hasCell_yes (by omega) (by omega)]; simp [show xs[i].act = sGet from h116])).symm, SubC.out⟩
                          · try simp only [decide_eq_true_eq, decide_eq_false_iff_not, Bool.not_eq_true', Bool.not_eq_false', Bool.and_eq_true, Bool.or_eq_true, Bool.and_eq_false_iff, Bool.or_eq_false_iff, Option.isNone_some, Option.isSome_some, Option.isNone_none, Option.isSome_none, Int.not_lt, Int.not_le, beq_iff_eq, beq_eq_false_iff_ne, bne_iff_ne, ne_eq, Bool.not_not, Decidable.not_not] at h112
                            refine J.condF rfl rfl ?_
                            refine J.skip rfl ?_
                            refine J.inBlock ?_
                            refine J.inBlock ?_
                            refine J.region rfl ?_
                            refine JO.pur rfl rfl rfl (Pur.move rfl) ?_
                            refine JO.pur rfl rfl rfl (Pur.add rfl rfl (wr64 (by omega))) ?_
                            refine JO.pur rfl rfl rfl (Pur.assign rfl) ?_
                            refine JO.nil ?_
                            have hF : xs[i].act ≠ sFork := h37
                            have hJ : xs[i].act ≠ sJoin := h54
                            have hA0 : ¬ noTask (Ck.seen (xs.take i)) xs[i] := by unfold noTask; simp only [not_or]; exact ⟨by omega, by omega, by simpa using h36⟩
                            have hokE := ok_acc hA0 hF hJ (by simpa using h95) (by simpa using h91) (sizeN (by omega)) (by omega)
                            have hk : okE (Ck.seen (xs.take i)) xs[i] = true := by rw [hokE, hasCell_not (by omega) (by omega)]; simp
                            have hA : (after (Ck.seen (xs.take i)) xs[i]).joined = (Ck.seen (xs.take i)).joined := by unfold after; rw [if_neg hF, if_neg hJ]; split <;> rfl
                            have hlen : (Ck.seen (xs.take i)).joined.length = (Ck.seen (xs.take i)).joined.length := rfl
                            exact J.weaken (.cons rfl (by dsimp only; rw [← seen_next (by omega), hA, hlen]) (.cons rfl (congrArg (Value.int .i64) (by dsimp only; omega)) (.cons rfl rfl .nil))) (fun h hs => by dsimp only; rw [← seen_next (by omega), hA]; exact SubC.out h hs) (ih0 (i + 1, a0, cap0) ⟨(by dsimp only; omega), okUpto_next (by omega) hok hk, (by dsimp only; rw [← seen_next (by omega)]; have := after_len (Ck.seen (xs.take i)) xs[i]; omega)⟩ (by dsimp only; omega))
                        · try simp only [decide_eq_true_eq, decide_eq_false_iff_not, Bool.not_eq_true', Bool.not_eq_false', Bool.and_eq_true, Bool.or_eq_true, Bool.and_eq_false_iff, Bool.or_eq_false_iff, Option.isNone_some, Option.isSome_some, Option.isNone_none, Option.isSome_none, Int.not_lt, Int.not_le, beq_iff_eq, beq_eq_false_iff_ne, bne_iff_ne, ne_eq, Bool.not_not, Decidable.not_not] at h116
                          refine JO.no rfl rfl rfl ?_
                          refine JO.no rfl rfl rfl ?_
                          refine JO.no rfl rfl rfl ?_
                          refine JO.no rfl rfl rfl ?_
                          refine JO.no rfl rfl rfl ?_
                          refine JO.no rfl rfl rfl ?_
                          refine JO.pur rfl rfl rfl (Pur.pickF rfl rfl) ?_
                          refine JO.pur rfl rfl rfl (Pur.assign rfl) ?_
                          refine JO.nil ?_
                          refine J.condF rfl rfl ?_
                          refine J.skip rfl ?_
                          refine J.inBlock ?_
                          refine J.inBlock ?_
                          refine J.region rfl ?_
                          refine JO.pur rfl rfl rfl (Pur.move rfl) ?_
                          refine JO.pur rfl rfl rfl (Pur.add rfl rfl (wr64 (by omega))) ?_
                          refine JO.pur rfl rfl rfl (Pur.assign rfl) ?_
                          refine JO.nil ?_
                          have hF : xs[i].act ≠ sFork := h37
                          have hJ : xs[i].act ≠ sJoin := h54
                          have hA0 : ¬ noTask (Ck.seen (xs.take i)) xs[i] := by unfold noTask; simp only [not_or]; exact ⟨by omega, by omega, by simpa using h36⟩
                          have hokE := ok_acc hA0 hF hJ (by simpa using h95) (by simpa using h91) (sizeN (by omega)) (by omega)
                          have hk : okE (Ck.seen (xs.take i)) xs[i] = true := by rw [hokE]; simp [show xs[i].act ≠ sGet from h116]
                          have hA : (after (Ck.seen (xs.take i)) xs[i]).joined = (Ck.seen (xs.take i)).joined := by unfold after; rw [if_neg hF, if_neg hJ]; split <;> rfl
                          have hlen : (Ck.seen (xs.take i)).joined.length = (Ck.seen (xs.take i)).joined.length := rfl
                          exact J.weaken (.cons rfl (by dsimp only; rw [← seen_next (by omega), hA, hlen]) (.cons rfl (congrArg (Value.int .i64) (by dsimp only; omega)) (.cons rfl rfl .nil))) (fun h hs => by dsimp only; rw [← seen_next (by omega), hA]; exact SubC.out h hs) (ih0 (i + 1, a0, cap0) ⟨(by dsimp only; omega), okUpto_next (by omega) hok hk, (by dsimp only; rw [← seen_next (by omega)]; have := after_len (Ck.seen (xs.take i)) xs[i]; omega)⟩ (by dsimp only; omega))
    · try simp only [decide_eq_true_eq, decide_eq_false_iff_not, Bool.not_eq_true', Bool.not_eq_false', Bool.and_eq_true, Bool.or_eq_true, Bool.and_eq_false_iff, Bool.or_eq_false_iff, Option.isNone_some, Option.isSome_some, Option.isNone_none, Option.isSome_none, Int.not_lt, Int.not_le, beq_iff_eq, beq_eq_false_iff_ne, bne_iff_ne, ne_eq, Bool.not_not, Decidable.not_not] at h13
      refine J.condF rfl rfl ?_
      refine J.exit rfl rfl ?_
      refine J.seq rfl ?_
      refine J.region rfl ?_
      refine JO.pur rfl rfl rfl (Pur.assign rfl) ?_
      refine JO.nil ?_
      refine J.ret rfl rfl ?_
      have hie : i = xs.length := by omega
      subst hie
      exact ⟨_, _, ⟨rfl, rfl⟩, congrArg Value.bool (right_yes (by omega) hok).symm, fun h hs => hs.tail⟩

end Go.Proofs.Ytekgkamjbnfgiaa
