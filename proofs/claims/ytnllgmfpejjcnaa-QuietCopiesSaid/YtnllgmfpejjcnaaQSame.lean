/-
  A part of the proof of the claim that this folder bears.
  This text: QSame.
-/
import Derived.Test.YtnllgmfpejjcnaaQAt
set_option linter.unusedVariables false
set_option linter.unusedSimpArgs false
namespace Go.Proofs.Ytnllgmfpejjcnaa
open Go Go.KK Qt

theorem st_eq {σ τ : St} (h1 : σ.spots = τ.spots) (h2 : (σ.pos : Int) = (τ.pos : Int)) (h3 : σ.sum = τ.sum) (h4 : σ.dark = τ.dark) (h5 : σ.fresh = τ.fresh) (h6 : σ.told = τ.told) (h7 : σ.passes = τ.passes) : decide (σ.fly = τ.fly) = decide (σ = τ) := by
  have h2' : σ.pos = τ.pos := by omega
  cases σ; cases τ
  simp only [St.mk.injEq] at *
  subst h1; subst h2'; subst h3; subst h4; subst h5; subst h6; subst h7
  simp
theorem spots_next {σ τ : St} {i : Nat} (h : σ.spots.take i = τ.spots.take i) (h1 : i < σ.spots.length) (h2 : i < τ.spots.length) (ha : (spot σ i).active = (spot τ i).active) (hb : (spot σ i).black = (spot τ i).black) (hc : (spot σ i).count = (spot τ i).count) : σ.spots.take (i + 1) = τ.spots.take (i + 1) := by
  refine take_succ_eq h h1 h2 ?_
  have e1 := spot_get h1
  have e2 := spot_get h2
  rw [List.getElem?_eq_getElem h1] at e1
  rw [List.getElem?_eq_getElem h2] at e2
  simp only [Option.some.injEq] at e1 e2
  rw [e1, e2]
  cases hs : spot σ i; cases ht : spot τ i
  simp_all

theorem same_core {L : List Asn} {r q : Nat} {σ τ : St} {a b a' b' : Option Addr} {c d c' d' : Nat} [BlkIn L r (.cells #[.slice a σ.spots.length c, .slice b σ.fly.length d, .int .i64 σ.pos, .int .i64 σ.sum, .bool σ.dark, .bool σ.fresh, .bool σ.told, .int .i64 σ.passes] 45 (0, 0))] [BlkIn L q (.cells #[.slice a' τ.spots.length c', .slice b' τ.fly.length d', .int .i64 τ.pos, .int .i64 τ.sum, .bool τ.dark, .bool τ.fresh, .bool τ.told, .int .i64 τ.passes] 45 (0, 0))] [SlIn spotE L a σ.spots] [SlIn pairE L b σ.fly] [SlIn spotE L a' τ.spots] [SlIn pairE L b' τ.fly] {N M : Nat} (hw : Wf σ N) (hv : Wf τ M) :
    CallS Try.prog 30 [.pointer (some ⟨r, 0, none⟩), .pointer (some ⟨q, 0, none⟩)].toArray L (fun v M => v = .bool (decide (σ = τ)) ∧ M = L) := by
  have w1 := hw.pos
  have w2 := hv.pos
  have w3 := hw.le
  have w4 := hw.len
  have w5 := hw.num
  refine CallS.enter Try.func30 rfl rfl rfl rfl rfl ?_
  refine J.seq rfl ?_
  refine J.region rfl ?_
  refine JO.pur rfl rfl rfl (Pur.assign rfl) ?_
  refine JO.nil ?_
  refine J.seq rfl ?_
  refine J.seq rfl ?_
  refine J.region rfl ?_
  refine JO.pur rfl rfl rfl (Pur.move rfl) ?_
  refine JO.effR rfl rfl rfl (Eff.call rfl (none_ok (r := r))) ?_
  refine JO.pur rfl rfl rfl (Pur.move rfl) ?_
  refine JO.setv (u' := .bool false) 8 rfl (congrArg Value.bool ((decide_eq_false (by omega)))) ?_
  refine JO.pur rfl rfl rfl (Pur.move rfl) ?_
  refine JO.effR rfl rfl rfl (Eff.call rfl (none_ok (r := q))) ?_
  refine JO.pur rfl rfl rfl (Pur.pickF rfl rfl) ?_
  refine JO.nil ?_
  refine J.setv (u' := .bool false) 11 rfl (congrArg Value.bool ((decide_eq_false (by omega)))) ?_
  refine J.condF rfl rfl ?_
  refine J.skip rfl ?_
  refine J.seq rfl ?_
  refine J.quiet rfl Try.mixed (by kernel_rfl) ?_
  refine JQ.pur rfl rfl rfl (Pur.move rfl) ?_
  refine JQ.pur rfl rfl rfl (Pur.nilCheck rfl) ?_
  refine JQ.pur rfl rfl rfl (Pur.fieldAddr rfl) ?_
  refine JQ.pur rfl rfl rfl (Pur.load rfl (CellIn.blk rfl)) ?_
  refine JQ.pur rfl rfl rfl (Pur.move rfl) ?_
  refine JQ.pur rfl rfl rfl (Pur.nilCheck rfl) ?_
  refine JQ.pur rfl rfl rfl (Pur.fieldAddr rfl) ?_
  refine JQ.pur rfl rfl rfl (Pur.load rfl (CellIn.blk rfl)) ?_
  refine JQ.pur rfl rfl rfl (Pur.eqlI rfl rfl) ?_
  refine JQ.pur rfl rfl rfl (Pur.move rfl) ?_
  refine JQ.splitB 27 rfl (fun h27 => ?_) (fun h27 => ?_)
  · try simp only [decide_eq_true_eq, decide_eq_false_iff_not, Bool.not_eq_true', Bool.not_eq_false', Bool.and_eq_true, Bool.or_eq_true, Bool.and_eq_false_iff, Bool.or_eq_false_iff, Option.isNone_some, Option.isSome_some, Option.isNone_none, Option.isSome_none, Int.not_lt, Int.not_le, beq_iff_eq, beq_eq_false_iff_ne, bne_iff_ne, ne_eq, Bool.not_not, Decidable.not_not] at h27
    refine JQ.pur rfl rfl rfl (Pur.move rfl) ?_
    refine JQ.pur rfl rfl rfl (Pur.nilCheck rfl) ?_
    refine JQ.pur rfl rfl rfl (Pur.fieldAddr rfl) ?_
    refine JQ.pur rfl rfl rfl (Pur.load rfl (CellIn.blk rfl)) ?_
    refine JQ.pur rfl rfl rfl (Pur.move rfl) ?_
    refine JQ.pur rfl rfl rfl (Pur.nilCheck rfl) ?_
    refine JQ.pur rfl rfl rfl (Pur.fieldAddr rfl) ?_
    refine JQ.pur rfl rfl rfl (Pur.load rfl (CellIn.blk rfl)) ?_
    refine JQ.pur rfl rfl rfl (Pur.eqlI rfl rfl) ?_
    refine JQ.pur rfl rfl rfl (Pur.pickT rfl rfl) ?_
    refine JQ.pur rfl rfl rfl (Pur.move rfl) ?_
    refine JQ.splitB 38 rfl (fun h38 => ?_) (fun h38 => ?_)
    · try simp only [decide_eq_true_eq, decide_eq_false_iff_not, Bool.not_eq_true', Bool.not_eq_false', Bool.and_eq_true, Bool.or_eq_true, Bool.and_eq_false_iff, Bool.or_eq_false_iff, Option.isNone_some, Option.isSome_some, Option.isNone_none, Option.isSome_none, Int.not_lt, Int.not_le, beq_iff_eq, beq_eq_false_iff_ne, bne_iff_ne, ne_eq, Bool.not_not, Decidable.not_not] at h38
      refine JQ.pur rfl rfl rfl (Pur.move rfl) ?_
      refine JQ.pur rfl rfl rfl (Pur.nilCheck rfl) ?_
      refine JQ.pur rfl rfl rfl (Pur.fieldAddr rfl) ?_
      refine JQ.pur rfl rfl rfl (Pur.load rfl (CellIn.blk rfl)) ?_
      refine JQ.pur rfl rfl rfl (Pur.move rfl) ?_
      refine JQ.pur rfl rfl rfl (Pur.nilCheck rfl) ?_
      refine JQ.pur rfl rfl rfl (Pur.fieldAddr rfl) ?_
      refine JQ.pur rfl rfl rfl (Pur.load rfl (CellIn.blk rfl)) ?_
      refine JQ.pur rfl rfl rfl (Pur.eqlB rfl rfl) ?_
      refine JQ.pur rfl rfl rfl (Pur.pickT rfl rfl) ?_
      refine JQ.pur rfl rfl rfl (Pur.move rfl) ?_
      refine JQ.splitB 49 rfl (fun h49 => ?_) (fun h49 => ?_)
      · try simp only [decide_eq_true_eq, decide_eq_false_iff_not, Bool.not_eq_true', Bool.not_eq_false', Bool.and_eq_true, Bool.or_eq_true, Bool.and_eq_false_iff, Bool.or_eq_false_iff, Option.isNone_some, Option.isSome_some, Option.isNone_none, Option.isSome_none, Int.not_lt, Int.not_le, beq_iff_eq, beq_eq_false_iff_ne, bne_iff_ne, ne_eq, Bool.not_not, Decidable.not_not] at h49
        refine JQ.pur rfl rfl rfl (Pur.move rfl) ?_
        refine JQ.pur rfl rfl rfl (Pur.nilCheck rfl) ?_
        refine JQ.pur rfl rfl rfl (Pur.fieldAddr rfl) ?_
        refine JQ.pur rfl rfl rfl (Pur.load rfl (CellIn.blk rfl)) ?_
        refine JQ.pur rfl rfl rfl (Pur.move rfl) ?_
        refine JQ.pur rfl rfl rfl (Pur.nilCheck rfl) ?_
        refine JQ.pur rfl rfl rfl (Pur.fieldAddr rfl) ?_
        refine JQ.pur rfl rfl rfl (Pur.load rfl (CellIn.blk rfl)) ?_
        refine JQ.pur rfl rfl rfl (Pur.eqlB rfl rfl) ?_
        refine JQ.pur rfl rfl rfl (Pur.pickT rfl rfl) ?_
        refine JQ.pur rfl rfl rfl (Pur.move rfl) ?_
        refine JQ.splitB 60 rfl (fun h60 => ?_) (fun h60 => ?_)
        · try simp only [decide_eq_true_eq, decide_eq_false_iff_not, Bool.not_eq_true', Bool.not_eq_false', Bool.and_eq_true, Bool.or_eq_true, Bool.and_eq_false_iff, Bool.or_eq_false_iff, Option.isNone_some, Option.isSome_some, Option.isNone_none, Option.isSome_none, Int.not_lt, Int.not_le, beq_iff_eq, beq_eq_false_iff_ne, bne_iff_ne, ne_eq, Bool.not_not, Decidable.not_not] at h60
          refine JQ.pur rfl rfl rfl (Pur.move rfl) ?_
          refine JQ.pur rfl rfl rfl (Pur.nilCheck rfl) ?_
          refine JQ.pur rfl rfl rfl (Pur.fieldAddr rfl) ?_
          refine JQ.pur rfl rfl rfl (Pur.load rfl (CellIn.blk rfl)) ?_
          refine JQ.pur rfl rfl rfl (Pur.move rfl) ?_
          refine JQ.pur rfl rfl rfl (Pur.nilCheck rfl) ?_
          refine JQ.pur rfl rfl rfl (Pur.fieldAddr rfl) ?_
          refine JQ.pur rfl rfl rfl (Pur.load rfl (CellIn.blk rfl)) ?_
          refine JQ.pur rfl rfl rfl (Pur.eqlB rfl rfl) ?_
          refine JQ.pur rfl rfl rfl (Pur.pickT rfl rfl) ?_
          refine JQ.pur rfl rfl rfl (Pur.assign rfl) ?_
          refine JQ.nil ?_
          refine J.seq rfl ?_
          refine J.quiet rfl Try.mixed (by kernel_rfl) ?_
          refine JQ.pur rfl rfl rfl (Pur.move rfl) ?_
          refine JQ.pur rfl rfl rfl (Pur.move rfl) ?_
          refine JQ.splitB 72 rfl (fun h72 => ?_) (fun h72 => ?_)
          · try simp only [decide_eq_true_eq, decide_eq_false_iff_not, Bool.not_eq_true', Bool.not_eq_false', Bool.and_eq_true, Bool.or_eq_true, Bool.and_eq_false_iff, Bool.or_eq_false_iff, Option.isNone_some, Option.isSome_some, Option.isNone_none, Option.isSome_none, Int.not_lt, Int.not_le, beq_iff_eq, beq_eq_false_iff_ne, bne_iff_ne, ne_eq, Bool.not_not, Decidable.not_not] at h72
            refine JQ.pur rfl rfl rfl (Pur.move rfl) ?_
            refine JQ.pur rfl rfl rfl (Pur.nilCheck rfl) ?_
            refine JQ.pur rfl rfl rfl (Pur.fieldAddr rfl) ?_
            refine JQ.pur rfl rfl rfl (Pur.load rfl (CellIn.blk rfl)) ?_
            refine JQ.pur rfl rfl rfl (Pur.move rfl) ?_
            refine JQ.pur rfl rfl rfl (Pur.nilCheck rfl) ?_
            refine JQ.pur rfl rfl rfl (Pur.fieldAddr rfl) ?_
            refine JQ.pur rfl rfl rfl (Pur.load rfl (CellIn.blk rfl)) ?_
            refine JQ.pur rfl rfl rfl (Pur.eqlI rfl rfl) ?_
            refine JQ.pur rfl rfl rfl (Pur.pickT rfl rfl) ?_
            refine JQ.pur rfl rfl rfl (Pur.move rfl) ?_
            refine JQ.splitB 83 rfl (fun h83 => ?_) (fun h83 => ?_)
            · try simp only [decide_eq_true_eq, decide_eq_false_iff_not, Bool.not_eq_true', Bool.not_eq_false', Bool.and_eq_true, Bool.or_eq_true, Bool.and_eq_false_iff, Bool.or_eq_false_iff, Option.isNone_some, Option.isSome_some, Option.isNone_none, Option.isSome_none, Int.not_lt, Int.not_le, beq_iff_eq, beq_eq_false_iff_ne, bne_iff_ne, ne_eq, Bool.not_not, Decidable.not_not] at h83
              refine JQ.pur rfl rfl rfl (Pur.move rfl) ?_
              refine JQ.pur rfl rfl rfl (Pur.nilCheck rfl) ?_
              refine JQ.pur rfl rfl rfl (Pur.fieldAddr rfl) ?_
              refine JQ.pur rfl rfl rfl (Pur.load rfl (CellIn.blk rfl)) ?_
              refine JQ.pur rfl rfl rfl (Pur.move rfl) ?_
              refine JQ.pur rfl rfl rfl (Pur.nilCheck rfl) ?_
              refine JQ.pur rfl rfl rfl (Pur.fieldAddr rfl) ?_
              refine JQ.pur rfl rfl rfl (Pur.load rfl (CellIn.blk rfl)) ?_
              refine JQ.callE rfl rfl rfl (equalSpots rfl rfl (by omega)) ?_
              refine JQ.pur rfl rfl rfl (Pur.pickT rfl rfl) ?_
              refine JQ.pur rfl rfl rfl (Pur.move rfl) ?_
              refine JQ.splitB 94 rfl (fun h94 => ?_) (fun h94 => ?_)
              · try simp only [decide_eq_true_eq, decide_eq_false_iff_not, Bool.not_eq_true', Bool.not_eq_false', Bool.and_eq_true, Bool.or_eq_true, Bool.and_eq_false_iff, Bool.or_eq_false_iff, Option.isNone_some, Option.isSome_some, Option.isNone_none, Option.isSome_none, Int.not_lt, Int.not_le, beq_iff_eq, beq_eq_false_iff_ne, bne_iff_ne, ne_eq, Bool.not_not, Decidable.not_not] at h94
                refine JQ.pur rfl rfl rfl (Pur.move rfl) ?_
                refine JQ.pur rfl rfl rfl (Pur.nilCheck rfl) ?_
                refine JQ.pur rfl rfl rfl (Pur.fieldAddr rfl) ?_
                refine JQ.pur rfl rfl rfl (Pur.load rfl (CellIn.blk rfl)) ?_
                refine JQ.pur rfl rfl rfl (Pur.move rfl) ?_
                refine JQ.pur rfl rfl rfl (Pur.nilCheck rfl) ?_
                refine JQ.pur rfl rfl rfl (Pur.fieldAddr rfl) ?_
                refine JQ.pur rfl rfl rfl (Pur.load rfl (CellIn.blk rfl)) ?_
                refine JQ.callE rfl rfl rfl (equalPairs rfl rfl (by omega)) ?_
                refine JQ.pur rfl rfl rfl (Pur.pickT rfl rfl) ?_
                refine JQ.pur rfl rfl rfl (Pur.assign rfl) ?_
                refine JQ.nil ?_
                refine J.ret rfl rfl ?_
                first
                | exact ⟨congrArg Value.bool (decide_eq_false (fun e => by subst e; simp_all)).symm, rfl⟩
                | exact ⟨congrArg Value.bool (st_eq (by assumption) (by assumption) (by assumption) (by assumption) (by assumption) (by assumption) (by assumption)), rfl⟩
              · try simp only [decide_eq_true_eq, decide_eq_false_iff_not, Bool.not_eq_true', Bool.not_eq_false', Bool.and_eq_true, Bool.or_eq_true, Bool.and_eq_false_iff, Bool.or_eq_false_iff, Option.isNone_some, Option.isSome_some, Option.isNone_none, Option.isSome_none, Int.not_lt, Int.not_le, beq_iff_eq, beq_eq_false_iff_ne, bne_iff_ne, ne_eq, Bool.not_not, Decidable.not_not] at h94
                refine JQ.no rfl rfl rfl ?_
                refine JQ.no rfl rfl rfl ?_
                refine JQ.no rfl rfl rfl ?_
                refine JQ.no rfl rfl rfl ?_
                refine JQ.no rfl rfl rfl ?_
                refine JQ.no rfl rfl rfl ?_
                refine JQ.no rfl rfl rfl ?_
                refine JQ.no rfl rfl rfl ?_
                refine JQ.no rfl rfl rfl ?_
                refine JQ.pur rfl rfl rfl (Pur.pickF rfl rfl) ?_
                refine JQ.pur rfl rfl rfl (Pur.assign rfl) ?_
                refine JQ.nil ?_
                refine J.ret rfl rfl ?_
                first
                | exact ⟨congrArg Value.bool (decide_eq_false (fun e => by subst e; simp_all)).symm, rfl⟩
                | exact ⟨congrArg Value.bool (st_eq (by assumption) (by assumption) (by assumption) (by assumption) (by assumption) (by assumption) (by assumption)), rfl⟩
            · try simp only [decide_eq_true_eq, decide_eq_false_iff_not, Bool.not_eq_true', Bool.not_eq_false', Bool.and_eq_true, Bool.or_eq_true, Bool.and_eq_false_iff, Bool.or_eq_false_iff, Option.isNone_some, Option.isSome_some, Option.isNone_none, Option.isSome_none, Int.not_lt, Int.not_le, beq_iff_eq, beq_eq_false_iff_ne, bne_iff_ne, ne_eq, Bool.not_not, Decidable.not_not] at h83
              refine JQ.no rfl rfl rfl ?_
              refine JQ.no rfl rfl rfl ?_
              refine JQ.no rfl rfl rfl ?_
              refine JQ.no rfl rfl rfl ?_
              refine JQ.no rfl rfl rfl ?_
              refine JQ.no rfl rfl rfl ?_
              refine JQ.no rfl rfl rfl ?_
              refine JQ.no rfl rfl rfl ?_
              refine JQ.no rfl rfl rfl ?_
              refine JQ.pur rfl rfl rfl (Pur.pickF rfl rfl) ?_
              refine JQ.pur rfl rfl rfl (Pur.move rfl) ?_
              refine JQ.no rfl rfl rfl ?_
              refine JQ.no rfl rfl rfl ?_
              refine JQ.no rfl rfl rfl ?_
              refine JQ.no rfl rfl rfl ?_
              refine JQ.no rfl rfl rfl ?_
              refine JQ.no rfl rfl rfl ?_
              refine JQ.no rfl rfl rfl ?_
              refine JQ.no rfl rfl rfl ?_
              refine JQ.no rfl rfl rfl ?_
              refine JQ.pur rfl rfl rfl (Pur.pickF rfl rfl) ?_
              refine JQ.pur rfl rfl rfl (Pur.assign rfl) ?_
              refine JQ.nil ?_
              refine J.ret rfl rfl ?_
              first
              | exact ⟨congrArg Value.bool (decide_eq_false (fun e => by subst e; simp_all)).symm, rfl⟩
              | exact ⟨congrArg Value.bool (st_eq (by assumption) (by assumption) (by assumption) (by assumption) (by assumption) (by assumption) (by assumption)), rfl⟩
          · try simp only [decide_eq_true_eq, decide_eq_false_iff_not, Bool.not_eq_true', Bool.not_eq_false', Bool.and_eq_true, Bool.or_eq_true, Bool.and_eq_false_iff, Bool.or_eq_false_iff, Option.isNone_some, Option.isSome_some, Option.isNone_none, Option.isSome_none, Int.not_lt, Int.not_le, beq_iff_eq, beq_eq_false_iff_ne, bne_iff_ne, ne_eq, Bool.not_not, Decidable.not_not] at h72
            refine JQ.no rfl rfl rfl ?_
            refine JQ.no rfl rfl rfl ?_
            refine JQ.no rfl rfl rfl ?_
            refine JQ.no rfl rfl rfl ?_
            refine JQ.no rfl rfl rfl ?_
            refine JQ.no rfl rfl rfl ?_
            refine JQ.no rfl rfl rfl ?_
            refine JQ.no rfl rfl rfl ?_
            refine JQ.no rfl rfl rfl ?_
            refine JQ.pur rfl rfl rfl (Pur.pickF rfl rfl) ?_
            refine JQ.pur rfl rfl rfl (Pur.move rfl) ?_
            refine JQ.no rfl rfl rfl ?_
            refine JQ.no rfl rfl rfl ?_
            refine JQ.no rfl rfl rfl ?_
            refine JQ.no rfl rfl rfl ?_
            refine JQ.no rfl rfl rfl ?_
            refine JQ.no rfl rfl rfl ?_
            refine JQ.no rfl rfl rfl ?_
            refine JQ.no rfl rfl rfl ?_
            refine JQ.no rfl rfl rfl ?_
            refine JQ.pur rfl rfl rfl (Pur.pickF rfl rfl) ?_
            refine JQ.pur rfl rfl rfl (Pur.move rfl) ?_
            refine JQ.no rfl rfl rfl ?_
            refine JQ.no rfl rfl rfl ?_
            refine JQ.no rfl rfl rfl ?_
            refine JQ.no rfl rfl rfl ?_
            refine JQ.no rfl rfl rfl ?_
            refine JQ.no rfl rfl rfl ?_
            refine JQ.no rfl rfl rfl ?_
            refine JQ.no rfl rfl rfl ?_
            refine JQ.no rfl rfl rfl ?_
            refine JQ.pur rfl rfl rfl (Pur.pickF rfl rfl) ?_
            refine JQ.pur rfl rfl rfl (Pur.assign rfl) ?_
            refine JQ.nil ?_
            refine J.ret rfl rfl ?_
            first
            | exact ⟨congrArg Value.bool (decide_eq_false (fun e => by subst e; simp_all)).symm, rfl⟩
            | exact ⟨congrArg Value.bool (st_eq (by assumption) (by assumption) (by assumption) (by assumption) (by assumption) (by assumption) (by assumption)), rfl⟩
        · try simp only [decide_eq_true_eq, decide_eq_false_iff_not, Bool.not_eq_true', Bool.not_eq_false', Bool.and_eq_true, Bool.or_eq_true, Bool.and_eq_false_iff, Bool.or_eq_false_iff, Option.isNone_some, Option.isSome_some, Option.isNone_none, Option.isSome_none, Int.not_lt, Int.not_le, beq_iff_eq, beq_eq_false_iff_ne, bne_iff_ne, ne_eq, Bool.not_not, Decidable.not_not] at h60
          refine JQ.no rfl rfl rfl ?_
          refine JQ.no rfl rfl rfl ?_
          refine JQ.no rfl rfl rfl ?_
          refine JQ.no rfl rfl rfl ?_
          refine JQ.no rfl rfl rfl ?_
          refine JQ.no rfl rfl rfl ?_
          refine JQ.no rfl rfl rfl ?_
          refine JQ.no rfl rfl rfl ?_
          refine JQ.no rfl rfl rfl ?_
          refine JQ.pur rfl rfl rfl (Pur.pickF rfl rfl) ?_
          refine JQ.pur rfl rfl rfl (Pur.assign rfl) ?_
          refine JQ.nil ?_
          refine J.seq rfl ?_
          refine J.quiet rfl Try.mixed (by kernel_rfl) ?_
          refine JQ.pur rfl rfl rfl (Pur.move rfl) ?_
          refine JQ.pur rfl rfl rfl (Pur.move rfl) ?_
          refine JQ.no rfl rfl rfl ?_
          refine JQ.no rfl rfl rfl ?_
          refine JQ.no rfl rfl rfl ?_
          refine JQ.no rfl rfl rfl ?_
          refine JQ.no rfl rfl rfl ?_
          refine JQ.no rfl rfl rfl ?_
          refine JQ.no rfl rfl rfl ?_
          refine JQ.no rfl rfl rfl ?_
          refine JQ.no rfl rfl rfl ?_
          refine JQ.pur rfl rfl rfl (Pur.pickF rfl rfl) ?_
          refine JQ.pur rfl rfl rfl (Pur.move rfl) ?_
          refine JQ.no rfl rfl rfl ?_
          refine JQ.no rfl rfl rfl ?_
          refine JQ.no rfl rfl rfl ?_
          refine JQ.no rfl rfl rfl ?_
          refine JQ.no rfl rfl rfl ?_
          refine JQ.no rfl rfl rfl ?_
          refine JQ.no rfl rfl rfl ?_
          refine JQ.no rfl rfl rfl ?_
          refine JQ.no rfl rfl rfl ?_
          refine JQ.pur rfl rfl rfl (Pur.pickF rfl rfl) ?_
          refine JQ.pur rfl rfl rfl (Pur.move rfl) ?_
          refine JQ.no rfl rfl rfl ?_
          refine JQ.no rfl rfl rfl ?_
          refine JQ.no rfl rfl rfl ?_
          refine JQ.no rfl rfl rfl ?_
          refine JQ.no rfl rfl rfl ?_
          refine JQ.no rfl rfl rfl ?_
          refine JQ.no rfl rfl rfl ?_
          refine JQ.no rfl rfl rfl ?_
          refine JQ.no rfl rfl rfl ?_
          refine JQ.pur rfl rfl rfl (Pur.pickF rfl rfl) ?_
          refine JQ.pur rfl rfl rfl (Pur.assign rfl) ?_
          refine JQ.nil ?_
          refine J.ret rfl rfl ?_
          first
          | exact ⟨congrArg Value.bool (decide_eq_false (fun e => by subst e; simp_all)).symm, rfl⟩
          | exact ⟨congrArg Value.bool (st_eq (by assumption) (by assumption) (by assumption) (by assumption) (by assumption) (by assumption) (by assumption)), rfl⟩
      · try simp only [decide_eq_true_eq, decide_eq_false_iff_not, Bool.not_eq_true', Bool.not_eq_false', Bool.and_eq_true, Bool.or_eq_true, Bool.and_eq_false_iff, Bool.or_eq_false_iff, Option.isNone_some, Option.isSome_some, Option.isNone_none, Option.isSome_none, Int.not_lt, Int.not_le, beq_iff_eq, beq_eq_false_iff_ne, bne_iff_ne, ne_eq, Bool.not_not, Decidable.not_not] at h49
        refine JQ.no rfl rfl rfl ?_
        refine JQ.no rfl rfl rfl ?_
        refine JQ.no rfl rfl rfl ?_
        refine JQ.no rfl rfl rfl ?_
        refine JQ.no rfl rfl rfl ?_
        refine JQ.no rfl rfl rfl ?_
        refine JQ.no rfl rfl rfl ?_
        refine JQ.no rfl rfl rfl ?_
        refine JQ.no rfl rfl rfl ?_
        refine JQ.pur rfl rfl rfl (Pur.pickF rfl rfl) ?_
        refine JQ.pur rfl rfl rfl (Pur.move rfl) ?_
        refine JQ.no rfl rfl rfl ?_
        refine JQ.no rfl rfl rfl ?_
        refine JQ.no rfl rfl rfl ?_
        refine JQ.no rfl rfl rfl ?_
        refine JQ.no rfl rfl rfl ?_
        refine JQ.no rfl rfl rfl ?_
        refine JQ.no rfl rfl rfl ?_
        refine JQ.no rfl rfl rfl ?_
        refine JQ.no rfl rfl rfl ?_
        refine JQ.pur rfl rfl rfl (Pur.pickF rfl rfl) ?_
        refine JQ.pur rfl rfl rfl (Pur.assign rfl) ?_
        refine JQ.nil ?_
        refine J.seq rfl ?_
        refine J.quiet rfl Try.mixed (by kernel_rfl) ?_
        refine JQ.pur rfl rfl rfl (Pur.move rfl) ?_
        refine JQ.pur rfl rfl rfl (Pur.move rfl) ?_
        refine JQ.no rfl rfl rfl ?_
        refine JQ.no rfl rfl rfl ?_
        refine JQ.no rfl rfl rfl ?_
        refine JQ.no rfl rfl rfl ?_
        refine JQ.no rfl rfl rfl ?_
        refine JQ.no rfl rfl rfl ?_
        refine JQ.no rfl rfl rfl ?_
        refine JQ.no rfl rfl rfl ?_
        refine JQ.no rfl rfl rfl ?_
        refine JQ.pur rfl rfl rfl (Pur.pickF rfl rfl) ?_
        refine JQ.pur rfl rfl rfl (Pur.move rfl) ?_
        refine JQ.no rfl rfl rfl ?_
        refine JQ.no rfl rfl rfl ?_
        refine JQ.no rfl rfl rfl ?_
        refine JQ.no rfl rfl rfl ?_
        refine JQ.no rfl rfl rfl ?_
        refine JQ.no rfl rfl rfl ?_
        refine JQ.no rfl rfl rfl ?_
        refine JQ.no rfl rfl rfl ?_
        refine JQ.no rfl rfl rfl ?_
        refine JQ.pur rfl rfl rfl (Pur.pickF rfl rfl) ?_
        refine JQ.pur rfl rfl rfl (Pur.move rfl) ?_
        refine JQ.no rfl rfl rfl ?_
        refine JQ.no rfl rfl rfl ?_
        refine JQ.no rfl rfl rfl ?_
        refine JQ.no rfl rfl rfl ?_
        refine JQ.no rfl rfl rfl ?_
        refine JQ.no rfl rfl rfl ?_
        refine JQ.no rfl rfl rfl ?_
        refine JQ.no rfl rfl rfl ?_
        refine JQ.no rfl rfl rfl ?_
        refine JQ.pur rfl rfl rfl (Pur.pickF rfl rfl) ?_
        refine JQ.pur rfl rfl rfl (Pur.assign rfl) ?_
        refine JQ.nil ?_
        refine J.ret rfl rfl ?_
        first
        | exact ⟨congrArg Value.bool (decide_eq_false (fun e => by subst e; simp_all)).symm, rfl⟩
        | exact ⟨congrArg Value.bool (st_eq (by assumption) (by assumption) (by assumption) (by assumption) (by assumption) (by assumption) (by assumption)), rfl⟩
    · try simp only [decide_eq_true_eq, decide_eq_false_iff_not, Bool.not_eq_true', Bool.not_eq_false', Bool.and_eq_true, Bool.or_eq_true, Bool.and_eq_false_iff, Bool.or_eq_false_iff, Option.isNone_some, Option.isSome_some, Option.isNone_none, Option.isSome_none, Int.not_lt, Int.not_le, beq_iff_eq, beq_eq_false_iff_ne, bne_iff_ne, ne_eq, Bool.not_not, Decidable.not_not] at h38
      refine JQ.no rfl rfl rfl ?_
      refine JQ.no rfl rfl rfl ?_
      refine JQ.no rfl rfl rfl ?_
      refine JQ.no rfl rfl rfl ?_
      refine JQ.no rfl rfl rfl ?_
      refine JQ.no rfl rfl rfl ?_
      refine JQ.no rfl rfl rfl ?_
      refine JQ.no rfl rfl rfl ?_
      refine JQ.no rfl rfl rfl ?_
      refine JQ.pur rfl rfl rfl (Pur.pickF rfl rfl) ?_
      refine JQ.pur rfl rfl rfl (Pur.move rfl) ?_
      refine JQ.no rfl rfl rfl ?_
      refine JQ.no rfl rfl rfl ?_
      refine JQ.no rfl rfl rfl ?_
      refine JQ.no rfl rfl rfl ?_
      refine JQ.no rfl rfl rfl ?_
      refine JQ.no rfl rfl rfl ?_
      refine JQ.no rfl rfl rfl ?_
      refine JQ.no rfl rfl rfl ?_
      refine JQ.no rfl rfl rfl ?_
      refine JQ.pur rfl rfl rfl (Pur.pickF rfl rfl) ?_
      refine JQ.pur rfl rfl rfl (Pur.move rfl) ?_
      refine JQ.no rfl rfl rfl ?_
      refine JQ.no rfl rfl rfl ?_
      refine JQ.no rfl rfl rfl ?_
      refine JQ.no rfl rfl rfl ?_
      refine JQ.no rfl rfl rfl ?_
      refine JQ.no rfl rfl rfl ?_
      refine JQ.no rfl rfl rfl ?_
      refine JQ.no rfl rfl rfl ?_
      refine JQ.no rfl rfl rfl ?_
      refine JQ.pur rfl rfl rfl (Pur.pickF rfl rfl) ?_
      refine JQ.pur rfl rfl rfl (Pur.assign rfl) ?_
      refine JQ.nil ?_
      refine J.seq rfl ?_
      refine J.quiet rfl Try.mixed (by kernel_rfl) ?_
      refine JQ.pur rfl rfl rfl (Pur.move rfl) ?_
      refine JQ.pur rfl rfl rfl (Pur.move rfl) ?_
      refine JQ.no rfl rfl rfl ?_
      refine JQ.no rfl rfl rfl ?_
      refine JQ.no rfl rfl rfl ?_
      refine JQ.no rfl rfl rfl ?_
      refine JQ.no rfl rfl rfl ?_
      refine JQ.no rfl rfl rfl ?_
      refine JQ.no rfl rfl rfl ?_
      refine JQ.no rfl rfl rfl ?_
      refine JQ.no rfl rfl rfl ?_
      refine JQ.pur rfl rfl rfl (Pur.pickF rfl rfl) ?_
      refine JQ.pur rfl rfl rfl (Pur.move rfl) ?_
      refine JQ.no rfl rfl rfl ?_
      refine JQ.no rfl rfl rfl ?_
      refine JQ.no rfl rfl rfl ?_
      refine JQ.no rfl rfl rfl ?_
      refine JQ.no rfl rfl rfl ?_
      refine JQ.no rfl rfl rfl ?_
      refine JQ.no rfl rfl rfl ?_
      refine JQ.no rfl rfl rfl ?_
      refine JQ.no rfl rfl rfl ?_
      refine JQ.pur rfl rfl rfl (Pur.pickF rfl rfl) ?_
      refine JQ.pur rfl rfl rfl (Pur.move rfl) ?_
      refine JQ.no rfl rfl rfl ?_
      refine JQ.no rfl rfl rfl ?_
      refine JQ.no rfl rfl rfl ?_
      refine JQ.no rfl rfl rfl ?_
      refine JQ.no rfl rfl rfl ?_
      refine JQ.no rfl rfl rfl ?_
      refine JQ.no rfl rfl rfl ?_
      refine JQ.no rfl rfl rfl ?_
      refine JQ.no rfl rfl rfl ?_
      refine JQ.pur rfl rfl rfl (Pur.pickF rfl rfl) ?_
      refine JQ.pur rfl rfl rfl (Pur.assign rfl) ?_
      refine JQ.nil ?_
      refine J.ret rfl rfl ?_
      first
      | exact ⟨congrArg Value.bool (decide_eq_false (fun e => by subst e; simp_all)).symm, rfl⟩
      | exact ⟨congrArg Value.bool (st_eq (by assumption) (by assumption) (by assumption) (by assumption) (by assumption) (by assumption) (by assumption)), rfl⟩
  · try simp only [decide_eq_true_eq, decide_eq_false_iff_not, Bool.not_eq_true', Bool.not_eq_false', Bool.and_eq_true, Bool.or_eq_true, Bool.and_eq_false_iff, Bool.or_eq_false_iff, Option.isNone_some, Option.isSome_some, Option.isNone_none, Option.isSome_none, Int.not_lt, Int.not_le, beq_iff_eq, beq_eq_false_iff_ne, bne_iff_ne, ne_eq, Bool.not_not, Decidable.not_not] at h27
    refine JQ.no rfl rfl rfl ?_
    refine JQ.no rfl rfl rfl ?_
    refine JQ.no rfl rfl rfl ?_
    refine JQ.no rfl rfl rfl ?_
    refine JQ.no rfl rfl rfl ?_
    refine JQ.no rfl rfl rfl ?_
    refine JQ.no rfl rfl rfl ?_
    refine JQ.no rfl rfl rfl ?_
    refine JQ.no rfl rfl rfl ?_
    refine JQ.pur rfl rfl rfl (Pur.pickF rfl rfl) ?_
    refine JQ.pur rfl rfl rfl (Pur.move rfl) ?_
    refine JQ.no rfl rfl rfl ?_
    refine JQ.no rfl rfl rfl ?_
    refine JQ.no rfl rfl rfl ?_
    refine JQ.no rfl rfl rfl ?_
    refine JQ.no rfl rfl rfl ?_
    refine JQ.no rfl rfl rfl ?_
    refine JQ.no rfl rfl rfl ?_
    refine JQ.no rfl rfl rfl ?_
    refine JQ.no rfl rfl rfl ?_
    refine JQ.pur rfl rfl rfl (Pur.pickF rfl rfl) ?_
    refine JQ.pur rfl rfl rfl (Pur.move rfl) ?_
    refine JQ.no rfl rfl rfl ?_
    refine JQ.no rfl rfl rfl ?_
    refine JQ.no rfl rfl rfl ?_
    refine JQ.no rfl rfl rfl ?_
    refine JQ.no rfl rfl rfl ?_
    refine JQ.no rfl rfl rfl ?_
    refine JQ.no rfl rfl rfl ?_
    refine JQ.no rfl rfl rfl ?_
    refine JQ.no rfl rfl rfl ?_
    refine JQ.pur rfl rfl rfl (Pur.pickF rfl rfl) ?_
    refine JQ.pur rfl rfl rfl (Pur.move rfl) ?_
    refine JQ.no rfl rfl rfl ?_
    refine JQ.no rfl rfl rfl ?_
    refine JQ.no rfl rfl rfl ?_
    refine JQ.no rfl rfl rfl ?_
    refine JQ.no rfl rfl rfl ?_
    refine JQ.no rfl rfl rfl ?_
    refine JQ.no rfl rfl rfl ?_
    refine JQ.no rfl rfl rfl ?_
    refine JQ.no rfl rfl rfl ?_
    refine JQ.pur rfl rfl rfl (Pur.pickF rfl rfl) ?_
    refine JQ.pur rfl rfl rfl (Pur.assign rfl) ?_
    refine JQ.nil ?_
    refine J.seq rfl ?_
    refine J.quiet rfl Try.mixed (by kernel_rfl) ?_
    refine JQ.pur rfl rfl rfl (Pur.move rfl) ?_
    refine JQ.pur rfl rfl rfl (Pur.move rfl) ?_
    refine JQ.no rfl rfl rfl ?_
    refine JQ.no rfl rfl rfl ?_
    refine JQ.no rfl rfl rfl ?_
    refine JQ.no rfl rfl rfl ?_
    refine JQ.no rfl rfl rfl ?_
    refine JQ.no rfl rfl rfl ?_
    refine JQ.no rfl rfl rfl ?_
    refine JQ.no rfl rfl rfl ?_
    refine JQ.no rfl rfl rfl ?_
    refine JQ.pur rfl rfl rfl (Pur.pickF rfl rfl) ?_
    refine JQ.pur rfl rfl rfl (Pur.move rfl) ?_
    refine JQ.no rfl rfl rfl ?_
    refine JQ.no rfl rfl rfl ?_
    refine JQ.no rfl rfl rfl ?_
    refine JQ.no rfl rfl rfl ?_
    refine JQ.no rfl rfl rfl ?_
    refine JQ.no rfl rfl rfl ?_
    refine JQ.no rfl rfl rfl ?_
    refine JQ.no rfl rfl rfl ?_
    refine JQ.no rfl rfl rfl ?_
    refine JQ.pur rfl rfl rfl (Pur.pickF rfl rfl) ?_
    refine JQ.pur rfl rfl rfl (Pur.move rfl) ?_
    refine JQ.no rfl rfl rfl ?_
    refine JQ.no rfl rfl rfl ?_
    refine JQ.no rfl rfl rfl ?_
    refine JQ.no rfl rfl rfl ?_
    refine JQ.no rfl rfl rfl ?_
    refine JQ.no rfl rfl rfl ?_
    refine JQ.no rfl rfl rfl ?_
    refine JQ.no rfl rfl rfl ?_
    refine JQ.no rfl rfl rfl ?_
    refine JQ.pur rfl rfl rfl (Pur.pickF rfl rfl) ?_
    refine JQ.pur rfl rfl rfl (Pur.assign rfl) ?_
    refine JQ.nil ?_
    refine J.ret rfl rfl ?_
    first
    | exact ⟨congrArg Value.bool (decide_eq_false (fun e => by subst e; simp_all)).symm, rfl⟩
    | exact ⟨congrArg Value.bool (st_eq (by assumption) (by assumption) (by assumption) (by assumption) (by assumption) (by assumption) (by assumption)), rfl⟩

end Go.Proofs.Ytnllgmfpejjcnaa
