/-
  A part of the proof of the claim that this folder bears.
  This text: QSame2.
-/
import Derived.Test.YtnllgmfpejjcnaaQSame
set_option linter.unusedVariables false
set_option linter.unusedSimpArgs false
namespace Go.Proofs.Ytnllgmfpejjcnaa
open Go Go.KK Qt

theorem fsame_core {L : List Asn} {r q : Nat} {σ τ : St} {a1x a2x a3x a4x a1y a2y a3y a4y : Option Addr} {c1x c2x c3x c4x c1y c2y c3y c4y : Nat} [BlkIn L r (.cells #[.int .i64 σ.spots.length, .slice a1x σ.spots.length c1x, .slice a2x σ.spots.length c2x, .slice a3x σ.spots.length c3x, .slice a4x σ.fly.length c4x, .int .i64 σ.pos, .int .i64 σ.sum, .bool σ.dark, .bool σ.fresh, .bool σ.told, .int .i64 σ.passes] 64 (0, 0))] [BlkIn L q (.cells #[.int .i64 τ.spots.length, .slice a1y τ.spots.length c1y, .slice a2y τ.spots.length c2y, .slice a3y τ.spots.length c3y, .slice a4y τ.fly.length c4y, .int .i64 τ.pos, .int .i64 τ.sum, .bool τ.dark, .bool τ.fresh, .bool τ.told, .int .i64 τ.passes] 64 (0, 0))] [SlIn boolE L a1x (σ.spots.map (·.active))] [SlIn boolE L a2x (σ.spots.map (·.black))] [SlIn intE L a3x (σ.spots.map (·.count))] [SlIn pairE L a4x σ.fly] [SlIn boolE L a1y (τ.spots.map (·.active))] [SlIn boolE L a2y (τ.spots.map (·.black))] [SlIn intE L a3y (τ.spots.map (·.count))] [SlIn pairE L a4y τ.fly] {N M : Nat} (hw : Wf σ N) (hv : Wf τ M) :
    CallS Try.prog 31 [.pointer (some ⟨r, 0, none⟩), .pointer (some ⟨q, 0, none⟩)].toArray L (fun v M => v = .bool (decide (σ = τ)) ∧ M = L) := by
  have w1 := hw.pos
  have w2 := hv.pos
  have w3 := hw.le
  have w4 := hw.len
  have w5 := hw.num
  refine CallS.enter Try.func31 rfl rfl rfl rfl rfl ?_
  refine J.seq rfl ?_
  refine J.region rfl ?_
  refine JO.pur rfl rfl rfl (Pur.assign rfl) ?_
  refine JO.nil ?_
  refine J.seq rfl ?_
  refine J.seq rfl ?_
  refine J.quiet rfl Try.mixed (by kernel_rfl) ?_
  refine JQ.pur rfl rfl rfl (Pur.move rfl) ?_
  refine JQ.pur rfl rfl rfl (Pur.nilCheck rfl) ?_
  refine JQ.pur rfl rfl rfl (Pur.fieldAddr rfl) ?_
  refine JQ.pur rfl rfl rfl (Pur.load rfl (CellIn.blk rfl)) ?_
  refine JQ.pur rfl rfl rfl (Pur.move rfl) ?_
  refine JQ.pur rfl rfl rfl (Pur.nilCheck rfl) ?_
  refine JQ.pur rfl rfl rfl (Pur.fieldAddr rfl) ?_
  refine JQ.pur rfl rfl rfl (Pur.load rfl (CellIn.blk rfl)) ?_
  refine JQ.pur rfl rfl rfl (Pur.neqI rfl rfl) ?_
  refine JQ.pur rfl rfl rfl (Pur.move rfl) ?_
  refine JQ.splitB 15 rfl (fun h15 => ?_) (fun h15 => ?_)
  · try simp only [decide_eq_true_eq, decide_eq_false_iff_not, Bool.not_eq_true', Bool.not_eq_false', Bool.and_eq_true, Bool.or_eq_true, Bool.and_eq_false_iff, Bool.or_eq_false_iff, Option.isNone_some, Option.isSome_some, Option.isNone_none, Option.isSome_none, Int.not_lt, Int.not_le, beq_iff_eq, beq_eq_false_iff_ne, bne_iff_ne, ne_eq, Bool.not_not, Decidable.not_not] at h15
    refine JQ.no rfl rfl rfl ?_
    refine JQ.no rfl rfl rfl ?_
    refine JQ.no rfl rfl rfl ?_
    refine JQ.no rfl rfl rfl ?_
    refine JQ.no rfl rfl rfl ?_
    refine JQ.no rfl rfl rfl ?_
    refine JQ.no rfl rfl rfl ?_
    refine JQ.no rfl rfl rfl ?_
    refine JQ.no rfl rfl rfl ?_
    refine JQ.no rfl rfl rfl ?_
    refine JQ.no rfl rfl rfl ?_
    refine JQ.pur rfl rfl rfl (Pur.pickT rfl rfl) ?_
    refine JQ.pur rfl rfl rfl (Pur.move rfl) ?_
    refine JQ.no rfl rfl rfl ?_
    refine JQ.no rfl rfl rfl ?_
    refine JQ.no rfl rfl rfl ?_
    refine JQ.no rfl rfl rfl ?_
    refine JQ.no rfl rfl rfl ?_
    refine JQ.no rfl rfl rfl ?_
    refine JQ.no rfl rfl rfl ?_
    refine JQ.no rfl rfl rfl ?_
    refine JQ.no rfl rfl rfl ?_
    refine JQ.pur rfl rfl rfl (Pur.pickT rfl rfl) ?_
    refine JQ.pur rfl rfl rfl (Pur.move rfl) ?_
    refine JQ.no rfl rfl rfl ?_
    refine JQ.no rfl rfl rfl ?_
    refine JQ.no rfl rfl rfl ?_
    refine JQ.no rfl rfl rfl ?_
    refine JQ.no rfl rfl rfl ?_
    refine JQ.no rfl rfl rfl ?_
    refine JQ.no rfl rfl rfl ?_
    refine JQ.no rfl rfl rfl ?_
    refine JQ.no rfl rfl rfl ?_
    refine JQ.pur rfl rfl rfl (Pur.pickT rfl rfl) ?_
    refine JQ.pur rfl rfl rfl (Pur.move rfl) ?_
    refine JQ.no rfl rfl rfl ?_
    refine JQ.no rfl rfl rfl ?_
    refine JQ.no rfl rfl rfl ?_
    refine JQ.no rfl rfl rfl ?_
    refine JQ.no rfl rfl rfl ?_
    refine JQ.no rfl rfl rfl ?_
    refine JQ.no rfl rfl rfl ?_
    refine JQ.no rfl rfl rfl ?_
    refine JQ.no rfl rfl rfl ?_
    refine JQ.pur rfl rfl rfl (Pur.pickT rfl rfl) ?_
    refine JQ.pur rfl rfl rfl (Pur.move rfl) ?_
    refine JQ.no rfl rfl rfl ?_
    refine JQ.no rfl rfl rfl ?_
    refine JQ.no rfl rfl rfl ?_
    refine JQ.no rfl rfl rfl ?_
    refine JQ.no rfl rfl rfl ?_
    refine JQ.no rfl rfl rfl ?_
    refine JQ.no rfl rfl rfl ?_
    refine JQ.no rfl rfl rfl ?_
    refine JQ.no rfl rfl rfl ?_
    refine JQ.pur rfl rfl rfl (Pur.pickT rfl rfl) ?_
    refine JQ.pur rfl rfl rfl (Pur.move rfl) ?_
    refine JQ.no rfl rfl rfl ?_
    refine JQ.no rfl rfl rfl ?_
    refine JQ.no rfl rfl rfl ?_
    refine JQ.no rfl rfl rfl ?_
    refine JQ.no rfl rfl rfl ?_
    refine JQ.no rfl rfl rfl ?_
    refine JQ.no rfl rfl rfl ?_
    refine JQ.no rfl rfl rfl ?_
    refine JQ.no rfl rfl rfl ?_
    refine JQ.pur rfl rfl rfl (Pur.pickT rfl rfl) ?_
    refine JQ.pur rfl rfl rfl (Pur.move rfl) ?_
    refine JQ.no rfl rfl rfl ?_
    refine JQ.no rfl rfl rfl ?_
    refine JQ.no rfl rfl rfl ?_
    refine JQ.no rfl rfl rfl ?_
    refine JQ.no rfl rfl rfl ?_
    refine JQ.no rfl rfl rfl ?_
    refine JQ.no rfl rfl rfl ?_
    refine JQ.no rfl rfl rfl ?_
    refine JQ.no rfl rfl rfl ?_
    refine JQ.pur rfl rfl rfl (Pur.pickT rfl rfl) ?_
    refine JQ.nil ?_
    refine J.condT rfl rfl ?_
    refine J.seq rfl ?_
    refine J.region rfl ?_
    refine JO.pur rfl rfl rfl (Pur.assign rfl) ?_
    refine JO.nil ?_
    refine J.ret rfl rfl ?_
    first
    | exact ⟨congrArg Value.bool (decide_eq_false (fun e => by subst e; simp_all)).symm, rfl⟩
    | exact ⟨congrArg Value.bool (st_eq (take_all_eq hi2 (by omega) (by omega)) h39 h50 (by simpa using h61) (by simpa using h72) (by simpa using h83) h93), rfl⟩
    | (refine ⟨congrArg Value.bool (decide_eq_false (fun e => ?_)).symm, rfl⟩; subst e; first | exact h117 rfl | exact h134 rfl | exact h150 rfl)
    | exact ⟨congrArg Value.bool (st_eq (take_all_eq hi2 (by omega) (by omega)) h39 h50 (by simpa using h61) (by simpa using h72) (by simpa using h83) h93), rfl⟩
  · try simp only [decide_eq_true_eq, decide_eq_false_iff_not, Bool.not_eq_true', Bool.not_eq_false', Bool.and_eq_true, Bool.or_eq_true, Bool.and_eq_false_iff, Bool.or_eq_false_iff, Option.isNone_some, Option.isSome_some, Option.isNone_none, Option.isSome_none, Int.not_lt, Int.not_le, beq_iff_eq, beq_eq_false_iff_ne, bne_iff_ne, ne_eq, Bool.not_not, Decidable.not_not] at h15
    refine JQ.pur rfl rfl rfl (Pur.move rfl) ?_
    refine JQ.pur rfl rfl rfl (Pur.nilCheck rfl) ?_
    refine JQ.pur rfl rfl rfl (Pur.fieldAddr rfl) ?_
    refine JQ.pur rfl rfl rfl (Pur.load rfl (CellIn.blk rfl)) ?_
    refine JQ.pur rfl rfl rfl (Pur.len rfl) ?_
    refine JQ.pur rfl rfl rfl (Pur.move rfl) ?_
    refine JQ.pur rfl rfl rfl (Pur.nilCheck rfl) ?_
    refine JQ.pur rfl rfl rfl (Pur.fieldAddr rfl) ?_
    refine JQ.pur rfl rfl rfl (Pur.load rfl (CellIn.blk rfl)) ?_
    refine JQ.pur rfl rfl rfl (Pur.len rfl) ?_
    refine JQ.pur rfl rfl rfl (Pur.neqI rfl rfl) ?_
    refine JQ.pur rfl rfl rfl (Pur.pickF rfl rfl) ?_
    refine JQ.pur rfl rfl rfl (Pur.move rfl) ?_
    refine JQ.splitB 28 rfl (fun h28 => ?_) (fun h28 => ?_)
    · try simp only [decide_eq_true_eq, decide_eq_false_iff_not, Bool.not_eq_true', Bool.not_eq_false', Bool.and_eq_true, Bool.or_eq_true, Bool.and_eq_false_iff, Bool.or_eq_false_iff, Option.isNone_some, Option.isSome_some, Option.isNone_none, Option.isSome_none, Int.not_lt, Int.not_le, beq_iff_eq, beq_eq_false_iff_ne, bne_iff_ne, ne_eq, Bool.not_not, Decidable.not_not] at h28
      refine JQ.no rfl rfl rfl ?_
      refine JQ.no rfl rfl rfl ?_
      refine JQ.no rfl rfl rfl ?_
      refine JQ.no rfl rfl rfl ?_
      refine JQ.no rfl rfl rfl ?_
      refine JQ.no rfl rfl rfl ?_
      refine JQ.no rfl rfl rfl ?_
      refine JQ.no rfl rfl rfl ?_
      refine JQ.no rfl rfl rfl ?_
      refine JQ.pur rfl rfl rfl (Pur.pickT rfl rfl) ?_
      refine JQ.pur rfl rfl rfl (Pur.move rfl) ?_
      refine JQ.no rfl rfl rfl ?_
      refine JQ.no rfl rfl rfl ?_
      refine JQ.no rfl rfl rfl ?_
      refine JQ.no rfl rfl rfl ?_
      refine JQ.no rfl rfl rfl ?_
      refine JQ.no rfl rfl rfl ?_
      refine JQ.no rfl rfl rfl ?_
      refine JQ.no rfl rfl rfl ?_
      refine JQ.no rfl rfl rfl ?_
      refine JQ.pur rfl rfl rfl (Pur.pickT rfl rfl) ?_
      refine JQ.pur rfl rfl rfl (Pur.move rfl) ?_
      refine JQ.no rfl rfl rfl ?_
      refine JQ.no rfl rfl rfl ?_
      refine JQ.no rfl rfl rfl ?_
      refine JQ.no rfl rfl rfl ?_
      refine JQ.no rfl rfl rfl ?_
      refine JQ.no rfl rfl rfl ?_
      refine JQ.no rfl rfl rfl ?_
      refine JQ.no rfl rfl rfl ?_
      refine JQ.no rfl rfl rfl ?_
      refine JQ.pur rfl rfl rfl (Pur.pickT rfl rfl) ?_
      refine JQ.pur rfl rfl rfl (Pur.move rfl) ?_
      refine JQ.no rfl rfl rfl ?_
      refine JQ.no rfl rfl rfl ?_
      refine JQ.no rfl rfl rfl ?_
      refine JQ.no rfl rfl rfl ?_
      refine JQ.no rfl rfl rfl ?_
      refine JQ.no rfl rfl rfl ?_
      refine JQ.no rfl rfl rfl ?_
      refine JQ.no rfl rfl rfl ?_
      refine JQ.no rfl rfl rfl ?_
      refine JQ.pur rfl rfl rfl (Pur.pickT rfl rfl) ?_
      refine JQ.pur rfl rfl rfl (Pur.move rfl) ?_
      refine JQ.no rfl rfl rfl ?_
      refine JQ.no rfl rfl rfl ?_
      refine JQ.no rfl rfl rfl ?_
      refine JQ.no rfl rfl rfl ?_
      refine JQ.no rfl rfl rfl ?_
      refine JQ.no rfl rfl rfl ?_
      refine JQ.no rfl rfl rfl ?_
      refine JQ.no rfl rfl rfl ?_
      refine JQ.no rfl rfl rfl ?_
      refine JQ.pur rfl rfl rfl (Pur.pickT rfl rfl) ?_
      refine JQ.pur rfl rfl rfl (Pur.move rfl) ?_
      refine JQ.no rfl rfl rfl ?_
      refine JQ.no rfl rfl rfl ?_
      refine JQ.no rfl rfl rfl ?_
      refine JQ.no rfl rfl rfl ?_
      refine JQ.no rfl rfl rfl ?_
      refine JQ.no rfl rfl rfl ?_
      refine JQ.no rfl rfl rfl ?_
      refine JQ.no rfl rfl rfl ?_
      refine JQ.no rfl rfl rfl ?_
      refine JQ.pur rfl rfl rfl (Pur.pickT rfl rfl) ?_
      refine JQ.nil ?_
      refine J.condT rfl rfl ?_
      refine J.seq rfl ?_
      refine J.region rfl ?_
      refine JO.pur rfl rfl rfl (Pur.assign rfl) ?_
      refine JO.nil ?_
      refine J.ret rfl rfl ?_
      first
      | exact ⟨congrArg Value.bool (decide_eq_false (fun e => by subst e; simp_all)).symm, rfl⟩
      | exact ⟨congrArg Value.bool (st_eq (take_all_eq hi2 (by omega) (by omega)) h39 h50 (by simpa using h61) (by simpa using h72) (by simpa using h83) h93), rfl⟩
      | (refine ⟨congrArg Value.bool (decide_eq_false (fun e => ?_)).symm, rfl⟩; subst e; first | exact h117 rfl | exact h134 rfl | exact h150 rfl)
      | exact ⟨congrArg Value.bool (st_eq (take_all_eq hi2 (by omega) (by omega)) h39 h50 (by simpa using h61) (by simpa using h72) (by simpa using h83) h93), rfl⟩
    · try simp only [decide_eq_true_eq, decide_eq_false_iff_not, Bool.not_eq_true', Bool.not_eq_false', Bool.and_eq_true, Bool.or_eq_true, Bool.and_eq_false_iff, Bool.or_eq_false_iff, Option.isNone_some, Option.isSome_some, Option.isNone_none, Option.isSome_none, Int.not_lt, Int.not_le, beq_iff_eq, beq_eq_false_iff_ne, bne_iff_ne, ne_eq, Bool.not_not, Decidable.not_not] at h28
      refine JQ.pur rfl rfl rfl (Pur.move rfl) ?_
      refine JQ.pur rfl rfl rfl (Pur.nilCheck rfl) ?_
      refine JQ.pur rfl rfl rfl (Pur.fieldAddr rfl) ?_
      refine JQ.pur rfl rfl rfl (Pur.load rfl (CellIn.blk rfl)) ?_
      refine JQ.pur rfl rfl rfl (Pur.move rfl) ?_
      refine JQ.pur rfl rfl rfl (Pur.nilCheck rfl) ?_
      refine JQ.pur rfl rfl rfl (Pur.fieldAddr rfl) ?_
      refine JQ.pur rfl rfl rfl (Pur.load rfl (CellIn.blk rfl)) ?_
      refine JQ.pur rfl rfl rfl (Pur.neqI rfl rfl) ?_
      refine JQ.pur rfl rfl rfl (Pur.pickF rfl rfl) ?_
      refine JQ.pur rfl rfl rfl (Pur.move rfl) ?_
      refine JQ.splitB 39 rfl (fun h39 => ?_) (fun h39 => ?_)
      · try simp only [decide_eq_true_eq, decide_eq_false_iff_not, Bool.not_eq_true', Bool.not_eq_false', Bool.and_eq_true, Bool.or_eq_true, Bool.and_eq_false_iff, Bool.or_eq_false_iff, Option.isNone_some, Option.isSome_some, Option.isNone_none, Option.isSome_none, Int.not_lt, Int.not_le, beq_iff_eq, beq_eq_false_iff_ne, bne_iff_ne, ne_eq, Bool.not_not, Decidable.not_not] at h39
        refine JQ.no rfl rfl rfl ?_
        refine JQ.no rfl rfl rfl ?_
        refine JQ.no rfl rfl rfl ?_
        refine JQ.no rfl rfl rfl ?_
        refine JQ.no rfl rfl rfl ?_
        refine JQ.no rfl rfl rfl ?_
        refine JQ.no rfl rfl rfl ?_
        refine JQ.no rfl rfl rfl ?_
        refine JQ.no rfl rfl rfl ?_
        refine JQ.pur rfl rfl rfl (Pur.pickT rfl rfl) ?_
        refine JQ.pur rfl rfl rfl (Pur.move rfl) ?_
        refine JQ.no rfl rfl rfl ?_
        refine JQ.no rfl rfl rfl ?_
        refine JQ.no rfl rfl rfl ?_
        refine JQ.no rfl rfl rfl ?_
        refine JQ.no rfl rfl rfl ?_
        refine JQ.no rfl rfl rfl ?_
        refine JQ.no rfl rfl rfl ?_
        refine JQ.no rfl rfl rfl ?_
        refine JQ.no rfl rfl rfl ?_
        refine JQ.pur rfl rfl rfl (Pur.pickT rfl rfl) ?_
        refine JQ.pur rfl rfl rfl (Pur.move rfl) ?_
        refine JQ.no rfl rfl rfl ?_
        refine JQ.no rfl rfl rfl ?_
        refine JQ.no rfl rfl rfl ?_
        refine JQ.no rfl rfl rfl ?_
        refine JQ.no rfl rfl rfl ?_
        refine JQ.no rfl rfl rfl ?_
        refine JQ.no rfl rfl rfl ?_
        refine JQ.no rfl rfl rfl ?_
        refine JQ.no rfl rfl rfl ?_
        refine JQ.pur rfl rfl rfl (Pur.pickT rfl rfl) ?_
        refine JQ.pur rfl rfl rfl (Pur.move rfl) ?_
        refine JQ.no rfl rfl rfl ?_
        refine JQ.no rfl rfl rfl ?_
        refine JQ.no rfl rfl rfl ?_
        refine JQ.no rfl rfl rfl ?_
        refine JQ.no rfl rfl rfl ?_
        refine JQ.no rfl rfl rfl ?_
        refine JQ.no rfl rfl rfl ?_
        refine JQ.no rfl rfl rfl ?_
        refine JQ.no rfl rfl rfl ?_
        refine JQ.pur rfl rfl rfl (Pur.pickT rfl rfl) ?_
        refine JQ.pur rfl rfl rfl (Pur.move rfl) ?_
        refine JQ.no rfl rfl rfl ?_
        refine JQ.no rfl rfl rfl ?_
        refine JQ.no rfl rfl rfl ?_
        refine JQ.no rfl rfl rfl ?_
        refine JQ.no rfl rfl rfl ?_
        refine JQ.no rfl rfl rfl ?_
        refine JQ.no rfl rfl rfl ?_
        refine JQ.no rfl rfl rfl ?_
        refine JQ.no rfl rfl rfl ?_
        refine JQ.pur rfl rfl rfl (Pur.pickT rfl rfl) ?_
        refine JQ.nil ?_
        refine J.condT rfl rfl ?_
        refine J.seq rfl ?_
        refine J.region rfl ?_
        refine JO.pur rfl rfl rfl (Pur.assign rfl) ?_
        refine JO.nil ?_
        refine J.ret rfl rfl ?_
        first
        | exact ⟨congrArg Value.bool (decide_eq_false (fun e => by subst e; simp_all)).symm, rfl⟩
        | exact ⟨congrArg Value.bool (st_eq (take_all_eq hi2 (by omega) (by omega)) h39 h50 (by simpa using h61) (by simpa using h72) (by simpa using h83) h93), rfl⟩
        | (refine ⟨congrArg Value.bool (decide_eq_false (fun e => ?_)).symm, rfl⟩; subst e; first | exact h117 rfl | exact h134 rfl | exact h150 rfl)
        | exact ⟨congrArg Value.bool (st_eq (take_all_eq hi2 (by omega) (by omega)) h39 h50 (by simpa using h61) (by simpa using h72) (by simpa using h83) h93), rfl⟩
      · try simp only [decide_eq_true_eq, decide_eq_false_iff_not, Bool.not_eq_true', Bool.not_eq_false', Bool.and_eq_true, Bool.or_eq_true, Bool.and_eq_false_iff, Bool.or_eq_false_iff, Option.isNone_some, Option.isSome_some, Option.isNone_none, Option.isSome_none, Int.not_lt, Int.not_le, beq_iff_eq, beq_eq_false_iff_ne, bne_iff_ne, ne_eq, Bool.not_not, Decidable.not_not] at h39
        refine JQ.pur rfl rfl rfl (Pur.move rfl) ?_
        refine JQ.pur rfl rfl rfl (Pur.nilCheck rfl) ?_
        refine JQ.pur rfl rfl rfl (Pur.fieldAddr rfl) ?_
        refine JQ.pur rfl rfl rfl (Pur.load rfl (CellIn.blk rfl)) ?_
        refine JQ.pur rfl rfl rfl (Pur.move rfl) ?_
        refine JQ.pur rfl rfl rfl (Pur.nilCheck rfl) ?_
        refine JQ.pur rfl rfl rfl (Pur.fieldAddr rfl) ?_
        refine JQ.pur rfl rfl rfl (Pur.load rfl (CellIn.blk rfl)) ?_
        refine JQ.pur rfl rfl rfl (Pur.neqI rfl rfl) ?_
        refine JQ.pur rfl rfl rfl (Pur.pickF rfl rfl) ?_
        refine JQ.pur rfl rfl rfl (Pur.move rfl) ?_
        refine JQ.splitB 50 rfl (fun h50 => ?_) (fun h50 => ?_)
        · try simp only [decide_eq_true_eq, decide_eq_false_iff_not, Bool.not_eq_true', Bool.not_eq_false', Bool.and_eq_true, Bool.or_eq_true, Bool.and_eq_false_iff, Bool.or_eq_false_iff, Option.isNone_some, Option.isSome_some, Option.isNone_none, Option.isSome_none, Int.not_lt, Int.not_le, beq_iff_eq, beq_eq_false_iff_ne, bne_iff_ne, ne_eq, Bool.not_not, Decidable.not_not] at h50
          refine JQ.no rfl rfl rfl ?_
          refine JQ.no rfl rfl rfl ?_
          refine JQ.no rfl rfl rfl ?_
          refine JQ.no rfl rfl rfl ?_
          refine JQ.no rfl rfl rfl ?_
          refine JQ.no rfl rfl rfl ?_
          refine JQ.no rfl rfl rfl ?_
          refine JQ.no rfl rfl rfl ?_
          refine JQ.no rfl rfl rfl ?_
          refine JQ.pur rfl rfl rfl (Pur.pickT rfl rfl) ?_
          refine JQ.pur rfl rfl rfl (Pur.move rfl) ?_
          refine JQ.no rfl rfl rfl ?_
          refine JQ.no rfl rfl rfl ?_
          refine JQ.no rfl rfl rfl ?_
          refine JQ.no rfl rfl rfl ?_
          refine JQ.no rfl rfl rfl ?_
          refine JQ.no rfl rfl rfl ?_
          refine JQ.no rfl rfl rfl ?_
          refine JQ.no rfl rfl rfl ?_
          refine JQ.no rfl rfl rfl ?_
          refine JQ.pur rfl rfl rfl (Pur.pickT rfl rfl) ?_
          refine JQ.pur rfl rfl rfl (Pur.move rfl) ?_
          refine JQ.no rfl rfl rfl ?_
          refine JQ.no rfl rfl rfl ?_
          refine JQ.no rfl rfl rfl ?_
          refine JQ.no rfl rfl rfl ?_
          refine JQ.no rfl rfl rfl ?_
          refine JQ.no rfl rfl rfl ?_
          refine JQ.no rfl rfl rfl ?_
          refine JQ.no rfl rfl rfl ?_
          refine JQ.no rfl rfl rfl ?_
          refine JQ.pur rfl rfl rfl (Pur.pickT rfl rfl) ?_
          refine JQ.pur rfl rfl rfl (Pur.move rfl) ?_
          refine JQ.no rfl rfl rfl ?_
          refine JQ.no rfl rfl rfl ?_
          refine JQ.no rfl rfl rfl ?_
          refine JQ.no rfl rfl rfl ?_
          refine JQ.no rfl rfl rfl ?_
          refine JQ.no rfl rfl rfl ?_
          refine JQ.no rfl rfl rfl ?_
          refine JQ.no rfl rfl rfl ?_
          refine JQ.no rfl rfl rfl ?_
          refine JQ.pur rfl rfl rfl (Pur.pickT rfl rfl) ?_
          refine JQ.nil ?_
          refine J.condT rfl rfl ?_
          refine J.seq rfl ?_
          refine J.region rfl ?_
          refine JO.pur rfl rfl rfl (Pur.assign rfl) ?_
          refine JO.nil ?_
          refine J.ret rfl rfl ?_
          first
          | exact ⟨congrArg Value.bool (decide_eq_false (fun e => by subst e; simp_all)).symm, rfl⟩
          | exact ⟨congrArg Value.bool (st_eq (take_all_eq hi2 (by omega) (by omega)) h39 h50 (by simpa using h61) (by simpa using h72) (by simpa using h83) h93), rfl⟩
          | (refine ⟨congrArg Value.bool (decide_eq_false (fun e => ?_)).symm, rfl⟩; subst e; first | exact h117 rfl | exact h134 rfl | exact h150 rfl)
          | exact ⟨congrArg Value.bool (st_eq (take_all_eq hi2 (by omega) (by omega)) h39 h50 (by simpa using h61) (by simpa using h72) (by simpa using h83) h93), rfl⟩
        · try simp only [decide_eq_true_eq, decide_eq_false_iff_not, Bool.not_eq_true', Bool.not_eq_false', Bool.and_eq_true, Bool.or_eq_true, Bool.and_eq_false_iff, Bool.or_eq_false_iff, Option.isNone_some, Option.isSome_some, Option.isNone_none, Option.isSome_none, Int.not_lt, Int.not_le, beq_iff_eq, beq_eq_false_iff_ne, bne_iff_ne, ne_eq, Bool.not_not, Decidable.not_not] at h50
          refine JQ.pur rfl rfl rfl (Pur.move rfl) ?_
          refine JQ.pur rfl rfl rfl (Pur.nilCheck rfl) ?_
          refine JQ.pur rfl rfl rfl (Pur.fieldAddr rfl) ?_
          refine JQ.pur rfl rfl rfl (Pur.load rfl (CellIn.blk rfl)) ?_
          refine JQ.pur rfl rfl rfl (Pur.move rfl) ?_
          refine JQ.pur rfl rfl rfl (Pur.nilCheck rfl) ?_
          refine JQ.pur rfl rfl rfl (Pur.fieldAddr rfl) ?_
          refine JQ.pur rfl rfl rfl (Pur.load rfl (CellIn.blk rfl)) ?_
          refine JQ.pur rfl rfl rfl (Pur.neqB rfl rfl) ?_
          refine JQ.pur rfl rfl rfl (Pur.pickF rfl rfl) ?_
          refine JQ.pur rfl rfl rfl (Pur.move rfl) ?_
          refine JQ.splitB 61 rfl (fun h61 => ?_) (fun h61 => ?_)
          · try simp only [decide_eq_true_eq, decide_eq_false_iff_not, Bool.not_eq_true', Bool.not_eq_false', Bool.and_eq_true, Bool.or_eq_true, Bool.and_eq_false_iff, Bool.or_eq_false_iff, Option.isNone_some, Option.isSome_some, Option.isNone_none, Option.isSome_none, Int.not_lt, Int.not_le, beq_iff_eq, beq_eq_false_iff_ne, bne_iff_ne, ne_eq, Bool.not_not, Decidable.not_not] at h61
            refine JQ.no rfl rfl rfl ?_
            refine JQ.no rfl rfl rfl ?_
            refine JQ.no rfl rfl rfl ?_
            refine JQ.no rfl rfl rfl ?_
            refine JQ.no rfl rfl rfl ?_
            refine JQ.no rfl rfl rfl ?_
            refine JQ.no rfl rfl rfl ?_
            refine JQ.no rfl rfl rfl ?_
            refine JQ.no rfl rfl rfl ?_
            refine JQ.pur rfl rfl rfl (Pur.pickT rfl rfl) ?_
            refine JQ.pur rfl rfl rfl (Pur.move rfl) ?_
            refine JQ.no rfl rfl rfl ?_
            refine JQ.no rfl rfl rfl ?_
            refine JQ.no rfl rfl rfl ?_
            refine JQ.no rfl rfl rfl ?_
            refine JQ.no rfl rfl rfl ?_
            refine JQ.no rfl rfl rfl ?_
            refine JQ.no rfl rfl rfl ?_
            refine JQ.no rfl rfl rfl ?_
            refine JQ.no rfl rfl rfl ?_
            refine JQ.pur rfl rfl rfl (Pur.pickT rfl rfl) ?_
            refine JQ.pur rfl rfl rfl (Pur.move rfl) ?_
            refine JQ.no rfl rfl rfl ?_
            refine JQ.no rfl rfl rfl ?_
            refine JQ.no rfl rfl rfl ?_
            refine JQ.no rfl rfl rfl ?_
            refine JQ.no rfl rfl rfl ?_
            refine JQ.no rfl rfl rfl ?_
            refine JQ.no rfl rfl rfl ?_
            refine JQ.no rfl rfl rfl ?_
            refine JQ.no rfl rfl rfl ?_
            refine JQ.pur rfl rfl rfl (Pur.pickT rfl rfl) ?_
            refine JQ.nil ?_
            refine J.condT rfl rfl ?_
            refine J.seq rfl ?_
            refine J.region rfl ?_
            refine JO.pur rfl rfl rfl (Pur.assign rfl) ?_
            refine JO.nil ?_
            refine J.ret rfl rfl ?_
            first
            | exact ⟨congrArg Value.bool (decide_eq_false (fun e => by subst e; simp_all)).symm, rfl⟩
            | exact ⟨congrArg Value.bool (st_eq (take_all_eq hi2 (by omega) (by omega)) h39 h50 (by simpa using h61) (by simpa using h72) (by simpa using h83) h93), rfl⟩
            | (refine ⟨congrArg Value.bool (decide_eq_false (fun e => ?_)).symm, rfl⟩; subst e; first | exact h117 rfl | exact h134 rfl | exact h150 rfl)
            | exact ⟨congrArg Value.bool (st_eq (take_all_eq hi2 (by omega) (by omega)) h39 h50 (by simpa using h61) (by simpa using h72) (by simpa using h83) h93), rfl⟩
          · try simp only [decide_eq_true_eq, decide_eq_false_iff_not, Bool.not_eq_true', Bool.not_eq_false', Bool.and_eq_true, Bool.or_eq_true, Bool.and_eq_false_iff, Bool.or_eq_false_iff, Option.isNone_some, Option.isSome_some, Option.isNone_none, Option.isSome_none, Int.not_lt, Int.not_le, beq_iff_eq, beq_eq_false_iff_ne, bne_iff_ne, ne_eq, Bool.not_not, Decidable.not_not] at h61
            refine JQ.pur rfl rfl rfl (Pur.move rfl) ?_
            refine JQ.pur rfl rfl rfl (Pur.nilCheck rfl) ?_
            refine JQ.pur rfl rfl rfl (Pur.fieldAddr rfl) ?_
            refine JQ.pur rfl rfl rfl (Pur.load rfl (CellIn.blk rfl)) ?_
            refine JQ.pur rfl rfl rfl (Pur.move rfl) ?_
            refine JQ.pur rfl rfl rfl (Pur.nilCheck rfl) ?_
            refine JQ.pur rfl rfl rfl (Pur.fieldAddr rfl) ?_
            refine JQ.pur rfl rfl rfl (Pur.load rfl (CellIn.blk rfl)) ?_
            refine JQ.pur rfl rfl rfl (Pur.neqB rfl rfl) ?_
            refine JQ.pur rfl rfl rfl (Pur.pickF rfl rfl) ?_
            refine JQ.pur rfl rfl rfl (Pur.move rfl) ?_
            refine JQ.splitB 72 rfl (fun h72 => ?_) (fun h72 => ?_)
            · try simp only [decide_eq_true_eq, decide_eq_false_iff_not, Bool.not_eq_true', Bool.not_eq_false', Bool.and_eq_true, Bool.or_eq_true, Bool.and_eq_false_iff, Bool.or_eq_false_iff, Option.isNone_some, Option.isSome_some, Option.isNone_none, Option.isSome_none, Int.not_lt, Int.not_le, beq_iff_eq, beq_eq_false_iff_ne, bne_iff_ne, ne_eq, Bool.not_not, Decidable.not_not] at h72
              refine JQ.no rfl rfl rfl ?_
              refine JQ.no rfl rfl rfl ?_
              refine JQ.no rfl rfl rfl ?_
              refine JQ.no rfl rfl rfl ?_
              refine JQ.no rfl rfl rfl ?_
              refine JQ.no rfl rfl rfl ?_
              refine JQ.no rfl rfl rfl ?_
              refine JQ.no rfl rfl rfl ?_
              refine JQ.no rfl rfl rfl ?_
              refine JQ.pur rfl rfl rfl (Pur.pickT rfl rfl) ?_
              refine JQ.pur rfl rfl rfl (Pur.move rfl) ?_
              refine JQ.no rfl rfl rfl ?_
              refine JQ.no rfl rfl rfl ?_
              refine JQ.no rfl rfl rfl ?_
              refine JQ.no rfl rfl rfl ?_
              refine JQ.no rfl rfl rfl ?_
              refine JQ.no rfl rfl rfl ?_
              refine JQ.no rfl rfl rfl ?_
              refine JQ.no rfl rfl rfl ?_
              refine JQ.no rfl rfl rfl ?_
              refine JQ.pur rfl rfl rfl (Pur.pickT rfl rfl) ?_
              refine JQ.nil ?_
              refine J.condT rfl rfl ?_
              refine J.seq rfl ?_
              refine J.region rfl ?_
              refine JO.pur rfl rfl rfl (Pur.assign rfl) ?_
              refine JO.nil ?_
              refine J.ret rfl rfl ?_
              first
              | exact ⟨congrArg Value.bool (decide_eq_false (fun e => by subst e; simp_all)).symm, rfl⟩
              | exact ⟨congrArg Value.bool (st_eq (take_all_eq hi2 (by omega) (by omega)) h39 h50 (by simpa using h61) (by simpa using h72) (by simpa using h83) h93), rfl⟩
              | (refine ⟨congrArg Value.bool (decide_eq_false (fun e => ?_)).symm, rfl⟩; subst e; first | exact h117 rfl | exact h134 rfl | exact h150 rfl)
              | exact ⟨congrArg Value.bool (st_eq (take_all_eq hi2 (by omega) (by omega)) h39 h50 (by simpa using h61) (by simpa using h72) (by simpa using h83) h93), rfl⟩
            · try simp only [decide_eq_true_eq, decide_eq_false_iff_not, Bool.not_eq_true', Bool.not_eq_false', Bool.and_eq_true, Bool.or_eq_true, Bool.and_eq_false_iff, Bool.or_eq_false_iff, Option.isNone_some, Option.isSome_some, Option.isNone_none, Option.isSome_none, Int.not_lt, Int.not_le, beq_iff_eq, beq_eq_false_iff_ne, bne_iff_ne, ne_eq, Bool.not_not, Decidable.not_not] at h72
              refine JQ.pur rfl rfl rfl (Pur.move rfl) ?_
              refine JQ.pur rfl rfl rfl (Pur.nilCheck rfl) ?_
              refine JQ.pur rfl rfl rfl (Pur.fieldAddr rfl) ?_
              refine JQ.pur rfl rfl rfl (Pur.load rfl (CellIn.blk rfl)) ?_
              refine JQ.pur rfl rfl rfl (Pur.move rfl) ?_
              refine JQ.pur rfl rfl rfl (Pur.nilCheck rfl) ?_
              refine JQ.pur rfl rfl rfl (Pur.fieldAddr rfl) ?_
              refine JQ.pur rfl rfl rfl (Pur.load rfl (CellIn.blk rfl)) ?_
              refine JQ.pur rfl rfl rfl (Pur.neqB rfl rfl) ?_
              refine JQ.pur rfl rfl rfl (Pur.pickF rfl rfl) ?_
              refine JQ.pur rfl rfl rfl (Pur.move rfl) ?_
              refine JQ.splitB 83 rfl (fun h83 => ?_) (fun h83 => ?_)
              · try simp only [decide_eq_true_eq, decide_eq_false_iff_not, Bool.not_eq_true', Bool.not_eq_false', Bool.and_eq_true, Bool.or_eq_true, Bool.and_eq_false_iff, Bool.or_eq_false_iff, Option.isNone_some, Option.isSome_some, Option.isNone_none, Option.isSome_none, Int.not_lt, Int.not_le, beq_iff_eq, beq_eq_false_iff_ne, bne_iff_ne, ne_eq, Bool.not_not, Decidable.not_not] at h83
                refine JQ.no rfl rfl rfl ?_
                refine JQ.no rfl rfl rfl ?_
                refine JQ.no rfl rfl rfl ?_
                refine JQ.no rfl rfl rfl ?_
                refine JQ.no rfl rfl rfl ?_
                refine JQ.no rfl rfl rfl ?_
                refine JQ.no rfl rfl rfl ?_
                refine JQ.no rfl rfl rfl ?_
                refine JQ.no rfl rfl rfl ?_
                refine JQ.pur rfl rfl rfl (Pur.pickT rfl rfl) ?_
                refine JQ.nil ?_
                refine J.condT rfl rfl ?_
                refine J.seq rfl ?_
                refine J.region rfl ?_
                refine JO.pur rfl rfl rfl (Pur.assign rfl) ?_
                refine JO.nil ?_
                refine J.ret rfl rfl ?_
                first
                | exact ⟨congrArg Value.bool (decide_eq_false (fun e => by subst e; simp_all)).symm, rfl⟩
                | exact ⟨congrArg Value.bool (st_eq (take_all_eq hi2 (by omega) (by omega)) h39 h50 (by simpa using h61) (by simpa using h72) (by simpa using h83) h93), rfl⟩
                | (refine ⟨congrArg Value.bool (decide_eq_false (fun e => ?_)).symm, rfl⟩; subst e; first | exact h117 rfl | exact h134 rfl | exact h150 rfl)
                | exact ⟨congrArg Value.bool (st_eq (take_all_eq hi2 (by omega) (by omega)) h39 h50 (by simpa using h61) (by simpa using h72) (by simpa using h83) h93), rfl⟩
              · try simp only [decide_eq_true_eq, decide_eq_false_iff_not, Bool.not_eq_true', Bool.not_eq_false', Bool.and_eq_true, Bool.or_eq_true, Bool.and_eq_false_iff, Bool.or_eq_false_iff, Option.isNone_some, Option.isSome_some, Option.isNone_none, Option.isSome_none, Int.not_lt, Int.not_le, beq_iff_eq, beq_eq_false_iff_ne, bne_iff_ne, ne_eq, Bool.not_not, Decidable.not_not] at h83
                refine JQ.pur rfl rfl rfl (Pur.move rfl) ?_
                refine JQ.pur rfl rfl rfl (Pur.nilCheck rfl) ?_
                refine JQ.pur rfl rfl rfl (Pur.fieldAddr rfl) ?_
                refine JQ.pur rfl rfl rfl (Pur.load rfl (CellIn.blk rfl)) ?_
                refine JQ.pur rfl rfl rfl (Pur.move rfl) ?_
                refine JQ.pur rfl rfl rfl (Pur.nilCheck rfl) ?_
                refine JQ.pur rfl rfl rfl (Pur.fieldAddr rfl) ?_
                refine JQ.pur rfl rfl rfl (Pur.load rfl (CellIn.blk rfl)) ?_
                refine JQ.pur rfl rfl rfl (Pur.neqI rfl rfl) ?_
                refine JQ.pur rfl rfl rfl (Pur.pickF rfl rfl) ?_
                refine JQ.nil ?_
                refine J.splitB 93 rfl (fun h93 => ?_) (fun h93 => ?_)
                · try simp only [decide_eq_true_eq, decide_eq_false_iff_not, Bool.not_eq_true', Bool.not_eq_false', Bool.and_eq_true, Bool.or_eq_true, Bool.and_eq_false_iff, Bool.or_eq_false_iff, Option.isNone_some, Option.isSome_some, Option.isNone_none, Option.isSome_none, Int.not_lt, Int.not_le, beq_iff_eq, beq_eq_false_iff_ne, bne_iff_ne, ne_eq, Bool.not_not, Decidable.not_not] at h93
                  refine J.condT rfl rfl ?_
                  refine J.seq rfl ?_
                  refine J.region rfl ?_
                  refine JO.pur rfl rfl rfl (Pur.assign rfl) ?_
                  refine JO.nil ?_
                  refine J.ret rfl rfl ?_
                  first
                  | exact ⟨congrArg Value.bool (decide_eq_false (fun e => by subst e; simp_all)).symm, rfl⟩
                  | exact ⟨congrArg Value.bool (st_eq (take_all_eq hi2 (by omega) (by omega)) h39 h50 (by simpa using h61) (by simpa using h72) (by simpa using h83) h93), rfl⟩
                  | (refine ⟨congrArg Value.bool (decide_eq_false (fun e => ?_)).symm, rfl⟩; subst e; first | exact h117 rfl | exact h134 rfl | exact h150 rfl)
                  | exact ⟨congrArg Value.bool (st_eq (take_all_eq hi2 (by omega) (by omega)) h39 h50 (by simpa using h61) (by simpa using h72) (by simpa using h83) h93), rfl⟩
                · try simp only [decide_eq_true_eq, decide_eq_false_iff_not, Bool.not_eq_true', Bool.not_eq_false', Bool.and_eq_true, Bool.or_eq_true, Bool.and_eq_false_iff, Bool.or_eq_false_iff, Option.isNone_some, Option.isSome_some, Option.isNone_none, Option.isSome_none, Int.not_lt, Int.not_le, beq_iff_eq, beq_eq_false_iff_ne, bne_iff_ne, ne_eq, Bool.not_not, Decidable.not_not] at h93
                  refine J.condF rfl rfl ?_
                  refine J.skip rfl ?_
                  refine J.seq rfl ?_
                  refine J.seq rfl ?_
                  refine J.region rfl ?_
                  refine JO.pur rfl rfl rfl (Pur.assign rfl) ?_
                  refine JO.nil ?_
                  refine J.block rfl ?_
                  refine J.loopF (ι := Nat) (fun i => i ≤ σ.spots.length ∧ σ.spots.take i = τ.spots.take i) (fun i => [(5, .int .i64 (i : Int))]) [(0, _), (1, _)] (fun i => L) (fun i => σ.spots.length - i) 0 rfl (.cons rfl rfl (.cons rfl rfl .nil)) (.cons rfl rfl .nil) (fun _ h => h) ⟨Nat.zero_le _, rfl⟩ ?_
                  rintro i ⟨hi1, hi2⟩ ih
                  try dsimp only
                  refine J.seq rfl ?_
                  refine J.seq rfl ?_
                  refine J.region rfl ?_
                  refine JO.pur rfl rfl rfl (Pur.move rfl) ?_
                  refine JO.pur rfl rfl rfl (Pur.move rfl) ?_
                  refine JO.pur rfl rfl rfl (Pur.nilCheck rfl) ?_
                  refine JO.pur rfl rfl rfl (Pur.fieldAddr rfl) ?_
                  refine JO.pur rfl rfl rfl (Pur.load rfl (CellIn.blk rfl)) ?_
                  refine JO.pur rfl rfl rfl (Pur.lss rfl rfl) ?_
                  refine JO.nil ?_
                  refine J.splitB 99 rfl (fun h99 => ?_) (fun h99 => ?_)
                  · try simp only [decide_eq_true_eq, decide_eq_false_iff_not, Bool.not_eq_true', Bool.not_eq_false', Bool.and_eq_true, Bool.or_eq_true, Bool.and_eq_false_iff, Bool.or_eq_false_iff, Option.isNone_some, Option.isSome_some, Option.isNone_none, Option.isSome_none, Int.not_lt, Int.not_le, beq_iff_eq, beq_eq_false_iff_ne, bne_iff_ne, ne_eq, Bool.not_not, Decidable.not_not] at h99
                    refine J.condT rfl rfl ?_
                    refine J.skip rfl ?_
                    refine J.seq rfl ?_
                    refine J.block rfl ?_
                    refine J.seq rfl ?_
                    refine J.quiet rfl Try.mixed (by kernel_rfl) ?_
                    refine JQ.pur rfl rfl rfl (Pur.move rfl) ?_
                    refine JQ.pur rfl rfl rfl (Pur.nilCheck rfl) ?_
                    refine JQ.pur rfl rfl rfl (Pur.fieldAddr rfl) ?_
                    refine JQ.pur rfl rfl rfl (Pur.load rfl (CellIn.blk rfl)) ?_
                    refine JQ.pur rfl rfl rfl (Pur.move rfl) ?_
                    refine JQ.pur rfl rfl rfl (Pur.idx rfl rfl rfl (by first | rfl | simp) rfl (by simp; omega)) ?_
                    refine JQ.pur rfl rfl rfl (Pur.load rfl (CellIn.el0 rfl (map_get (σ := σ) _ (by omega)) rfl)) ?_
                    refine JQ.pur rfl rfl rfl (Pur.move rfl) ?_
                    refine JQ.pur rfl rfl rfl (Pur.nilCheck rfl) ?_
                    refine JQ.pur rfl rfl rfl (Pur.fieldAddr rfl) ?_
                    refine JQ.pur rfl rfl rfl (Pur.load rfl (CellIn.blk rfl)) ?_
                    refine JQ.pur rfl rfl rfl (Pur.move rfl) ?_
                    refine JQ.pur rfl rfl rfl (Pur.idx rfl rfl rfl (by first | rfl | simp) rfl (by simp; omega)) ?_
                    refine JQ.pur rfl rfl rfl (Pur.load rfl (CellIn.el0 rfl (map_get (σ := τ) _ (by omega)) rfl)) ?_
                    refine JQ.pur rfl rfl rfl (Pur.neqB rfl rfl) ?_
                    refine JQ.pur rfl rfl rfl (Pur.move rfl) ?_
                    refine JQ.splitB 117 rfl (fun h117 => ?_) (fun h117 => ?_)
                    · try simp only [decide_eq_true_eq, decide_eq_false_iff_not, Bool.not_eq_true', Bool.not_eq_false', Bool.and_eq_true, Bool.or_eq_true, Bool.and_eq_false_iff, Bool.or_eq_false_iff, Option.isNone_some, Option.isSome_some, Option.isNone_none, Option.isSome_none, Int.not_lt, Int.not_le, beq_iff_eq, beq_eq_false_iff_ne, bne_iff_ne, ne_eq, Bool.not_not, Decidable.not_not] at h117
                      refine JQ.no rfl rfl rfl ?_
                      refine JQ.no rfl rfl rfl ?_
                      refine JQ.no rfl rfl rfl ?_
                      refine JQ.no rfl rfl rfl ?_
                      refine JQ.no rfl rfl rfl ?_
                      refine JQ.no rfl rfl rfl ?_
                      refine JQ.no rfl rfl rfl ?_
                      refine JQ.no rfl rfl rfl ?_
                      refine JQ.no rfl rfl rfl ?_
                      refine JQ.no rfl rfl rfl ?_
                      refine JQ.no rfl rfl rfl ?_
                      refine JQ.no rfl rfl rfl ?_
                      refine JQ.no rfl rfl rfl ?_
                      refine JQ.no rfl rfl rfl ?_
                      refine JQ.no rfl rfl rfl ?_
                      refine JQ.pur rfl rfl rfl (Pur.pickT rfl rfl) ?_
                      refine JQ.pur rfl rfl rfl (Pur.move rfl) ?_
                      refine JQ.no rfl rfl rfl ?_
                      refine JQ.no rfl rfl rfl ?_
                      refine JQ.no rfl rfl rfl ?_
                      refine JQ.no rfl rfl rfl ?_
                      refine JQ.no rfl rfl rfl ?_
                      refine JQ.no rfl rfl rfl ?_
                      refine JQ.no rfl rfl rfl ?_
                      refine JQ.no rfl rfl rfl ?_
                      refine JQ.no rfl rfl rfl ?_
                      refine JQ.no rfl rfl rfl ?_
                      refine JQ.no rfl rfl rfl ?_
                      refine JQ.no rfl rfl rfl ?_
                      refine JQ.no rfl rfl rfl ?_
                      refine JQ.no rfl rfl rfl ?_
                      refine JQ.no rfl rfl rfl ?_
                      refine JQ.pur rfl rfl rfl (Pur.pickT rfl rfl) ?_
                      refine JQ.nil ?_
                      refine J.condT rfl rfl ?_
                      refine J.seq rfl ?_
                      refine J.region rfl ?_
                      refine JO.pur rfl rfl rfl (Pur.assign rfl) ?_
                      refine JO.nil ?_
                      refine J.ret rfl rfl ?_
                      first
                      | exact ⟨congrArg Value.bool (decide_eq_false (fun e => by subst e; simp_all)).symm, rfl⟩
                      | exact ⟨congrArg Value.bool (st_eq (take_all_eq hi2 (by omega) (by omega)) h39 h50 (by simpa using h61) (by simpa using h72) (by simpa using h83) h93), rfl⟩
                      | (refine ⟨congrArg Value.bool (decide_eq_false (fun e => ?_)).symm, rfl⟩; subst e; first | exact h117 rfl | exact h134 rfl | exact h150 rfl)
                      | exact ⟨congrArg Value.bool (st_eq (take_all_eq hi2 (by omega) (by omega)) h39 h50 (by simpa using h61) (by simpa using h72) (by simpa using h83) h93), rfl⟩
                    · try simp only [decide_eq_true_eq, decide_eq_false_iff_not, Bool.not_eq_true', Bool.not_eq_false', Bool.and_eq_true, Bool.or_eq_true, Bool.and_eq_false_iff, Bool.or_eq_false_iff, Option.isNone_some, Option.isSome_some, Option.isNone_none, Option.isSome_none, Int.not_lt, Int.not_le, beq_iff_eq, beq_eq_false_iff_ne, bne_iff_ne, ne_eq, Bool.not_not, Decidable.not_not] at h117
                      refine JQ.pur rfl rfl rfl (Pur.move rfl) ?_
                      refine JQ.pur rfl rfl rfl (Pur.nilCheck rfl) ?_
                      refine JQ.pur rfl rfl rfl (Pur.fieldAddr rfl) ?_
                      refine JQ.pur rfl rfl rfl (Pur.load rfl (CellIn.blk rfl)) ?_
                      refine JQ.pur rfl rfl rfl (Pur.move rfl) ?_
                      refine JQ.pur rfl rfl rfl (Pur.idx rfl rfl rfl (by first | rfl | simp) rfl (by simp; omega)) ?_
                      refine JQ.pur rfl rfl rfl (Pur.load rfl (CellIn.el0 rfl (map_get (σ := σ) _ (by omega)) rfl)) ?_
                      refine JQ.pur rfl rfl rfl (Pur.move rfl) ?_
                      refine JQ.pur rfl rfl rfl (Pur.nilCheck rfl) ?_
                      refine JQ.pur rfl rfl rfl (Pur.fieldAddr rfl) ?_
                      refine JQ.pur rfl rfl rfl (Pur.load rfl (CellIn.blk rfl)) ?_
                      refine JQ.pur rfl rfl rfl (Pur.move rfl) ?_
                      refine JQ.pur rfl rfl rfl (Pur.idx rfl rfl rfl (by first | rfl | simp) rfl (by simp; omega)) ?_
                      refine JQ.pur rfl rfl rfl (Pur.load rfl (CellIn.el0 rfl (map_get (σ := τ) _ (by omega)) rfl)) ?_
                      refine JQ.pur rfl rfl rfl (Pur.neqB rfl rfl) ?_
                      refine JQ.pur rfl rfl rfl (Pur.pickF rfl rfl) ?_
                      refine JQ.pur rfl rfl rfl (Pur.move rfl) ?_
                      refine JQ.splitB 134 rfl (fun h134 => ?_) (fun h134 => ?_)
                      · try simp only [decide_eq_true_eq, decide_eq_false_iff_not, Bool.not_eq_true', Bool.not_eq_false', Bool.and_eq_true, Bool.or_eq_true, Bool.and_eq_false_iff, Bool.or_eq_false_iff, Option.isNone_some, Option.isSome_some, Option.isNone_none, Option.isSome_none, Int.not_lt, Int.not_le, beq_iff_eq, beq_eq_false_iff_ne, bne_iff_ne, ne_eq, Bool.not_not, Decidable.not_not] at h134
                        refine JQ.no rfl rfl rfl ?_
                        refine JQ.no rfl rfl rfl ?_
                        refine JQ.no rfl rfl rfl ?_
                        refine JQ.no rfl rfl rfl ?_
                        refine JQ.no rfl rfl rfl ?_
                        refine JQ.no rfl rfl rfl ?_
                        refine JQ.no rfl rfl rfl ?_
                        refine JQ.no rfl rfl rfl ?_
                        refine JQ.no rfl rfl rfl ?_
                        refine JQ.no rfl rfl rfl ?_
                        refine JQ.no rfl rfl rfl ?_
                        refine JQ.no rfl rfl rfl ?_
                        refine JQ.no rfl rfl rfl ?_
                        refine JQ.no rfl rfl rfl ?_
                        refine JQ.no rfl rfl rfl ?_
                        refine JQ.pur rfl rfl rfl (Pur.pickT rfl rfl) ?_
                        refine JQ.nil ?_
                        refine J.condT rfl rfl ?_
                        refine J.seq rfl ?_
                        refine J.region rfl ?_
                        refine JO.pur rfl rfl rfl (Pur.assign rfl) ?_
                        refine JO.nil ?_
                        refine J.ret rfl rfl ?_
                        first
                        | exact ⟨congrArg Value.bool (decide_eq_false (fun e => by subst e; simp_all)).symm, rfl⟩
                        | exact ⟨congrArg Value.bool (st_eq (take_all_eq hi2 (by omega) (by omega)) h39 h50 (by simpa using h61) (by simpa using h72) (by simpa using h83) h93), rfl⟩
                        | (refine ⟨congrArg Value.bool (decide_eq_false (fun e => ?_)).symm, rfl⟩; subst e; first | exact h117 rfl | exact h134 rfl | exact h150 rfl)
                        | exact ⟨congrArg Value.bool (st_eq (take_all_eq hi2 (by omega) (by omega)) h39 h50 (by simpa using h61) (by simpa using h72) (by simpa using h83) h93), rfl⟩
                      · try simp only [decide_eq_true_eq, decide_eq_false_iff_not, Bool.not_eq_true', Bool.not_eq_false', Bool.and_eq_true, Bool.or_eq_true, Bool.and_eq_false_iff, Bool.or_eq_false_iff, Option.isNone_some, Option.isSome_some, Option.isNone_none, Option.isSome_none, Int.not_lt, Int.not_le, beq_iff_eq, beq_eq_false_iff_ne, bne_iff_ne, ne_eq, Bool.not_not, Decidable.not_not] at h134
                        refine JQ.pur rfl rfl rfl (Pur.move rfl) ?_
                        refine JQ.pur rfl rfl rfl (Pur.nilCheck rfl) ?_
                        refine JQ.pur rfl rfl rfl (Pur.fieldAddr rfl) ?_
                        refine JQ.pur rfl rfl rfl (Pur.load rfl (CellIn.blk rfl)) ?_
                        refine JQ.pur rfl rfl rfl (Pur.move rfl) ?_
                        refine JQ.pur rfl rfl rfl (Pur.idx rfl rfl rfl (by first | rfl | simp) rfl (by simp; omega)) ?_
                        refine JQ.pur rfl rfl rfl (Pur.load rfl (CellIn.el0 rfl (map_get (σ := σ) _ (by omega)) rfl)) ?_
                        refine JQ.pur rfl rfl rfl (Pur.move rfl) ?_
                        refine JQ.pur rfl rfl rfl (Pur.nilCheck rfl) ?_
                        refine JQ.pur rfl rfl rfl (Pur.fieldAddr rfl) ?_
                        refine JQ.pur rfl rfl rfl (Pur.load rfl (CellIn.blk rfl)) ?_
                        refine JQ.pur rfl rfl rfl (Pur.move rfl) ?_
                        refine JQ.pur rfl rfl rfl (Pur.idx rfl rfl rfl (by first | rfl | simp) rfl (by simp; omega)) ?_
                        refine JQ.pur rfl rfl rfl (Pur.load rfl (CellIn.el0 rfl (map_get (σ := τ) _ (by omega)) rfl)) ?_
                        refine JQ.pur rfl rfl rfl (Pur.neqI rfl rfl) ?_
                        refine JQ.pur rfl rfl rfl (Pur.pickF rfl rfl) ?_
                        refine JQ.nil ?_
                        refine J.splitB 150 rfl (fun h150 => ?_) (fun h150 => ?_)
                        · try simp only [decide_eq_true_eq, decide_eq_false_iff_not, Bool.not_eq_true', Bool.not_eq_false', Bool.and_eq_true, Bool.or_eq_true, Bool.and_eq_false_iff, Bool.or_eq_false_iff, Option.isNone_some, Option.isSome_some, Option.isNone_none, Option.isSome_none, Int.not_lt, Int.not_le, beq_iff_eq, beq_eq_false_iff_ne, bne_iff_ne, ne_eq, Bool.not_not, Decidable.not_not] at h150
                          refine J.condT rfl rfl ?_
                          refine J.seq rfl ?_
                          refine J.region rfl ?_
                          refine JO.pur rfl rfl rfl (Pur.assign rfl) ?_
                          refine JO.nil ?_
                          refine J.ret rfl rfl ?_
                          first
                          | exact ⟨congrArg Value.bool (decide_eq_false (fun e => by subst e; simp_all)).symm, rfl⟩
                          | exact ⟨congrArg Value.bool (st_eq (take_all_eq hi2 (by omega) (by omega)) h39 h50 (by simpa using h61) (by simpa using h72) (by simpa using h83) h93), rfl⟩
                          | (refine ⟨congrArg Value.bool (decide_eq_false (fun e => ?_)).symm, rfl⟩; subst e; first | exact h117 rfl | exact h134 rfl | exact h150 rfl)
                          | exact ⟨congrArg Value.bool (st_eq (take_all_eq hi2 (by omega) (by omega)) h39 h50 (by simpa using h61) (by simpa using h72) (by simpa using h83) h93), rfl⟩
                        · try simp only [decide_eq_true_eq, decide_eq_false_iff_not, Bool.not_eq_true', Bool.not_eq_false', Bool.and_eq_true, Bool.or_eq_true, Bool.and_eq_false_iff, Bool.or_eq_false_iff, Option.isNone_some, Option.isSome_some, Option.isNone_none, Option.isSome_none, Int.not_lt, Int.not_le, beq_iff_eq, beq_eq_false_iff_ne, bne_iff_ne, ne_eq, Bool.not_not, Decidable.not_not] at h150
                          refine J.condF rfl rfl ?_
                          refine J.skip rfl ?_
                          refine J.inBlock ?_
                          refine J.region rfl ?_
                          refine JO.pur rfl rfl rfl (Pur.move rfl) ?_
                          refine JO.pur rfl rfl rfl (Pur.add rfl rfl (wr64 (by omega))) ?_
                          refine JO.pur rfl rfl rfl (Pur.assign rfl) ?_
                          refine JO.nil ?_
                          exact J.weaken (.cons rfl (congrArg (Value.int .i64) (by omega)) (.cons rfl rfl (.cons rfl rfl .nil))) (fun _ h => h) (ih (i + 1) ⟨by omega, spots_next hi2 (by omega) (by omega) (by first | exact h117 | simpa using h117) (by first | exact h134 | simpa using h134) (by first | exact h150 | simpa using h150)⟩ (by omega))
                  · try simp only [decide_eq_true_eq, decide_eq_false_iff_not, Bool.not_eq_true', Bool.not_eq_false', Bool.and_eq_true, Bool.or_eq_true, Bool.and_eq_false_iff, Bool.or_eq_false_iff, Option.isNone_some, Option.isSome_some, Option.isNone_none, Option.isSome_none, Int.not_lt, Int.not_le, beq_iff_eq, beq_eq_false_iff_ne, bne_iff_ne, ne_eq, Bool.not_not, Decidable.not_not] at h99
                    refine J.condF rfl rfl ?_
                    refine J.exit rfl rfl ?_
                    refine J.seq rfl ?_
                    refine J.quiet rfl Try.mixed (by kernel_rfl) ?_
                    refine JQ.pur rfl rfl rfl (Pur.move rfl) ?_
                    refine JQ.pur rfl rfl rfl (Pur.nilCheck rfl) ?_
                    refine JQ.pur rfl rfl rfl (Pur.fieldAddr rfl) ?_
                    refine JQ.pur rfl rfl rfl (Pur.load rfl (CellIn.blk rfl)) ?_
                    refine JQ.pur rfl rfl rfl (Pur.move rfl) ?_
                    refine JQ.pur rfl rfl rfl (Pur.nilCheck rfl) ?_
                    refine JQ.pur rfl rfl rfl (Pur.fieldAddr rfl) ?_
                    refine JQ.pur rfl rfl rfl (Pur.load rfl (CellIn.blk rfl)) ?_
                    refine JQ.callE rfl rfl rfl (samePairs rfl rfl (by omega)) ?_
                    refine JQ.pur rfl rfl rfl (Pur.assign rfl) ?_
                    refine JQ.nil ?_
                    refine J.ret rfl rfl ?_
                    first
                    | exact ⟨congrArg Value.bool (decide_eq_false (fun e => by subst e; simp_all)).symm, rfl⟩
                    | exact ⟨congrArg Value.bool (st_eq (take_all_eq hi2 (by omega) (by omega)) h39 h50 (by simpa using h61) (by simpa using h72) (by simpa using h83) h93), rfl⟩
                    | (refine ⟨congrArg Value.bool (decide_eq_false (fun e => ?_)).symm, rfl⟩; subst e; first | exact h117 rfl | exact h134 rfl | exact h150 rfl)
                    | exact ⟨congrArg Value.bool (st_eq (take_all_eq hi2 (by omega) (by omega)) h39 h50 (by simpa using h61) (by simpa using h72) (by simpa using h83) h93), rfl⟩

end Go.Proofs.Ytnllgmfpejjcnaa
