/-
  A part of the proof of the claim that this folder bears.
-/
import Derived.Test.YtbmepcipnnlcnaaDoorPAA
/- The text J1. -/
set_option linter.unusedVariables false
set_option linter.unusedSimpArgs false
set_option maxRecDepth 10000
namespace Go.Proofs.YtbmepcipnnlcnaaDoor
open Go Go.KK Sg

theorem isTy_ok {L : List Asn} (f : Fm) :
    CallS Tryd.prog 25 [.agg #[.string f.1, .int .i64 f.2]].toArray L (fun v M => v = .bool (isTy f) ∧ M = L) := by
  refine CallS.ent ?_
  refine CallS.enter Tryd.func25 rfl rfl rfl rfl rfl ?_
  refine J.seq rfl ?_
  refine J.region rfl ?_
  refine JO.eff rfl rfl rfl (Eff.box (cs := [_, _]) rfl rfl) ?_
  rintro _ _ ⟨b1, rfl, rfl⟩
  refine JO.pur rfl rfl rfl (Pur.assign rfl) ?_
  refine JO.nil ?_
  refine J.seq rfl ?_
  refine J.seq rfl ?_
  refine J.region rfl ?_
  refine JO.pur rfl rfl rfl (Pur.fieldAddr rfl) ?_
  refine JO.pur rfl rfl rfl (Pur.load rfl (CellIn.blk rfl)) ?_
  refine JO.nil ?_
  refine J.block rfl ?_
  refine J.seq rfl ?_
  refine J.seq rfl ?_
  refine J.region rfl ?_
  refine JO.pur rfl rfl rfl (Pur.eqlT rfl rfl) ?_
  refine JO.pur rfl rfl rfl (Pur.assign rfl) ?_
  refine JO.nil ?_
  refine J.splitB 5 rfl (fun h5 => ?_) (fun h5 => ?_)
  · try simp only [decide_eq_true_eq, decide_eq_false_iff_not, Bool.not_eq_true', Bool.not_eq_false', Bool.and_eq_true, Bool.or_eq_true, Bool.and_eq_false_iff, Bool.or_eq_false_iff, Option.isNone_some, Option.isSome_some, Option.isNone_none, Option.isSome_none, Int.not_lt, Int.not_le, beq_iff_eq, beq_eq_false_iff_ne, bne_iff_ne, ne_eq, Bool.not_not, Decidable.not_not] at h5
    refine J.condT rfl rfl ?_
    refine J.skip rfl ?_
    refine J.condT rfl rfl ?_
    refine J.seq rfl ?_
    refine J.region rfl ?_
    refine JO.pur rfl rfl rfl (Pur.fieldAddr rfl) ?_
    refine JO.pur rfl rfl rfl (Pur.load rfl (CellIn.blk rfl)) ?_
    refine JO.pur rfl rfl rfl (Pur.eqlI rfl rfl) ?_
    refine JO.pur rfl rfl rfl (Pur.assign rfl) ?_
    refine JO.nil ?_
    refine J.ret rfl rfl ?_
    refine ⟨_, _, ⟨rfl, rfl⟩, congrArg Value.bool (by simp_all [isTy, sInt, sBool, sNone, sDom, sArr, sAny] <;> omega), SubC.out⟩
  · try simp only [decide_eq_true_eq, decide_eq_false_iff_not, Bool.not_eq_true', Bool.not_eq_false', Bool.and_eq_true, Bool.or_eq_true, Bool.and_eq_false_iff, Bool.or_eq_false_iff, Option.isNone_some, Option.isSome_some, Option.isNone_none, Option.isSome_none, Int.not_lt, Int.not_le, beq_iff_eq, beq_eq_false_iff_ne, bne_iff_ne, ne_eq, Bool.not_not, Decidable.not_not] at h5
    refine J.condF rfl rfl ?_
    refine J.seq rfl ?_
    refine J.region rfl ?_
    refine JO.pur rfl rfl rfl (Pur.eqlT rfl rfl) ?_
    refine JO.pur rfl rfl rfl (Pur.assign rfl) ?_
    refine JO.nil ?_
    refine J.splitB 5 rfl (fun h5 => ?_) (fun h5 => ?_)
    · try simp only [decide_eq_true_eq, decide_eq_false_iff_not, Bool.not_eq_true', Bool.not_eq_false', Bool.and_eq_true, Bool.or_eq_true, Bool.and_eq_false_iff, Bool.or_eq_false_iff, Option.isNone_some, Option.isSome_some, Option.isNone_none, Option.isSome_none, Int.not_lt, Int.not_le, beq_iff_eq, beq_eq_false_iff_ne, bne_iff_ne, ne_eq, Bool.not_not, Decidable.not_not] at h5
      refine J.condT rfl rfl ?_
      refine J.skip rfl ?_
      refine J.condT rfl rfl ?_
      refine J.seq rfl ?_
      refine J.region rfl ?_
      refine JO.pur rfl rfl rfl (Pur.fieldAddr rfl) ?_
      refine JO.pur rfl rfl rfl (Pur.load rfl (CellIn.blk rfl)) ?_
      refine JO.pur rfl rfl rfl (Pur.eqlI rfl rfl) ?_
      refine JO.pur rfl rfl rfl (Pur.assign rfl) ?_
      refine JO.nil ?_
      refine J.ret rfl rfl ?_
      refine ⟨_, _, ⟨rfl, rfl⟩, congrArg Value.bool (by simp_all [isTy, sInt, sBool, sNone, sDom, sArr, sAny] <;> omega), SubC.out⟩
    · try simp only [decide_eq_true_eq, decide_eq_false_iff_not, Bool.not_eq_true', Bool.not_eq_false', Bool.and_eq_true, Bool.or_eq_true, Bool.and_eq_false_iff, Bool.or_eq_false_iff, Option.isNone_some, Option.isSome_some, Option.isNone_none, Option.isSome_none, Int.not_lt, Int.not_le, beq_iff_eq, beq_eq_false_iff_ne, bne_iff_ne, ne_eq, Bool.not_not, Decidable.not_not] at h5
      refine J.condF rfl rfl ?_
      refine J.region rfl ?_
      refine JO.pur rfl rfl rfl (Pur.eqlT rfl rfl) ?_
      refine JO.pur rfl rfl rfl (Pur.assign rfl) ?_
      refine JO.nil ?_
      refine J.splitB 5 rfl (fun h5 => ?_) (fun h5 => ?_)
      · try simp only [decide_eq_true_eq, decide_eq_false_iff_not, Bool.not_eq_true', Bool.not_eq_false', Bool.and_eq_true, Bool.or_eq_true, Bool.and_eq_false_iff, Bool.or_eq_false_iff, Option.isNone_some, Option.isSome_some, Option.isNone_none, Option.isSome_none, Int.not_lt, Int.not_le, beq_iff_eq, beq_eq_false_iff_ne, bne_iff_ne, ne_eq, Bool.not_not, Decidable.not_not] at h5
        refine J.condT rfl rfl ?_
        refine J.seq rfl ?_
        refine J.region rfl ?_
        refine JO.pur rfl rfl rfl (Pur.fieldAddr rfl) ?_
        refine JO.pur rfl rfl rfl (Pur.load rfl (CellIn.blk rfl)) ?_
        refine JO.pur rfl rfl rfl (Pur.eqlI rfl rfl) ?_
        refine JO.pur rfl rfl rfl (Pur.assign rfl) ?_
        refine JO.nil ?_
        refine J.ret rfl rfl ?_
        refine ⟨_, _, ⟨rfl, rfl⟩, congrArg Value.bool (by simp_all [isTy, sInt, sBool, sNone, sDom, sArr, sAny] <;> omega), SubC.out⟩
      · try simp only [decide_eq_true_eq, decide_eq_false_iff_not, Bool.not_eq_true', Bool.not_eq_false', Bool.and_eq_true, Bool.or_eq_true, Bool.and_eq_false_iff, Bool.or_eq_false_iff, Option.isNone_some, Option.isSome_some, Option.isNone_none, Option.isSome_none, Int.not_lt, Int.not_le, beq_iff_eq, beq_eq_false_iff_ne, bne_iff_ne, ne_eq, Bool.not_not, Decidable.not_not] at h5
        refine J.condF rfl rfl ?_
        refine J.seq rfl ?_
        refine J.seq rfl ?_
        refine J.region rfl ?_
        refine JO.pur rfl rfl rfl (Pur.eqlT rfl rfl) ?_
        refine JO.pur rfl rfl rfl (Pur.assign rfl) ?_
        refine JO.nil ?_
        refine J.splitB 12 rfl (fun h12 => ?_) (fun h12 => ?_)
        · try simp only [decide_eq_true_eq, decide_eq_false_iff_not, Bool.not_eq_true', Bool.not_eq_false', Bool.and_eq_true, Bool.or_eq_true, Bool.and_eq_false_iff, Bool.or_eq_false_iff, Option.isNone_some, Option.isSome_some, Option.isNone_none, Option.isSome_none, Int.not_lt, Int.not_le, beq_iff_eq, beq_eq_false_iff_ne, bne_iff_ne, ne_eq, Bool.not_not, Decidable.not_not] at h12
          refine J.condT rfl rfl ?_
          refine J.skip rfl ?_
          refine J.condT rfl rfl ?_
          refine J.seq rfl ?_
          refine J.region rfl ?_
          refine JO.pur rfl rfl rfl (Pur.fieldAddr rfl) ?_
          refine JO.pur rfl rfl rfl (Pur.load rfl (CellIn.blk rfl)) ?_
          refine JO.pur rfl rfl rfl (Pur.geq rfl rfl) ?_
          refine JO.pur rfl rfl rfl (Pur.move rfl) ?_
          refine JO.splitB 18 rfl (fun h18 => ?_) (fun h18 => ?_)
          · try simp only [decide_eq_true_eq, decide_eq_false_iff_not, Bool.not_eq_true', Bool.not_eq_false', Bool.and_eq_true, Bool.or_eq_true, Bool.and_eq_false_iff, Bool.or_eq_false_iff, Option.isNone_some, Option.isSome_some, Option.isNone_none, Option.isSome_none, Int.not_lt, Int.not_le, beq_iff_eq, beq_eq_false_iff_ne, bne_iff_ne, ne_eq, Bool.not_not, Decidable.not_not] at h18
            refine JO.pur rfl rfl rfl (Pur.fieldAddr rfl) ?_
            refine JO.pur rfl rfl rfl (Pur.load rfl (CellIn.blk rfl)) ?_
            refine JO.pur rfl rfl rfl (Pur.leq rfl rfl) ?_
            refine JO.pur rfl rfl rfl (Pur.pickT rfl rfl) ?_
            refine JO.pur rfl rfl rfl (Pur.assign rfl) ?_
            refine JO.nil ?_
            refine J.ret rfl rfl ?_
            refine ⟨_, _, ⟨rfl, rfl⟩, congrArg Value.bool (by simp_all [isTy, sInt, sBool, sNone, sDom, sArr, sAny] <;> omega), SubC.out⟩
          · try simp only [decide_eq_true_eq, decide_eq_false_iff_not, Bool.not_eq_true', Bool.not_eq_false', Bool.and_eq_true, Bool.or_eq_true, Bool.and_eq_false_iff, Bool.or_eq_false_iff, Option.isNone_some, Option.isSome_some, Option.isNone_none, Option.isSome_none, Int.not_lt, Int.not_le, beq_iff_eq, beq_eq_false_iff_ne, bne_iff_ne, ne_eq, Bool.not_not, Decidable.not_not] at h18
            refine JO.no rfl rfl rfl ?_
            refine JO.no rfl rfl rfl ?_
            refine JO.no rfl rfl rfl ?_
            refine JO.pur rfl rfl rfl (Pur.pickF rfl rfl) ?_
            refine JO.pur rfl rfl rfl (Pur.assign rfl) ?_
            refine JO.nil ?_
            refine J.ret rfl rfl ?_
            refine ⟨_, _, ⟨rfl, rfl⟩, congrArg Value.bool (by simp_all [isTy, sInt, sBool, sNone, sDom, sArr, sAny] <;> omega), SubC.out⟩
        · try simp only [decide_eq_true_eq, decide_eq_false_iff_not, Bool.not_eq_true', Bool.not_eq_false', Bool.and_eq_true, Bool.or_eq_true, Bool.and_eq_false_iff, Bool.or_eq_false_iff, Option.isNone_some, Option.isSome_some, Option.isNone_none, Option.isSome_none, Int.not_lt, Int.not_le, beq_iff_eq, beq_eq_false_iff_ne, bne_iff_ne, ne_eq, Bool.not_not, Decidable.not_not] at h12
          refine J.condF rfl rfl ?_
          refine J.region rfl ?_
          refine JO.pur rfl rfl rfl (Pur.eqlT rfl rfl) ?_
          refine JO.pur rfl rfl rfl (Pur.assign rfl) ?_
          refine JO.nil ?_
          refine J.splitB 12 rfl (fun h12 => ?_) (fun h12 => ?_)
          · try simp only [decide_eq_true_eq, decide_eq_false_iff_not, Bool.not_eq_true', Bool.not_eq_false', Bool.and_eq_true, Bool.or_eq_true, Bool.and_eq_false_iff, Bool.or_eq_false_iff, Option.isNone_some, Option.isSome_some, Option.isNone_none, Option.isSome_none, Int.not_lt, Int.not_le, beq_iff_eq, beq_eq_false_iff_ne, bne_iff_ne, ne_eq, Bool.not_not, Decidable.not_not] at h12
            refine J.condT rfl rfl ?_
            refine J.seq rfl ?_
            refine J.region rfl ?_
            refine JO.pur rfl rfl rfl (Pur.fieldAddr rfl) ?_
            refine JO.pur rfl rfl rfl (Pur.load rfl (CellIn.blk rfl)) ?_
            refine JO.pur rfl rfl rfl (Pur.geq rfl rfl) ?_
            refine JO.pur rfl rfl rfl (Pur.move rfl) ?_
            refine JO.splitB 18 rfl (fun h18 => ?_) (fun h18 => ?_)
            · try simp only [decide_eq_true_eq, decide_eq_false_iff_not, Bool.not_eq_true', Bool.not_eq_false', Bool.and_eq_true, Bool.or_eq_true, Bool.and_eq_false_iff, Bool.or_eq_false_iff, Option.isNone_some, Option.isSome_some, Option.isNone_none, Option.isSome_none, Int.not_lt, Int.not_le, beq_iff_eq, beq_eq_false_iff_ne, bne_iff_ne, ne_eq, Bool.not_not, Decidable.not_not] at h18
              refine JO.pur rfl rfl rfl (Pur.fieldAddr rfl) ?_
              refine JO.pur rfl rfl rfl (Pur.load rfl (CellIn.blk rfl)) ?_
              refine JO.pur rfl rfl rfl (Pur.leq rfl rfl) ?_
              refine JO.pur rfl rfl rfl (Pur.pickT rfl rfl) ?_
              refine JO.pur rfl rfl rfl (Pur.assign rfl) ?_
              refine JO.nil ?_
              refine J.ret rfl rfl ?_
              refine ⟨_, _, ⟨rfl, rfl⟩, congrArg Value.bool (by simp_all [isTy, sInt, sBool, sNone, sDom, sArr, sAny] <;> omega), SubC.out⟩
            · try simp only [decide_eq_true_eq, decide_eq_false_iff_not, Bool.not_eq_true', Bool.not_eq_false', Bool.and_eq_true, Bool.or_eq_true, Bool.and_eq_false_iff, Bool.or_eq_false_iff, Option.isNone_some, Option.isSome_some, Option.isNone_none, Option.isSome_none, Int.not_lt, Int.not_le, beq_iff_eq, beq_eq_false_iff_ne, bne_iff_ne, ne_eq, Bool.not_not, Decidable.not_not] at h18
              refine JO.no rfl rfl rfl ?_
              refine JO.no rfl rfl rfl ?_
              refine JO.no rfl rfl rfl ?_
              refine JO.pur rfl rfl rfl (Pur.pickF rfl rfl) ?_
              refine JO.pur rfl rfl rfl (Pur.assign rfl) ?_
              refine JO.nil ?_
              refine J.ret rfl rfl ?_
              refine ⟨_, _, ⟨rfl, rfl⟩, congrArg Value.bool (by simp_all [isTy, sInt, sBool, sNone, sDom, sArr, sAny] <;> omega), SubC.out⟩
          · try simp only [decide_eq_true_eq, decide_eq_false_iff_not, Bool.not_eq_true', Bool.not_eq_false', Bool.and_eq_true, Bool.or_eq_true, Bool.and_eq_false_iff, Bool.or_eq_false_iff, Option.isNone_some, Option.isSome_some, Option.isNone_none, Option.isSome_none, Int.not_lt, Int.not_le, beq_iff_eq, beq_eq_false_iff_ne, bne_iff_ne, ne_eq, Bool.not_not, Decidable.not_not] at h12
            refine J.condF rfl rfl ?_
            refine J.skip rfl ?_
            refine J.inBlock ?_
            refine J.seq rfl ?_
            refine J.region rfl ?_
            refine JO.pur rfl rfl rfl (Pur.assign rfl) ?_
            refine JO.nil ?_
            refine J.ret rfl rfl ?_
            refine ⟨_, _, ⟨rfl, rfl⟩, congrArg Value.bool (by simp_all [isTy, sInt, sBool, sNone, sDom, sArr, sAny] <;> omega), SubC.out⟩

theorem isFm_ok {L : List Asn} (f : Fm) :
    CallS Tryd.prog 18 [.agg #[.string f.1, .int .i64 f.2]].toArray L (fun v M => v = .bool (isFm f) ∧ M = L) := by
  refine CallS.ent ?_
  refine CallS.enter Tryd.func18 rfl rfl rfl rfl rfl ?_
  refine J.seq rfl ?_
  refine J.region rfl ?_
  refine JO.eff rfl rfl rfl (Eff.box (cs := [_, _]) rfl rfl) ?_
  rintro _ _ ⟨b1, rfl, rfl⟩
  refine JO.pur rfl rfl rfl (Pur.assign rfl) ?_
  refine JO.nil ?_
  refine J.seq rfl ?_
  refine J.seq rfl ?_
  refine J.region rfl ?_
  refine JO.pur rfl rfl rfl (Pur.fieldAddr rfl) ?_
  refine JO.pur rfl rfl rfl (Pur.load rfl (CellIn.blk rfl)) ?_
  refine JO.nil ?_
  refine J.block rfl ?_
  refine J.seq rfl ?_
  refine J.seq rfl ?_
  refine J.region rfl ?_
  refine JO.pur rfl rfl rfl (Pur.eqlT rfl rfl) ?_
  refine JO.pur rfl rfl rfl (Pur.assign rfl) ?_
  refine JO.nil ?_
  refine J.splitB 5 rfl (fun h5 => ?_) (fun h5 => ?_)
  · try simp only [decide_eq_true_eq, decide_eq_false_iff_not, Bool.not_eq_true', Bool.not_eq_false', Bool.and_eq_true, Bool.or_eq_true, Bool.and_eq_false_iff, Bool.or_eq_false_iff, Option.isNone_some, Option.isSome_some, Option.isNone_none, Option.isSome_none, Int.not_lt, Int.not_le, beq_iff_eq, beq_eq_false_iff_ne, bne_iff_ne, ne_eq, Bool.not_not, Decidable.not_not] at h5
    refine J.condT rfl rfl ?_
    refine J.skip rfl ?_
    refine J.condT rfl rfl ?_
    refine J.seq rfl ?_
    refine J.region rfl ?_
    refine JO.pur rfl rfl rfl (Pur.fieldAddr rfl) ?_
    refine JO.pur rfl rfl rfl (Pur.load rfl (CellIn.blk rfl)) ?_
    refine JO.pur rfl rfl rfl (Pur.eqlI rfl rfl) ?_
    refine JO.pur rfl rfl rfl (Pur.move rfl) ?_
    refine JO.splitB 12 rfl (fun h12 => ?_) (fun h12 => ?_)
    · try simp only [decide_eq_true_eq, decide_eq_false_iff_not, Bool.not_eq_true', Bool.not_eq_false', Bool.and_eq_true, Bool.or_eq_true, Bool.and_eq_false_iff, Bool.or_eq_false_iff, Option.isNone_some, Option.isSome_some, Option.isNone_none, Option.isSome_none, Int.not_lt, Int.not_le, beq_iff_eq, beq_eq_false_iff_ne, bne_iff_ne, ne_eq, Bool.not_not, Decidable.not_not] at h12
      refine JO.no rfl rfl rfl ?_
      refine JO.no rfl rfl rfl ?_
      refine JO.no rfl rfl rfl ?_
      refine JO.no rfl rfl rfl ?_
      refine JO.no rfl rfl rfl ?_
      refine JO.no rfl rfl rfl ?_
      refine JO.no rfl rfl rfl ?_
      refine JO.pur rfl rfl rfl (Pur.pickT rfl rfl) ?_
      refine JO.pur rfl rfl rfl (Pur.assign rfl) ?_
      refine JO.nil ?_
      refine J.ret rfl rfl ?_
      refine ⟨_, _, ⟨rfl, rfl⟩, congrArg Value.bool (by simp_all [isFm, sInt, sBool, sNone, sDom, sArr, sAny]), SubC.out⟩
    · try simp only [decide_eq_true_eq, decide_eq_false_iff_not, Bool.not_eq_true', Bool.not_eq_false', Bool.and_eq_true, Bool.or_eq_true, Bool.and_eq_false_iff, Bool.or_eq_false_iff, Option.isNone_some, Option.isSome_some, Option.isNone_none, Option.isSome_none, Int.not_lt, Int.not_le, beq_iff_eq, beq_eq_false_iff_ne, bne_iff_ne, ne_eq, Bool.not_not, Decidable.not_not] at h12
      refine JO.pur rfl rfl rfl (Pur.fieldAddr rfl) ?_
      refine JO.pur rfl rfl rfl (Pur.load rfl (CellIn.blk rfl)) ?_
      refine JO.pur rfl rfl rfl (Pur.neqT rfl rfl) ?_
      refine JO.pur rfl rfl rfl (Pur.move rfl) ?_
      refine JO.splitB 16 rfl (fun h16 => ?_) (fun h16 => ?_)
      · try simp only [decide_eq_true_eq, decide_eq_false_iff_not, Bool.not_eq_true', Bool.not_eq_false', Bool.and_eq_true, Bool.or_eq_true, Bool.and_eq_false_iff, Bool.or_eq_false_iff, Option.isNone_some, Option.isSome_some, Option.isNone_none, Option.isSome_none, Int.not_lt, Int.not_le, beq_iff_eq, beq_eq_false_iff_ne, bne_iff_ne, ne_eq, Bool.not_not, Decidable.not_not] at h16
        refine JO.pur rfl rfl rfl (Pur.loadA rfl rfl rfl CellsIn.blk) ?_
        refine JO.effR rfl rfl rfl (Eff.call rfl (isTy_ok f)) ?_
        refine JO.pur rfl rfl rfl (Pur.pickT rfl rfl) ?_
        refine JO.pur rfl rfl rfl (Pur.pickF rfl rfl) ?_
        refine JO.pur rfl rfl rfl (Pur.assign rfl) ?_
        refine JO.nil ?_
        refine J.ret rfl rfl ?_
        refine ⟨_, _, ⟨rfl, rfl⟩, congrArg Value.bool (by simp_all [isFm, sInt, sBool, sNone, sDom, sArr, sAny]), SubC.out⟩
      · try simp only [decide_eq_true_eq, decide_eq_false_iff_not, Bool.not_eq_true', Bool.not_eq_false', Bool.and_eq_true, Bool.or_eq_true, Bool.and_eq_false_iff, Bool.or_eq_false_iff, Option.isNone_some, Option.isSome_some, Option.isNone_none, Option.isSome_none, Int.not_lt, Int.not_le, beq_iff_eq, beq_eq_false_iff_ne, bne_iff_ne, ne_eq, Bool.not_not, Decidable.not_not] at h16
        refine JO.no rfl rfl rfl ?_
        refine JO.no rfl rfl rfl ?_
        refine JO.pur rfl rfl rfl (Pur.pickF rfl rfl) ?_
        refine JO.pur rfl rfl rfl (Pur.pickF rfl rfl) ?_
        refine JO.pur rfl rfl rfl (Pur.assign rfl) ?_
        refine JO.nil ?_
        refine J.ret rfl rfl ?_
        refine ⟨_, _, ⟨rfl, rfl⟩, congrArg Value.bool (by simp_all [isFm, sInt, sBool, sNone, sDom, sArr, sAny]), SubC.out⟩
  · try simp only [decide_eq_true_eq, decide_eq_false_iff_not, Bool.not_eq_true', Bool.not_eq_false', Bool.and_eq_true, Bool.or_eq_true, Bool.and_eq_false_iff, Bool.or_eq_false_iff, Option.isNone_some, Option.isSome_some, Option.isNone_none, Option.isSome_none, Int.not_lt, Int.not_le, beq_iff_eq, beq_eq_false_iff_ne, bne_iff_ne, ne_eq, Bool.not_not, Decidable.not_not] at h5
    refine J.condF rfl rfl ?_
    refine J.seq rfl ?_
    refine J.region rfl ?_
    refine JO.pur rfl rfl rfl (Pur.eqlT rfl rfl) ?_
    refine JO.pur rfl rfl rfl (Pur.assign rfl) ?_
    refine JO.nil ?_
    refine J.splitB 5 rfl (fun h5 => ?_) (fun h5 => ?_)
    · try simp only [decide_eq_true_eq, decide_eq_false_iff_not, Bool.not_eq_true', Bool.not_eq_false', Bool.and_eq_true, Bool.or_eq_true, Bool.and_eq_false_iff, Bool.or_eq_false_iff, Option.isNone_some, Option.isSome_some, Option.isNone_none, Option.isSome_none, Int.not_lt, Int.not_le, beq_iff_eq, beq_eq_false_iff_ne, bne_iff_ne, ne_eq, Bool.not_not, Decidable.not_not] at h5
      refine J.condT rfl rfl ?_
      refine J.skip rfl ?_
      refine J.condT rfl rfl ?_
      refine J.seq rfl ?_
      refine J.region rfl ?_
      refine JO.pur rfl rfl rfl (Pur.fieldAddr rfl) ?_
      refine JO.pur rfl rfl rfl (Pur.load rfl (CellIn.blk rfl)) ?_
      refine JO.pur rfl rfl rfl (Pur.eqlI rfl rfl) ?_
      refine JO.pur rfl rfl rfl (Pur.move rfl) ?_
      refine JO.splitB 12 rfl (fun h12 => ?_) (fun h12 => ?_)
      · try simp only [decide_eq_true_eq, decide_eq_false_iff_not, Bool.not_eq_true', Bool.not_eq_false', Bool.and_eq_true, Bool.or_eq_true, Bool.and_eq_false_iff, Bool.or_eq_false_iff, Option.isNone_some, Option.isSome_some, Option.isNone_none, Option.isSome_none, Int.not_lt, Int.not_le, beq_iff_eq, beq_eq_false_iff_ne, bne_iff_ne, ne_eq, Bool.not_not, Decidable.not_not] at h12
        refine JO.no rfl rfl rfl ?_
        refine JO.no rfl rfl rfl ?_
        refine JO.no rfl rfl rfl ?_
        refine JO.no rfl rfl rfl ?_
        refine JO.no rfl rfl rfl ?_
        refine JO.no rfl rfl rfl ?_
        refine JO.no rfl rfl rfl ?_
        refine JO.pur rfl rfl rfl (Pur.pickT rfl rfl) ?_
        refine JO.pur rfl rfl rfl (Pur.assign rfl) ?_
        refine JO.nil ?_
        refine J.ret rfl rfl ?_
        refine ⟨_, _, ⟨rfl, rfl⟩, congrArg Value.bool (by simp_all [isFm, sInt, sBool, sNone, sDom, sArr, sAny]), SubC.out⟩
      · try simp only [decide_eq_true_eq, decide_eq_false_iff_not, Bool.not_eq_true', Bool.not_eq_false', Bool.and_eq_true, Bool.or_eq_true, Bool.and_eq_false_iff, Bool.or_eq_false_iff, Option.isNone_some, Option.isSome_some, Option.isNone_none, Option.isSome_none, Int.not_lt, Int.not_le, beq_iff_eq, beq_eq_false_iff_ne, bne_iff_ne, ne_eq, Bool.not_not, Decidable.not_not] at h12
        refine JO.pur rfl rfl rfl (Pur.fieldAddr rfl) ?_
        refine JO.pur rfl rfl rfl (Pur.load rfl (CellIn.blk rfl)) ?_
        refine JO.pur rfl rfl rfl (Pur.neqT rfl rfl) ?_
        refine JO.pur rfl rfl rfl (Pur.move rfl) ?_
        refine JO.splitB 16 rfl (fun h16 => ?_) (fun h16 => ?_)
        · try simp only [decide_eq_true_eq, decide_eq_false_iff_not, Bool.not_eq_true', Bool.not_eq_false', Bool.and_eq_true, Bool.or_eq_true, Bool.and_eq_false_iff, Bool.or_eq_false_iff, Option.isNone_some, Option.isSome_some, Option.isNone_none, Option.isSome_none, Int.not_lt, Int.not_le, beq_iff_eq, beq_eq_false_iff_ne, bne_iff_ne, ne_eq, Bool.not_not, Decidable.not_not] at h16
          refine JO.pur rfl rfl rfl (Pur.loadA rfl rfl rfl CellsIn.blk) ?_
          refine JO.effR rfl rfl rfl (Eff.call rfl (isTy_ok f)) ?_
          refine JO.pur rfl rfl rfl (Pur.pickT rfl rfl) ?_
          refine JO.pur rfl rfl rfl (Pur.pickF rfl rfl) ?_
          refine JO.pur rfl rfl rfl (Pur.assign rfl) ?_
          refine JO.nil ?_
          refine J.ret rfl rfl ?_
          refine ⟨_, _, ⟨rfl, rfl⟩, congrArg Value.bool (by simp_all [isFm, sInt, sBool, sNone, sDom, sArr, sAny]), SubC.out⟩
        · try simp only [decide_eq_true_eq, decide_eq_false_iff_not, Bool.not_eq_true', Bool.not_eq_false', Bool.and_eq_true, Bool.or_eq_true, Bool.and_eq_false_iff, Bool.or_eq_false_iff, Option.isNone_some, Option.isSome_some, Option.isNone_none, Option.isSome_none, Int.not_lt, Int.not_le, beq_iff_eq, beq_eq_false_iff_ne, bne_iff_ne, ne_eq, Bool.not_not, Decidable.not_not] at h16
          refine JO.no rfl rfl rfl ?_
          refine JO.no rfl rfl rfl ?_
          refine JO.pur rfl rfl rfl (Pur.pickF rfl rfl) ?_
          refine JO.pur rfl rfl rfl (Pur.pickF rfl rfl) ?_
          refine JO.pur rfl rfl rfl (Pur.assign rfl) ?_
          refine JO.nil ?_
          refine J.ret rfl rfl ?_
          refine ⟨_, _, ⟨rfl, rfl⟩, congrArg Value.bool (by simp_all [isFm, sInt, sBool, sNone, sDom, sArr, sAny]), SubC.out⟩
    · try simp only [decide_eq_true_eq, decide_eq_false_iff_not, Bool.not_eq_true', Bool.not_eq_false', Bool.and_eq_true, Bool.or_eq_true, Bool.and_eq_false_iff, Bool.or_eq_false_iff, Option.isNone_some, Option.isSome_some, Option.isNone_none, Option.isSome_none, Int.not_lt, Int.not_le, beq_iff_eq, beq_eq_false_iff_ne, bne_iff_ne, ne_eq, Bool.not_not, Decidable.not_not] at h5
      refine J.condF rfl rfl ?_
      refine J.region rfl ?_
      refine JO.pur rfl rfl rfl (Pur.eqlT rfl rfl) ?_
      refine JO.pur rfl rfl rfl (Pur.assign rfl) ?_
      refine JO.nil ?_
      refine J.splitB 5 rfl (fun h5 => ?_) (fun h5 => ?_)
      · try simp only [decide_eq_true_eq, decide_eq_false_iff_not, Bool.not_eq_true', Bool.not_eq_false', Bool.and_eq_true, Bool.or_eq_true, Bool.and_eq_false_iff, Bool.or_eq_false_iff, Option.isNone_some, Option.isSome_some, Option.isNone_none, Option.isSome_none, Int.not_lt, Int.not_le, beq_iff_eq, beq_eq_false_iff_ne, bne_iff_ne, ne_eq, Bool.not_not, Decidable.not_not] at h5
        refine J.condT rfl rfl ?_
        refine J.seq rfl ?_
        refine J.region rfl ?_
        refine JO.pur rfl rfl rfl (Pur.fieldAddr rfl) ?_
        refine JO.pur rfl rfl rfl (Pur.load rfl (CellIn.blk rfl)) ?_
        refine JO.pur rfl rfl rfl (Pur.eqlI rfl rfl) ?_
        refine JO.pur rfl rfl rfl (Pur.move rfl) ?_
        refine JO.splitB 12 rfl (fun h12 => ?_) (fun h12 => ?_)
        · try simp only [decide_eq_true_eq, decide_eq_false_iff_not, Bool.not_eq_true', Bool.not_eq_false', Bool.and_eq_true, Bool.or_eq_true, Bool.and_eq_false_iff, Bool.or_eq_false_iff, Option.isNone_some, Option.isSome_some, Option.isNone_none, Option.isSome_none, Int.not_lt, Int.not_le, beq_iff_eq, beq_eq_false_iff_ne, bne_iff_ne, ne_eq, Bool.not_not, Decidable.not_not] at h12
          refine JO.no rfl rfl rfl ?_
          refine JO.no rfl rfl rfl ?_
          refine JO.no rfl rfl rfl ?_
          refine JO.no rfl rfl rfl ?_
          refine JO.no rfl rfl rfl ?_
          refine JO.no rfl rfl rfl ?_
          refine JO.no rfl rfl rfl ?_
          refine JO.pur rfl rfl rfl (Pur.pickT rfl rfl) ?_
          refine JO.pur rfl rfl rfl (Pur.assign rfl) ?_
          refine JO.nil ?_
          refine J.ret rfl rfl ?_
          refine ⟨_, _, ⟨rfl, rfl⟩, congrArg Value.bool (by simp_all [isFm, sInt, sBool, sNone, sDom, sArr, sAny]), SubC.out⟩
        · try simp only [decide_eq_true_eq, decide_eq_false_iff_not, Bool.not_eq_true', Bool.not_eq_false', Bool.and_eq_true, Bool.or_eq_true, Bool.and_eq_false_iff, Bool.or_eq_false_iff, Option.isNone_some, Option.isSome_some, Option.isNone_none, Option.isSome_none, Int.not_lt, Int.not_le, beq_iff_eq, beq_eq_false_iff_ne, bne_iff_ne, ne_eq, Bool.not_not, Decidable.not_not] at h12
          refine JO.pur rfl rfl rfl (Pur.fieldAddr rfl) ?_
          refine JO.pur rfl rfl rfl (Pur.load rfl (CellIn.blk rfl)) ?_
          refine JO.pur rfl rfl rfl (Pur.neqT rfl rfl) ?_
          refine JO.pur rfl rfl rfl (Pur.move rfl) ?_
          refine JO.splitB 16 rfl (fun h16 => ?_) (fun h16 => ?_)
          · try simp only [decide_eq_true_eq, decide_eq_false_iff_not, Bool.not_eq_true', Bool.not_eq_false', Bool.and_eq_true, Bool.or_eq_true, Bool.and_eq_false_iff, Bool.or_eq_false_iff, Option.isNone_some, Option.isSome_some, Option.isNone_none, Option.isSome_none, Int.not_lt, Int.not_le, beq_iff_eq, beq_eq_false_iff_ne, bne_iff_ne, ne_eq, Bool.not_not, Decidable.not_not] at h16
            refine JO.pur rfl rfl rfl (Pur.loadA rfl rfl rfl CellsIn.blk) ?_
            refine JO.effR rfl rfl rfl (Eff.call rfl (isTy_ok f)) ?_
            refine JO.pur rfl rfl rfl (Pur.pickT rfl rfl) ?_
            refine JO.pur rfl rfl rfl (Pur.pickF rfl rfl) ?_
            refine JO.pur rfl rfl rfl (Pur.assign rfl) ?_
            refine JO.nil ?_
            refine J.ret rfl rfl ?_
            refine ⟨_, _, ⟨rfl, rfl⟩, congrArg Value.bool (by simp_all [isFm, sInt, sBool, sNone, sDom, sArr, sAny]), SubC.out⟩
          · try simp only [decide_eq_true_eq, decide_eq_false_iff_not, Bool.not_eq_true', Bool.not_eq_false', Bool.and_eq_true, Bool.or_eq_true, Bool.and_eq_false_iff, Bool.or_eq_false_iff, Option.isNone_some, Option.isSome_some, Option.isNone_none, Option.isSome_none, Int.not_lt, Int.not_le, beq_iff_eq, beq_eq_false_iff_ne, bne_iff_ne, ne_eq, Bool.not_not, Decidable.not_not] at h16
            refine JO.no rfl rfl rfl ?_
            refine JO.no rfl rfl rfl ?_
            refine JO.pur rfl rfl rfl (Pur.pickF rfl rfl) ?_
            refine JO.pur rfl rfl rfl (Pur.pickF rfl rfl) ?_
            refine JO.pur rfl rfl rfl (Pur.assign rfl) ?_
            refine JO.nil ?_
            refine J.ret rfl rfl ?_
            refine ⟨_, _, ⟨rfl, rfl⟩, congrArg Value.bool (by simp_all [isFm, sInt, sBool, sNone, sDom, sArr, sAny]), SubC.out⟩
      · try simp only [decide_eq_true_eq, decide_eq_false_iff_not, Bool.not_eq_true', Bool.not_eq_false', Bool.and_eq_true, Bool.or_eq_true, Bool.and_eq_false_iff, Bool.or_eq_false_iff, Option.isNone_some, Option.isSome_some, Option.isNone_none, Option.isSome_none, Int.not_lt, Int.not_le, beq_iff_eq, beq_eq_false_iff_ne, bne_iff_ne, ne_eq, Bool.not_not, Decidable.not_not] at h5
        refine J.condF rfl rfl ?_
        refine J.skip rfl ?_
        refine J.inBlock ?_
        refine J.seq rfl ?_
        refine J.region rfl ?_
        refine JO.pur rfl rfl rfl (Pur.fieldAddr rfl) ?_
        refine JO.pur rfl rfl rfl (Pur.load rfl (CellIn.blk rfl)) ?_
        refine JO.pur rfl rfl rfl (Pur.neqT rfl rfl) ?_
        refine JO.pur rfl rfl rfl (Pur.move rfl) ?_
        refine JO.splitB 24 rfl (fun h24 => ?_) (fun h24 => ?_)
        · try simp only [decide_eq_true_eq, decide_eq_false_iff_not, Bool.not_eq_true', Bool.not_eq_false', Bool.and_eq_true, Bool.or_eq_true, Bool.and_eq_false_iff, Bool.or_eq_false_iff, Option.isNone_some, Option.isSome_some, Option.isNone_none, Option.isSome_none, Int.not_lt, Int.not_le, beq_iff_eq, beq_eq_false_iff_ne, bne_iff_ne, ne_eq, Bool.not_not, Decidable.not_not] at h24
          refine JO.pur rfl rfl rfl (Pur.loadA rfl rfl rfl CellsIn.blk) ?_
          refine JO.effR rfl rfl rfl (Eff.call rfl (isTy_ok f)) ?_
          refine JO.pur rfl rfl rfl (Pur.pickT rfl rfl) ?_
          refine JO.pur rfl rfl rfl (Pur.assign rfl) ?_
          refine JO.nil ?_
          refine J.ret rfl rfl ?_
          refine ⟨_, _, ⟨rfl, rfl⟩, congrArg Value.bool (by simp_all [isFm, sInt, sBool, sNone, sDom, sArr, sAny]), SubC.out⟩
        · try simp only [decide_eq_true_eq, decide_eq_false_iff_not, Bool.not_eq_true', Bool.not_eq_false', Bool.and_eq_true, Bool.or_eq_true, Bool.and_eq_false_iff, Bool.or_eq_false_iff, Option.isNone_some, Option.isSome_some, Option.isNone_none, Option.isSome_none, Int.not_lt, Int.not_le, beq_iff_eq, beq_eq_false_iff_ne, bne_iff_ne, ne_eq, Bool.not_not, Decidable.not_not] at h24
          refine JO.no rfl rfl rfl ?_
          refine JO.no rfl rfl rfl ?_
          refine JO.pur rfl rfl rfl (Pur.pickF rfl rfl) ?_
          refine JO.pur rfl rfl rfl (Pur.assign rfl) ?_
          refine JO.nil ?_
          refine J.ret rfl rfl ?_
          refine ⟨_, _, ⟨rfl, rfl⟩, congrArg Value.bool (by simp_all [isFm, sInt, sBool, sNone, sDom, sArr, sAny]), SubC.out⟩

theorem isAc_ok {L : List Asn} (f : Fm) :
    CallS Tryd.prog 22 [.agg #[.string f.1, .int .i64 f.2]].toArray L (fun v M => v = .bool (isAc f) ∧ M = L) := by
  refine CallS.ent ?_
  refine CallS.enter Tryd.func22 rfl rfl rfl rfl rfl ?_
  refine J.seq rfl ?_
  refine J.region rfl ?_
  refine JO.eff rfl rfl rfl (Eff.box (cs := [_, _]) rfl rfl) ?_
  rintro _ _ ⟨b1, rfl, rfl⟩
  refine JO.pur rfl rfl rfl (Pur.assign rfl) ?_
  refine JO.nil ?_
  refine J.seq rfl ?_
  refine J.region rfl ?_
  refine JO.pur rfl rfl rfl (Pur.loadA rfl rfl rfl CellsIn.blk) ?_
  refine JO.effR rfl rfl rfl (Eff.call rfl (isTy_ok f)) ?_
  refine JO.pur rfl rfl rfl (Pur.move rfl) ?_
  refine JO.splitB 5 rfl (fun h5 => ?_) (fun h5 => ?_)
  · try simp only [decide_eq_true_eq, decide_eq_false_iff_not, Bool.not_eq_true', Bool.not_eq_false', Bool.and_eq_true, Bool.or_eq_true, Bool.and_eq_false_iff, Bool.or_eq_false_iff, Option.isNone_some, Option.isSome_some, Option.isNone_none, Option.isSome_none, Int.not_lt, Int.not_le, beq_iff_eq, beq_eq_false_iff_ne, bne_iff_ne, ne_eq, Bool.not_not, Decidable.not_not] at h5
    refine JO.pur rfl rfl rfl (Pur.fieldAddr rfl) ?_
    refine JO.pur rfl rfl rfl (Pur.load rfl (CellIn.blk rfl)) ?_
    refine JO.pur rfl rfl rfl (Pur.neqT rfl rfl) ?_
    refine JO.pur rfl rfl rfl (Pur.pickT rfl rfl) ?_
    refine JO.pur rfl rfl rfl (Pur.assign rfl) ?_
    refine JO.nil ?_
    refine J.ret rfl rfl ?_
    refine ⟨_, _, ⟨rfl, rfl⟩, congrArg Value.bool (by first | (simp only [isAc, *, Bool.true_and]; rfl) | simp_all [isAc]), SubC.out⟩
  · try simp only [decide_eq_true_eq, decide_eq_false_iff_not, Bool.not_eq_true', Bool.not_eq_false', Bool.and_eq_true, Bool.or_eq_true, Bool.and_eq_false_iff, Bool.or_eq_false_iff, Option.isNone_some, Option.isSome_some, Option.isNone_none, Option.isSome_none, Int.not_lt, Int.not_le, beq_iff_eq, beq_eq_false_iff_ne, bne_iff_ne, ne_eq, Bool.not_not, Decidable.not_not] at h5
    refine JO.no rfl rfl rfl ?_
    refine JO.no rfl rfl rfl ?_
    refine JO.no rfl rfl rfl ?_
    refine JO.pur rfl rfl rfl (Pur.pickF rfl rfl) ?_
    refine JO.pur rfl rfl rfl (Pur.assign rfl) ?_
    refine JO.nil ?_
    refine J.ret rfl rfl ?_
    refine ⟨_, _, ⟨rfl, rfl⟩, congrArg Value.bool (by first | (simp only [isAc, *, Bool.true_and]; rfl) | simp_all [isAc]), SubC.out⟩

theorem notAc_ok {L : List Asn} (f : Fm) :
    CallS Tryd.prog 21 [.agg #[.string f.1, .int .i64 f.2]].toArray L (fun v M => v = .bool (!isAc f) ∧ M = L) := by
  refine CallS.ent ?_
  refine CallS.enter Tryd.func21 rfl rfl rfl rfl rfl ?_
  refine J.seq rfl ?_
  refine J.region rfl ?_
  refine JO.eff rfl rfl rfl (Eff.box (cs := [_, _]) rfl rfl) ?_
  rintro _ _ ⟨b1, rfl, rfl⟩
  refine JO.pur rfl rfl rfl (Pur.assign rfl) ?_
  refine JO.nil ?_
  refine J.seq rfl ?_
  refine J.region rfl ?_
  refine JO.pur rfl rfl rfl (Pur.loadA rfl rfl rfl CellsIn.blk) ?_
  refine JO.effR rfl rfl rfl (Eff.call rfl (isAc_ok f)) ?_
  refine JO.pur rfl rfl rfl (Pur.not rfl) ?_
  refine JO.pur rfl rfl rfl (Pur.assign rfl) ?_
  refine JO.nil ?_
  refine J.ret rfl rfl ?_
  refine ⟨_, _, ⟨rfl, rfl⟩, rfl, SubC.out⟩

theorem fits_ok {L : List Asn} (f a : Fm) :
    CallS Tryd.prog 16 [.agg #[.string f.1, .int .i64 f.2], .agg #[.string a.1, .int .i64 a.2]].toArray L (fun v M => v = .tuple #[.int .i64 (fitW f a).1, .bool (fitW f a).2] ∧ M = L) := by
  refine CallS.ent ?_
  refine CallS.enter Tryd.func16 rfl rfl rfl rfl rfl ?_
  refine J.seq rfl ?_
  refine J.region rfl ?_
  refine JO.eff rfl rfl rfl (Eff.box (cs := [_, _]) rfl rfl) ?_
  rintro _ _ ⟨b2, rfl, rfl⟩
  refine JO.eff rfl rfl rfl (Eff.box (cs := [_, _]) rfl rfl) ?_
  rintro _ _ ⟨b3, rfl, rfl⟩
  refine JO.pur rfl rfl rfl (Pur.assign rfl) ?_
  refine JO.pur rfl rfl rfl (Pur.assign rfl) ?_
  refine JO.nil ?_
  refine J.seq rfl ?_
  refine J.block rfl ?_
  refine J.seq rfl ?_
  refine J.region rfl ?_
  refine JO.pur rfl rfl rfl (Pur.loadA rfl rfl rfl CellsIn.blk) ?_
  refine JO.pur rfl rfl rfl (Pur.loadA rfl rfl rfl CellsIn.blk) ?_
  refine JO.pur rfl rfl rfl (Pur.eqlE (E := fmE) (a := f) (b := a) rfl rfl) ?_
  refine JO.pur rfl rfl rfl (Pur.assign rfl) ?_
  refine JO.nil ?_
  refine J.splitB 6 rfl (fun h6 => ?_) (fun h6 => ?_)
  · try simp only [decide_eq_true_eq, decide_eq_false_iff_not, Bool.not_eq_true', Bool.not_eq_false', Bool.and_eq_true, Bool.or_eq_true, Bool.and_eq_false_iff, Bool.or_eq_false_iff, Option.isNone_some, Option.isSome_some, Option.isNone_none, Option.isSome_none, Int.not_lt, Int.not_le, beq_iff_eq, beq_eq_false_iff_ne, bne_iff_ne, ne_eq, Bool.not_not, Decidable.not_not] at h6
    refine J.condT rfl rfl ?_
    refine J.seq rfl ?_
    refine J.region rfl ?_
    refine JO.pur rfl rfl rfl (Pur.assign rfl) ?_
    refine JO.pur rfl rfl rfl (Pur.assign rfl) ?_
    refine JO.nil ?_
    refine J.ret rfl rfl ?_
    refine ⟨_, _, ⟨rfl, rfl⟩, (by simp_all [fitW, tupV, sInt, sBool, sNone, sDom, sArr, sAny]), SubC.out⟩
  · try simp only [decide_eq_true_eq, decide_eq_false_iff_not, Bool.not_eq_true', Bool.not_eq_false', Bool.and_eq_true, Bool.or_eq_true, Bool.and_eq_false_iff, Bool.or_eq_false_iff, Option.isNone_some, Option.isSome_some, Option.isNone_none, Option.isSome_none, Int.not_lt, Int.not_le, beq_iff_eq, beq_eq_false_iff_ne, bne_iff_ne, ne_eq, Bool.not_not, Decidable.not_not] at h6
    refine J.condF rfl rfl ?_
    refine J.seq rfl ?_
    refine J.region rfl ?_
    refine JO.pur rfl rfl rfl (Pur.fieldAddr rfl) ?_
    refine JO.pur rfl rfl rfl (Pur.load rfl (CellIn.blk rfl)) ?_
    refine JO.pur rfl rfl rfl (Pur.eqlT rfl rfl) ?_
    refine JO.pur rfl rfl rfl (Pur.move rfl) ?_
    refine JO.splitB 14 rfl (fun h14 => ?_) (fun h14 => ?_)
    · try simp only [decide_eq_true_eq, decide_eq_false_iff_not, Bool.not_eq_true', Bool.not_eq_false', Bool.and_eq_true, Bool.or_eq_true, Bool.and_eq_false_iff, Bool.or_eq_false_iff, Option.isNone_some, Option.isSome_some, Option.isNone_none, Option.isSome_none, Int.not_lt, Int.not_le, beq_iff_eq, beq_eq_false_iff_ne, bne_iff_ne, ne_eq, Bool.not_not, Decidable.not_not] at h14
      refine JO.pur rfl rfl rfl (Pur.fieldAddr rfl) ?_
      refine JO.pur rfl rfl rfl (Pur.load rfl (CellIn.blk rfl)) ?_
      refine JO.pur rfl rfl rfl (Pur.eqlT rfl rfl) ?_
      refine JO.pur rfl rfl rfl (Pur.pickT rfl rfl) ?_
      refine JO.pur rfl rfl rfl (Pur.assign rfl) ?_
      refine JO.nil ?_
      refine J.splitB 10 rfl (fun h10 => ?_) (fun h10 => ?_)
      · try simp only [decide_eq_true_eq, decide_eq_false_iff_not, Bool.not_eq_true', Bool.not_eq_false', Bool.and_eq_true, Bool.or_eq_true, Bool.and_eq_false_iff, Bool.or_eq_false_iff, Option.isNone_some, Option.isSome_some, Option.isNone_none, Option.isSome_none, Int.not_lt, Int.not_le, beq_iff_eq, beq_eq_false_iff_ne, bne_iff_ne, ne_eq, Bool.not_not, Decidable.not_not] at h10
        refine J.condT rfl rfl ?_
        refine J.seq rfl ?_
        refine J.region rfl ?_
        refine JO.pur rfl rfl rfl (Pur.assign rfl) ?_
        refine JO.pur rfl rfl rfl (Pur.assign rfl) ?_
        refine JO.nil ?_
        refine J.ret rfl rfl ?_
        refine ⟨_, _, ⟨rfl, rfl⟩, (by simp_all [fitW, tupV, sInt, sBool, sNone, sDom, sArr, sAny]), SubC.out⟩
      · try simp only [decide_eq_true_eq, decide_eq_false_iff_not, Bool.not_eq_true', Bool.not_eq_false', Bool.and_eq_true, Bool.or_eq_true, Bool.and_eq_false_iff, Bool.or_eq_false_iff, Option.isNone_some, Option.isSome_some, Option.isNone_none, Option.isSome_none, Int.not_lt, Int.not_le, beq_iff_eq, beq_eq_false_iff_ne, bne_iff_ne, ne_eq, Bool.not_not, Decidable.not_not] at h10
        refine J.condF rfl rfl ?_
        refine J.seq rfl ?_
        refine J.region rfl ?_
        refine JO.pur rfl rfl rfl (Pur.fieldAddr rfl) ?_
        refine JO.pur rfl rfl rfl (Pur.load rfl (CellIn.blk rfl)) ?_
        refine JO.pur rfl rfl rfl (Pur.eqlI rfl rfl) ?_
        refine JO.pur rfl rfl rfl (Pur.move rfl) ?_
        refine JO.splitB 23 rfl (fun h23 => ?_) (fun h23 => ?_)
        · try simp only [decide_eq_true_eq, decide_eq_false_iff_not, Bool.not_eq_true', Bool.not_eq_false', Bool.and_eq_true, Bool.or_eq_true, Bool.and_eq_false_iff, Bool.or_eq_false_iff, Option.isNone_some, Option.isSome_some, Option.isNone_none, Option.isSome_none, Int.not_lt, Int.not_le, beq_iff_eq, beq_eq_false_iff_ne, bne_iff_ne, ne_eq, Bool.not_not, Decidable.not_not] at h23
          refine JO.pur rfl rfl rfl (Pur.fieldAddr rfl) ?_
          refine JO.pur rfl rfl rfl (Pur.load rfl (CellIn.blk rfl)) ?_
          refine JO.pur rfl rfl rfl (Pur.fieldAddr rfl) ?_
          refine JO.pur rfl rfl rfl (Pur.load rfl (CellIn.blk rfl)) ?_
          refine JO.pur rfl rfl rfl (Pur.eqlT rfl rfl) ?_
          refine JO.pur rfl rfl rfl (Pur.pickT rfl rfl) ?_
          refine JO.pur rfl rfl rfl (Pur.assign rfl) ?_
          refine JO.nil ?_
          refine J.splitB 19 rfl (fun h19 => ?_) (fun h19 => ?_)
          · try simp only [decide_eq_true_eq, decide_eq_false_iff_not, Bool.not_eq_true', Bool.not_eq_false', Bool.and_eq_true, Bool.or_eq_true, Bool.and_eq_false_iff, Bool.or_eq_false_iff, Option.isNone_some, Option.isSome_some, Option.isNone_none, Option.isSome_none, Int.not_lt, Int.not_le, beq_iff_eq, beq_eq_false_iff_ne, bne_iff_ne, ne_eq, Bool.not_not, Decidable.not_not] at h19
            refine J.condT rfl rfl ?_
            refine J.seq rfl ?_
            refine J.region rfl ?_
            refine JO.pur rfl rfl rfl (Pur.assign rfl) ?_
            refine JO.pur rfl rfl rfl (Pur.assign rfl) ?_
            refine JO.nil ?_
            refine J.ret rfl rfl ?_
            refine ⟨_, _, ⟨rfl, rfl⟩, (by simp_all [fitW, tupV, sInt, sBool, sNone, sDom, sArr, sAny]), SubC.out⟩
          · try simp only [decide_eq_true_eq, decide_eq_false_iff_not, Bool.not_eq_true', Bool.not_eq_false', Bool.and_eq_true, Bool.or_eq_true, Bool.and_eq_false_iff, Bool.or_eq_false_iff, Option.isNone_some, Option.isSome_some, Option.isNone_none, Option.isSome_none, Int.not_lt, Int.not_le, beq_iff_eq, beq_eq_false_iff_ne, bne_iff_ne, ne_eq, Bool.not_not, Decidable.not_not] at h19
            refine J.condF rfl rfl ?_
            refine J.seq rfl ?_
            refine J.region rfl ?_
            refine JO.pur rfl rfl rfl (Pur.fieldAddr rfl) ?_
            refine JO.pur rfl rfl rfl (Pur.load rfl (CellIn.blk rfl)) ?_
            refine JO.pur rfl rfl rfl (Pur.eqlT rfl rfl) ?_
            refine JO.pur rfl rfl rfl (Pur.assign rfl) ?_
            refine JO.nil ?_
            refine J.splitB 30 rfl (fun h30 => ?_) (fun h30 => ?_)
            · try simp only [decide_eq_true_eq, decide_eq_false_iff_not, Bool.not_eq_true', Bool.not_eq_false', Bool.and_eq_true, Bool.or_eq_true, Bool.and_eq_false_iff, Bool.or_eq_false_iff, Option.isNone_some, Option.isSome_some, Option.isNone_none, Option.isSome_none, Int.not_lt, Int.not_le, beq_iff_eq, beq_eq_false_iff_ne, bne_iff_ne, ne_eq, Bool.not_not, Decidable.not_not] at h30
              refine J.condT rfl rfl ?_
              refine J.seq rfl ?_
              refine J.region rfl ?_
              refine JO.pur rfl rfl rfl (Pur.assign rfl) ?_
              refine JO.pur rfl rfl rfl (Pur.assign rfl) ?_
              refine JO.nil ?_
              refine J.ret rfl rfl ?_
              refine ⟨_, _, ⟨rfl, rfl⟩, (by simp_all [fitW, tupV, sInt, sBool, sNone, sDom, sArr, sAny]), SubC.out⟩
            · try simp only [decide_eq_true_eq, decide_eq_false_iff_not, Bool.not_eq_true', Bool.not_eq_false', Bool.and_eq_true, Bool.or_eq_true, Bool.and_eq_false_iff, Bool.or_eq_false_iff, Option.isNone_some, Option.isSome_some, Option.isNone_none, Option.isSome_none, Int.not_lt, Int.not_le, beq_iff_eq, beq_eq_false_iff_ne, bne_iff_ne, ne_eq, Bool.not_not, Decidable.not_not] at h30
              refine J.condF rfl rfl ?_
              refine J.seq rfl ?_
              refine J.region rfl ?_
              refine JO.pur rfl rfl rfl (Pur.fieldAddr rfl) ?_
              refine JO.pur rfl rfl rfl (Pur.load rfl (CellIn.blk rfl)) ?_
              refine JO.pur rfl rfl rfl (Pur.eqlT rfl rfl) ?_
              refine JO.pur rfl rfl rfl (Pur.move rfl) ?_
              refine JO.splitB 38 rfl (fun h38 => ?_) (fun h38 => ?_)
              · try simp only [decide_eq_true_eq, decide_eq_false_iff_not, Bool.not_eq_true', Bool.not_eq_false', Bool.and_eq_true, Bool.or_eq_true, Bool.and_eq_false_iff, Bool.or_eq_false_iff, Option.isNone_some, Option.isSome_some, Option.isNone_none, Option.isSome_none, Int.not_lt, Int.not_le, beq_iff_eq, beq_eq_false_iff_ne, bne_iff_ne, ne_eq, Bool.not_not, Decidable.not_not] at h38
                refine JO.pur rfl rfl rfl (Pur.fieldAddr rfl) ?_
                refine JO.pur rfl rfl rfl (Pur.load rfl (CellIn.blk rfl)) ?_
                refine JO.pur rfl rfl rfl (Pur.eqlT rfl rfl) ?_
                refine JO.pur rfl rfl rfl (Pur.pickT rfl rfl) ?_
                refine JO.pur rfl rfl rfl (Pur.assign rfl) ?_
                refine JO.nil ?_
                refine J.splitB 34 rfl (fun h34 => ?_) (fun h34 => ?_)
                · try simp only [decide_eq_true_eq, decide_eq_false_iff_not, Bool.not_eq_true', Bool.not_eq_false', Bool.and_eq_true, Bool.or_eq_true, Bool.and_eq_false_iff, Bool.or_eq_false_iff, Option.isNone_some, Option.isSome_some, Option.isNone_none, Option.isSome_none, Int.not_lt, Int.not_le, beq_iff_eq, beq_eq_false_iff_ne, bne_iff_ne, ne_eq, Bool.not_not, Decidable.not_not] at h34
                  refine J.condT rfl rfl ?_
                  refine J.seq rfl ?_
                  refine J.region rfl ?_
                  refine JO.pur rfl rfl rfl (Pur.assign rfl) ?_
                  refine JO.pur rfl rfl rfl (Pur.assign rfl) ?_
                  refine JO.nil ?_
                  refine J.ret rfl rfl ?_
                  refine ⟨_, _, ⟨rfl, rfl⟩, (by simp_all [fitW, tupV, sInt, sBool, sNone, sDom, sArr, sAny]), SubC.out⟩
                · try simp only [decide_eq_true_eq, decide_eq_false_iff_not, Bool.not_eq_true', Bool.not_eq_false', Bool.and_eq_true, Bool.or_eq_true, Bool.and_eq_false_iff, Bool.or_eq_false_iff, Option.isNone_some, Option.isSome_some, Option.isNone_none, Option.isSome_none, Int.not_lt, Int.not_le, beq_iff_eq, beq_eq_false_iff_ne, bne_iff_ne, ne_eq, Bool.not_not, Decidable.not_not] at h34
                  refine J.condF rfl rfl ?_
                  refine J.skip rfl ?_
                  refine J.inBlock ?_
                  refine J.seq rfl ?_
                  refine J.region rfl ?_
                  refine JO.pur rfl rfl rfl (Pur.assign rfl) ?_
                  refine JO.pur rfl rfl rfl (Pur.assign rfl) ?_
                  refine JO.nil ?_
                  refine J.ret rfl rfl ?_
                  refine ⟨_, _, ⟨rfl, rfl⟩, (by simp_all [fitW, tupV, sInt, sBool, sNone, sDom, sArr, sAny]), SubC.out⟩
              · try simp only [decide_eq_true_eq, decide_eq_false_iff_not, Bool.not_eq_true', Bool.not_eq_false', Bool.and_eq_true, Bool.or_eq_true, Bool.and_eq_false_iff, Bool.or_eq_false_iff, Option.isNone_some, Option.isSome_some, Option.isNone_none, Option.isSome_none, Int.not_lt, Int.not_le, beq_iff_eq, beq_eq_false_iff_ne, bne_iff_ne, ne_eq, Bool.not_not, Decidable.not_not] at h38
                refine JO.no rfl rfl rfl ?_
                refine JO.no rfl rfl rfl ?_
                refine JO.no rfl rfl rfl ?_
                refine JO.pur rfl rfl rfl (Pur.pickF rfl rfl) ?_
                refine JO.pur rfl rfl rfl (Pur.assign rfl) ?_
                refine JO.nil ?_
                refine J.condF rfl rfl ?_
                refine J.skip rfl ?_
                refine J.inBlock ?_
                refine J.seq rfl ?_
                refine J.region rfl ?_
                refine JO.pur rfl rfl rfl (Pur.assign rfl) ?_
                refine JO.pur rfl rfl rfl (Pur.assign rfl) ?_
                refine JO.nil ?_
                refine J.ret rfl rfl ?_
                refine ⟨_, _, ⟨rfl, rfl⟩, (by simp_all [fitW, tupV, sInt, sBool, sNone, sDom, sArr, sAny]), SubC.out⟩
        · try simp only [decide_eq_true_eq, decide_eq_false_iff_not, Bool.not_eq_true', Bool.not_eq_false', Bool.and_eq_true, Bool.or_eq_true, Bool.and_eq_false_iff, Bool.or_eq_false_iff, Option.isNone_some, Option.isSome_some, Option.isNone_none, Option.isSome_none, Int.not_lt, Int.not_le, beq_iff_eq, beq_eq_false_iff_ne, bne_iff_ne, ne_eq, Bool.not_not, Decidable.not_not] at h23
          refine JO.no rfl rfl rfl ?_
          refine JO.no rfl rfl rfl ?_
          refine JO.no rfl rfl rfl ?_
          refine JO.no rfl rfl rfl ?_
          refine JO.no rfl rfl rfl ?_
          refine JO.pur rfl rfl rfl (Pur.pickF rfl rfl) ?_
          refine JO.pur rfl rfl rfl (Pur.assign rfl) ?_
          refine JO.nil ?_
          refine J.condF rfl rfl ?_
          refine J.seq rfl ?_
          refine J.region rfl ?_
          refine JO.pur rfl rfl rfl (Pur.fieldAddr rfl) ?_
          refine JO.pur rfl rfl rfl (Pur.load rfl (CellIn.blk rfl)) ?_
          refine JO.pur rfl rfl rfl (Pur.eqlT rfl rfl) ?_
          refine JO.pur rfl rfl rfl (Pur.assign rfl) ?_
          refine JO.nil ?_
          refine J.splitB 30 rfl (fun h30 => ?_) (fun h30 => ?_)
          · try simp only [decide_eq_true_eq, decide_eq_false_iff_not, Bool.not_eq_true', Bool.not_eq_false', Bool.and_eq_true, Bool.or_eq_true, Bool.and_eq_false_iff, Bool.or_eq_false_iff, Option.isNone_some, Option.isSome_some, Option.isNone_none, Option.isSome_none, Int.not_lt, Int.not_le, beq_iff_eq, beq_eq_false_iff_ne, bne_iff_ne, ne_eq, Bool.not_not, Decidable.not_not] at h30
            refine J.condT rfl rfl ?_
            refine J.seq rfl ?_
            refine J.region rfl ?_
            refine JO.pur rfl rfl rfl (Pur.assign rfl) ?_
            refine JO.pur rfl rfl rfl (Pur.assign rfl) ?_
            refine JO.nil ?_
            refine J.ret rfl rfl ?_
            refine ⟨_, _, ⟨rfl, rfl⟩, (by simp_all [fitW, tupV, sInt, sBool, sNone, sDom, sArr, sAny]), SubC.out⟩
          · try simp only [decide_eq_true_eq, decide_eq_false_iff_not, Bool.not_eq_true', Bool.not_eq_false', Bool.and_eq_true, Bool.or_eq_true, Bool.and_eq_false_iff, Bool.or_eq_false_iff, Option.isNone_some, Option.isSome_some, Option.isNone_none, Option.isSome_none, Int.not_lt, Int.not_le, beq_iff_eq, beq_eq_false_iff_ne, bne_iff_ne, ne_eq, Bool.not_not, Decidable.not_not] at h30
            refine J.condF rfl rfl ?_
            refine J.seq rfl ?_
            refine J.region rfl ?_
            refine JO.pur rfl rfl rfl (Pur.fieldAddr rfl) ?_
            refine JO.pur rfl rfl rfl (Pur.load rfl (CellIn.blk rfl)) ?_
            refine JO.pur rfl rfl rfl (Pur.eqlT rfl rfl) ?_
            refine JO.pur rfl rfl rfl (Pur.move rfl) ?_
            refine JO.splitB 38 rfl (fun h38 => ?_) (fun h38 => ?_)
            · try simp only [decide_eq_true_eq, decide_eq_false_iff_not, Bool.not_eq_true', Bool.not_eq_false', Bool.and_eq_true, Bool.or_eq_true, Bool.and_eq_false_iff, Bool.or_eq_false_iff, Option.isNone_some, Option.isSome_some, Option.isNone_none, Option.isSome_none, Int.not_lt, Int.not_le, beq_iff_eq, beq_eq_false_iff_ne, bne_iff_ne, ne_eq, Bool.not_not, Decidable.not_not] at h38
              refine JO.pur rfl rfl rfl (Pur.fieldAddr rfl) ?_
              refine JO.pur rfl rfl rfl (Pur.load rfl (CellIn.blk rfl)) ?_
              refine JO.pur rfl rfl rfl (Pur.eqlT rfl rfl) ?_
              refine JO.pur rfl rfl rfl (Pur.pickT rfl rfl) ?_
              refine JO.pur rfl rfl rfl (Pur.assign rfl) ?_
              refine JO.nil ?_
              refine J.splitB 34 rfl (fun h34 => ?_) (fun h34 => ?_)
              · try simp only [decide_eq_true_eq, decide_eq_false_iff_not, Bool.not_eq_true', Bool.not_eq_false', Bool.and_eq_true, Bool.or_eq_true, Bool.and_eq_false_iff, Bool.or_eq_false_iff, Option.isNone_some, Option.isSome_some, Option.isNone_none, Option.isSome_none, Int.not_lt, Int.not_le, beq_iff_eq, beq_eq_false_iff_ne, bne_iff_ne, ne_eq, Bool.not_not, Decidable.not_not] at h34
                refine J.condT rfl rfl ?_
                refine J.seq rfl ?_
                refine J.region rfl ?_
                refine JO.pur rfl rfl rfl (Pur.assign rfl) ?_
                refine JO.pur rfl rfl rfl (Pur.assign rfl) ?_
                refine JO.nil ?_
                refine J.ret rfl rfl ?_
                refine ⟨_, _, ⟨rfl, rfl⟩, (by simp_all [fitW, tupV, sInt, sBool, sNone, sDom, sArr, sAny]), SubC.out⟩
              · try simp only [decide_eq_true_eq, decide_eq_false_iff_not, Bool.not_eq_true', Bool.not_eq_false', Bool.and_eq_true, Bool.or_eq_true, Bool.and_eq_false_iff, Bool.or_eq_false_iff, Option.isNone_some, Option.isSome_some, Option.isNone_none, Option.isSome_none, Int.not_lt, Int.not_le, beq_iff_eq, beq_eq_false_iff_ne, bne_iff_ne, ne_eq, Bool.not_not, Decidable.not_not] at h34
                refine J.condF rfl rfl ?_
                refine J.skip rfl ?_
                refine J.inBlock ?_
                refine J.seq rfl ?_
                refine J.region rfl ?_
                refine JO.pur rfl rfl rfl (Pur.assign rfl) ?_
                refine JO.pur rfl rfl rfl (Pur.assign rfl) ?_
                refine JO.nil ?_
                refine J.ret rfl rfl ?_
                refine ⟨_, _, ⟨rfl, rfl⟩, (by simp_all [fitW, tupV, sInt, sBool, sNone, sDom, sArr, sAny]), SubC.out⟩
            · try simp only [decide_eq_true_eq, decide_eq_false_iff_not, Bool.not_eq_true', Bool.not_eq_false', Bool.and_eq_true, Bool.or_eq_true, Bool.and_eq_false_iff, Bool.or_eq_false_iff, Option.isNone_some, Option.isSome_some, Option.isNone_none, Option.isSome_none, Int.not_lt, Int.not_le, beq_iff_eq, beq_eq_false_iff_ne, bne_iff_ne, ne_eq, Bool.not_not, Decidable.not_not] at h38
              refine JO.no rfl rfl rfl ?_
              refine JO.no rfl rfl rfl ?_
              refine JO.no rfl rfl rfl ?_
              refine JO.pur rfl rfl rfl (Pur.pickF rfl rfl) ?_
              refine JO.pur rfl rfl rfl (Pur.assign rfl) ?_
              refine JO.nil ?_
              refine J.condF rfl rfl ?_
              refine J.skip rfl ?_
              refine J.inBlock ?_
              refine J.seq rfl ?_
              refine J.region rfl ?_
              refine JO.pur rfl rfl rfl (Pur.assign rfl) ?_
              refine JO.pur rfl rfl rfl (Pur.assign rfl) ?_
              refine JO.nil ?_
              refine J.ret rfl rfl ?_
              refine ⟨_, _, ⟨rfl, rfl⟩, (by simp_all [fitW, tupV, sInt, sBool, sNone, sDom, sArr, sAny]), SubC.out⟩
    · try simp only [decide_eq_true_eq, decide_eq_false_iff_not, Bool.not_eq_true', Bool.not_eq_false', Bool.and_eq_true, Bool.or_eq_true, Bool.and_eq_false_iff, Bool.or_eq_false_iff, Option.isNone_some, Option.isSome_some, Option.isNone_none, Option.isSome_none, Int.not_lt, Int.not_le, beq_iff_eq, beq_eq_false_iff_ne, bne_iff_ne, ne_eq, Bool.not_not, Decidable.not_not] at h14
      refine JO.no rfl rfl rfl ?_
      refine JO.no rfl rfl rfl ?_
      refine JO.no rfl rfl rfl ?_
      refine JO.pur rfl rfl rfl (Pur.pickF rfl rfl) ?_
      refine JO.pur rfl rfl rfl (Pur.assign rfl) ?_
      refine JO.nil ?_
      refine J.condF rfl rfl ?_
      refine J.seq rfl ?_
      refine J.region rfl ?_
      refine JO.pur rfl rfl rfl (Pur.fieldAddr rfl) ?_
      refine JO.pur rfl rfl rfl (Pur.load rfl (CellIn.blk rfl)) ?_
      refine JO.pur rfl rfl rfl (Pur.eqlI rfl rfl) ?_
      refine JO.pur rfl rfl rfl (Pur.move rfl) ?_
      refine JO.splitB 23 rfl (fun h23 => ?_) (fun h23 => ?_)
      · try simp only [decide_eq_true_eq, decide_eq_false_iff_not, Bool.not_eq_true', Bool.not_eq_false', Bool.and_eq_true, Bool.or_eq_true, Bool.and_eq_false_iff, Bool.or_eq_false_iff, Option.isNone_some, Option.isSome_some, Option.isNone_none, Option.isSome_none, Int.not_lt, Int.not_le, beq_iff_eq, beq_eq_false_iff_ne, bne_iff_ne, ne_eq, Bool.not_not, Decidable.not_not] at h23
        refine JO.pur rfl rfl rfl (Pur.fieldAddr rfl) ?_
        refine JO.pur rfl rfl rfl (Pur.load rfl (CellIn.blk rfl)) ?_
        refine JO.pur rfl rfl rfl (Pur.fieldAddr rfl) ?_
        refine JO.pur rfl rfl rfl (Pur.load rfl (CellIn.blk rfl)) ?_
        refine JO.pur rfl rfl rfl (Pur.eqlT rfl rfl) ?_
        refine JO.pur rfl rfl rfl (Pur.pickT rfl rfl) ?_
        refine JO.pur rfl rfl rfl (Pur.assign rfl) ?_
        refine JO.nil ?_
        refine J.splitB 19 rfl (fun h19 => ?_) (fun h19 => ?_)
        · try simp only [decide_eq_true_eq, decide_eq_false_iff_not, Bool.not_eq_true', Bool.not_eq_false', Bool.and_eq_true, Bool.or_eq_true, Bool.and_eq_false_iff, Bool.or_eq_false_iff, Option.isNone_some, Option.isSome_some, Option.isNone_none, Option.isSome_none, Int.not_lt, Int.not_le, beq_iff_eq, beq_eq_false_iff_ne, bne_iff_ne, ne_eq, Bool.not_not, Decidable.not_not] at h19
          refine J.condT rfl rfl ?_
          refine J.seq rfl ?_
          refine J.region rfl ?_
          refine JO.pur rfl rfl rfl (Pur.assign rfl) ?_
          refine JO.pur rfl rfl rfl (Pur.assign rfl) ?_
          refine JO.nil ?_
          refine J.ret rfl rfl ?_
          refine ⟨_, _, ⟨rfl, rfl⟩, (by simp_all [fitW, tupV, sInt, sBool, sNone, sDom, sArr, sAny]), SubC.out⟩
        · try simp only [decide_eq_true_eq, decide_eq_false_iff_not, Bool.not_eq_true', Bool.not_eq_false', Bool.and_eq_true, Bool.or_eq_true, Bool.and_eq_false_iff, Bool.or_eq_false_iff, Option.isNone_some, Option.isSome_some, Option.isNone_none, Option.isSome_none, Int.not_lt, Int.not_le, beq_iff_eq, beq_eq_false_iff_ne, bne_iff_ne, ne_eq, Bool.not_not, Decidable.not_not] at h19
          refine J.condF rfl rfl ?_
          refine J.seq rfl ?_
          refine J.region rfl ?_
          refine JO.pur rfl rfl rfl (Pur.fieldAddr rfl) ?_
          refine JO.pur rfl rfl rfl (Pur.load rfl (CellIn.blk rfl)) ?_
          refine JO.pur rfl rfl rfl (Pur.eqlT rfl rfl) ?_
          refine JO.pur rfl rfl rfl (Pur.assign rfl) ?_
          refine JO.nil ?_
          refine J.splitB 30 rfl (fun h30 => ?_) (fun h30 => ?_)
          · try simp only [decide_eq_true_eq, decide_eq_false_iff_not, Bool.not_eq_true', Bool.not_eq_false', Bool.and_eq_true, Bool.or_eq_true, Bool.and_eq_false_iff, Bool.or_eq_false_iff, Option.isNone_some, Option.isSome_some, Option.isNone_none, Option.isSome_none, Int.not_lt, Int.not_le, beq_iff_eq, beq_eq_false_iff_ne, bne_iff_ne, ne_eq, Bool.not_not, Decidable.not_not] at h30
            refine J.condT rfl rfl ?_
            refine J.seq rfl ?_
            refine J.region rfl ?_
            refine JO.pur rfl rfl rfl (Pur.assign rfl) ?_
            refine JO.pur rfl rfl rfl (Pur.assign rfl) ?_
            refine JO.nil ?_
            refine J.ret rfl rfl ?_
            refine ⟨_, _, ⟨rfl, rfl⟩, (by simp_all [fitW, tupV, sInt, sBool, sNone, sDom, sArr, sAny]), SubC.out⟩
          · try simp only [decide_eq_true_eq, decide_eq_false_iff_not, Bool.not_eq_true', Bool.not_eq_false', Bool.and_eq_true, Bool.or_eq_true, Bool.and_eq_false_iff, Bool.or_eq_false_iff, Option.isNone_some, Option.isSome_some, Option.isNone_none, Option.isSome_none, Int.not_lt, Int.not_le, beq_iff_eq, beq_eq_false_iff_ne, bne_iff_ne, ne_eq, Bool.not_not, Decidable.not_not] at h30
            refine J.condF rfl rfl ?_
            refine J.seq rfl ?_
            refine J.region rfl ?_
            refine JO.pur rfl rfl rfl (Pur.fieldAddr rfl) ?_
            refine JO.pur rfl rfl rfl (Pur.load rfl (CellIn.blk rfl)) ?_
            refine JO.pur rfl rfl rfl (Pur.eqlT rfl rfl) ?_
            refine JO.pur rfl rfl rfl (Pur.move rfl) ?_
            refine JO.splitB 38 rfl (fun h38 => ?_) (fun h38 => ?_)
            · try simp only [decide_eq_true_eq, decide_eq_false_iff_not, Bool.not_eq_true', Bool.not_eq_false', Bool.and_eq_true, Bool.or_eq_true, Bool.and_eq_false_iff, Bool.or_eq_false_iff, Option.isNone_some, Option.isSome_some, Option.isNone_none, Option.isSome_none, Int.not_lt, Int.not_le, beq_iff_eq, beq_eq_false_iff_ne, bne_iff_ne, ne_eq, Bool.not_not, Decidable.not_not] at h38
              refine JO.pur rfl rfl rfl (Pur.fieldAddr rfl) ?_
              refine JO.pur rfl rfl rfl (Pur.load rfl (CellIn.blk rfl)) ?_
              refine JO.pur rfl rfl rfl (Pur.eqlT rfl rfl) ?_
              refine JO.pur rfl rfl rfl (Pur.pickT rfl rfl) ?_
              refine JO.pur rfl rfl rfl (Pur.assign rfl) ?_
              refine JO.nil ?_
              refine J.splitB 34 rfl (fun h34 => ?_) (fun h34 => ?_)
              · try simp only [decide_eq_true_eq, decide_eq_false_iff_not, Bool.not_eq_true', Bool.not_eq_false', Bool.and_eq_true, Bool.or_eq_true, Bool.and_eq_false_iff, Bool.or_eq_false_iff, Option.isNone_some, Option.isSome_some, Option.isNone_none, Option.isSome_none, Int.not_lt, Int.not_le, beq_iff_eq, beq_eq_false_iff_ne, bne_iff_ne, ne_eq, Bool.not_not, Decidable.not_not] at h34
                refine J.condT rfl rfl ?_
                refine J.seq rfl ?_
                refine J.region rfl ?_
                refine JO.pur rfl rfl rfl (Pur.assign rfl) ?_
                refine JO.pur rfl rfl rfl (Pur.assign rfl) ?_
                refine JO.nil ?_
                refine J.ret rfl rfl ?_
                refine ⟨_, _, ⟨rfl, rfl⟩, (by simp_all [fitW, tupV, sInt, sBool, sNone, sDom, sArr, sAny]), SubC.out⟩
              · try simp only [decide_eq_true_eq, decide_eq_false_iff_not, Bool.not_eq_true', Bool.not_eq_false', Bool.and_eq_true, Bool.or_eq_true, Bool.and_eq_false_iff, Bool.or_eq_false_iff, Option.isNone_some, Option.isSome_some, Option.isNone_none, Option.isSome_none, Int.not_lt, Int.not_le, beq_iff_eq, beq_eq_false_iff_ne, bne_iff_ne, ne_eq, Bool.not_not, Decidable.not_not] at h34
                refine J.condF rfl rfl ?_
                refine J.skip rfl ?_
                refine J.inBlock ?_
                refine J.seq rfl ?_
                refine J.region rfl ?_
                refine JO.pur rfl rfl rfl (Pur.assign rfl) ?_
                refine JO.pur rfl rfl rfl (Pur.assign rfl) ?_
                refine JO.nil ?_
                refine J.ret rfl rfl ?_
                refine ⟨_, _, ⟨rfl, rfl⟩, (by simp_all [fitW, tupV, sInt, sBool, sNone, sDom, sArr, sAny]), SubC.out⟩
            · try simp only [decide_eq_true_eq, decide_eq_false_iff_not, Bool.not_eq_true', Bool.not_eq_false', Bool.and_eq_true, Bool.or_eq_true, Bool.and_eq_false_iff, Bool.or_eq_false_iff, Option.isNone_some, Option.isSome_some, Option.isNone_none, Option.isSome_none, Int.not_lt, Int.not_le, beq_iff_eq, beq_eq_false_iff_ne, bne_iff_ne, ne_eq, Bool.not_not, Decidable.not_not] at h38
              refine JO.no rfl rfl rfl ?_
              refine JO.no rfl rfl rfl ?_
              refine JO.no rfl rfl rfl ?_
              refine JO.pur rfl rfl rfl (Pur.pickF rfl rfl) ?_
              refine JO.pur rfl rfl rfl (Pur.assign rfl) ?_
              refine JO.nil ?_
              refine J.condF rfl rfl ?_
              refine J.skip rfl ?_
              refine J.inBlock ?_
              refine J.seq rfl ?_
              refine J.region rfl ?_
              refine JO.pur rfl rfl rfl (Pur.assign rfl) ?_
              refine JO.pur rfl rfl rfl (Pur.assign rfl) ?_
              refine JO.nil ?_
              refine J.ret rfl rfl ?_
              refine ⟨_, _, ⟨rfl, rfl⟩, (by simp_all [fitW, tupV, sInt, sBool, sNone, sDom, sArr, sAny]), SubC.out⟩
      · try simp only [decide_eq_true_eq, decide_eq_false_iff_not, Bool.not_eq_true', Bool.not_eq_false', Bool.and_eq_true, Bool.or_eq_true, Bool.and_eq_false_iff, Bool.or_eq_false_iff, Option.isNone_some, Option.isSome_some, Option.isNone_none, Option.isSome_none, Int.not_lt, Int.not_le, beq_iff_eq, beq_eq_false_iff_ne, bne_iff_ne, ne_eq, Bool.not_not, Decidable.not_not] at h23
        refine JO.no rfl rfl rfl ?_
        refine JO.no rfl rfl rfl ?_
        refine JO.no rfl rfl rfl ?_
        refine JO.no rfl rfl rfl ?_
        refine JO.no rfl rfl rfl ?_
        refine JO.pur rfl rfl rfl (Pur.pickF rfl rfl) ?_
        refine JO.pur rfl rfl rfl (Pur.assign rfl) ?_
        refine JO.nil ?_
        refine J.condF rfl rfl ?_
        refine J.seq rfl ?_
        refine J.region rfl ?_
        refine JO.pur rfl rfl rfl (Pur.fieldAddr rfl) ?_
        refine JO.pur rfl rfl rfl (Pur.load rfl (CellIn.blk rfl)) ?_
        refine JO.pur rfl rfl rfl (Pur.eqlT rfl rfl) ?_
        refine JO.pur rfl rfl rfl (Pur.assign rfl) ?_
        refine JO.nil ?_
        refine J.splitB 30 rfl (fun h30 => ?_) (fun h30 => ?_)
        · try simp only [decide_eq_true_eq, decide_eq_false_iff_not, Bool.not_eq_true', Bool.not_eq_false', Bool.and_eq_true, Bool.or_eq_true, Bool.and_eq_false_iff, Bool.or_eq_false_iff, Option.isNone_some, Option.isSome_some, Option.isNone_none, Option.isSome_none, Int.not_lt, Int.not_le, beq_iff_eq, beq_eq_false_iff_ne, bne_iff_ne, ne_eq, Bool.not_not, Decidable.not_not] at h30
          refine J.condT rfl rfl ?_
          refine J.seq rfl ?_
          refine J.region rfl ?_
          refine JO.pur rfl rfl rfl (Pur.assign rfl) ?_
          refine JO.pur rfl rfl rfl (Pur.assign rfl) ?_
          refine JO.nil ?_
          refine J.ret rfl rfl ?_
          refine ⟨_, _, ⟨rfl, rfl⟩, (by simp_all [fitW, tupV, sInt, sBool, sNone, sDom, sArr, sAny]), SubC.out⟩
        · try simp only [decide_eq_true_eq, decide_eq_false_iff_not, Bool.not_eq_true', Bool.not_eq_false', Bool.and_eq_true, Bool.or_eq_true, Bool.and_eq_false_iff, Bool.or_eq_false_iff, Option.isNone_some, Option.isSome_some, Option.isNone_none, Option.isSome_none, Int.not_lt, Int.not_le, beq_iff_eq, beq_eq_false_iff_ne, bne_iff_ne, ne_eq, Bool.not_not, Decidable.not_not] at h30
          refine J.condF rfl rfl ?_
          refine J.seq rfl ?_
          refine J.region rfl ?_
          refine JO.pur rfl rfl rfl (Pur.fieldAddr rfl) ?_
          refine JO.pur rfl rfl rfl (Pur.load rfl (CellIn.blk rfl)) ?_
          refine JO.pur rfl rfl rfl (Pur.eqlT rfl rfl) ?_
          refine JO.pur rfl rfl rfl (Pur.move rfl) ?_
          refine JO.splitB 38 rfl (fun h38 => ?_) (fun h38 => ?_)
          · try simp only [decide_eq_true_eq, decide_eq_false_iff_not, Bool.not_eq_true', Bool.not_eq_false', Bool.and_eq_true, Bool.or_eq_true, Bool.and_eq_false_iff, Bool.or_eq_false_iff, Option.isNone_some, Option.isSome_some, Option.isNone_none, Option.isSome_none, Int.not_lt, Int.not_le, beq_iff_eq, beq_eq_false_iff_ne, bne_iff_ne, ne_eq, Bool.not_not, Decidable.not_not] at h38
            refine JO.pur rfl rfl rfl (Pur.fieldAddr rfl) ?_
            refine JO.pur rfl rfl rfl (Pur.load rfl (CellIn.blk rfl)) ?_
            refine JO.pur rfl rfl rfl (Pur.eqlT rfl rfl) ?_
            refine JO.pur rfl rfl rfl (Pur.pickT rfl rfl) ?_
            refine JO.pur rfl rfl rfl (Pur.assign rfl) ?_
            refine JO.nil ?_
            refine J.splitB 34 rfl (fun h34 => ?_) (fun h34 => ?_)
            · try simp only [decide_eq_true_eq, decide_eq_false_iff_not, Bool.not_eq_true', Bool.not_eq_false', Bool.and_eq_true, Bool.or_eq_true, Bool.and_eq_false_iff, Bool.or_eq_false_iff, Option.isNone_some, Option.isSome_some, Option.isNone_none, Option.isSome_none, Int.not_lt, Int.not_le, beq_iff_eq, beq_eq_false_iff_ne, bne_iff_ne, ne_eq, Bool.not_not, Decidable.not_not] at h34
              refine J.condT rfl rfl ?_
              refine J.seq rfl ?_
              refine J.region rfl ?_
              refine JO.pur rfl rfl rfl (Pur.assign rfl) ?_
              refine JO.pur rfl rfl rfl (Pur.assign rfl) ?_
              refine JO.nil ?_
              refine J.ret rfl rfl ?_
              refine ⟨_, _, ⟨rfl, rfl⟩, (by simp_all [fitW, tupV, sInt, sBool, sNone, sDom, sArr, sAny]), SubC.out⟩
            · try simp only [decide_eq_true_eq, decide_eq_false_iff_not, Bool.not_eq_true', Bool.not_eq_false', Bool.and_eq_true, Bool.or_eq_true, Bool.and_eq_false_iff, Bool.or_eq_false_iff, Option.isNone_some, Option.isSome_some, Option.isNone_none, Option.isSome_none, Int.not_lt, Int.not_le, beq_iff_eq, beq_eq_false_iff_ne, bne_iff_ne, ne_eq, Bool.not_not, Decidable.not_not] at h34
              refine J.condF rfl rfl ?_
              refine J.skip rfl ?_
              refine J.inBlock ?_
              refine J.seq rfl ?_
              refine J.region rfl ?_
              refine JO.pur rfl rfl rfl (Pur.assign rfl) ?_
              refine JO.pur rfl rfl rfl (Pur.assign rfl) ?_
              refine JO.nil ?_
              refine J.ret rfl rfl ?_
              refine ⟨_, _, ⟨rfl, rfl⟩, (by simp_all [fitW, tupV, sInt, sBool, sNone, sDom, sArr, sAny]), SubC.out⟩
          · try simp only [decide_eq_true_eq, decide_eq_false_iff_not, Bool.not_eq_true', Bool.not_eq_false', Bool.and_eq_true, Bool.or_eq_true, Bool.and_eq_false_iff, Bool.or_eq_false_iff, Option.isNone_some, Option.isSome_some, Option.isNone_none, Option.isSome_none, Int.not_lt, Int.not_le, beq_iff_eq, beq_eq_false_iff_ne, bne_iff_ne, ne_eq, Bool.not_not, Decidable.not_not] at h38
            refine JO.no rfl rfl rfl ?_
            refine JO.no rfl rfl rfl ?_
            refine JO.no rfl rfl rfl ?_
            refine JO.pur rfl rfl rfl (Pur.pickF rfl rfl) ?_
            refine JO.pur rfl rfl rfl (Pur.assign rfl) ?_
            refine JO.nil ?_
            refine J.condF rfl rfl ?_
            refine J.skip rfl ?_
            refine J.inBlock ?_
            refine J.seq rfl ?_
            refine J.region rfl ?_
            refine JO.pur rfl rfl rfl (Pur.assign rfl) ?_
            refine JO.pur rfl rfl rfl (Pur.assign rfl) ?_
            refine JO.nil ?_
            refine J.ret rfl rfl ?_
            refine ⟨_, _, ⟨rfl, rfl⟩, (by simp_all [fitW, tupV, sInt, sBool, sNone, sDom, sArr, sAny]), SubC.out⟩

end Go.Proofs.YtbmepcipnnlcnaaDoor
