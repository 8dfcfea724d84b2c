/-
  A part of the proof of the claim that this folder bears.
-/
import Derived.Test.YthdaopmfgmojnaaPAE
/- The text OWrong. -/
set_option linter.unusedVariables false
set_option linter.unusedSimpArgs false
namespace Go.Proofs.Ythdaopmfgmojnaa
open Go Go.KK Ow

theorem n_sNew_sShare : (sNew = sShare) = False := eq_false (by decide)
theorem n_sNew_sRaw : (sNew = sRaw) = False := eq_false (by decide)
theorem n_sNew_sUse : (sNew = sUse) = False := eq_false (by decide)
theorem n_sNew_sFree : (sNew = sFree) = False := eq_false (by decide)
theorem n_sNew_sDrop : (sNew = sDrop) = False := eq_false (by decide)
theorem n_sNew_sMove : (sNew = sMove) = False := eq_false (by decide)
theorem n_sNew_sCopy : (sNew = sCopy) = False := eq_false (by decide)
theorem n_sNew_sBorrow : (sNew = sBorrow) = False := eq_false (by decide)
theorem n_sNew_sEither : (sNew = sEither) = False := eq_false (by decide)
theorem n_sNew_sOr : (sNew = sOr) = False := eq_false (by decide)
theorem n_sNew_sEnd : (sNew = sEnd) = False := eq_false (by decide)
theorem n_sShare_sNew : (sShare = sNew) = False := eq_false (by decide)
theorem n_sShare_sRaw : (sShare = sRaw) = False := eq_false (by decide)
theorem n_sShare_sUse : (sShare = sUse) = False := eq_false (by decide)
theorem n_sShare_sFree : (sShare = sFree) = False := eq_false (by decide)
theorem n_sShare_sDrop : (sShare = sDrop) = False := eq_false (by decide)
theorem n_sShare_sMove : (sShare = sMove) = False := eq_false (by decide)
theorem n_sShare_sCopy : (sShare = sCopy) = False := eq_false (by decide)
theorem n_sShare_sBorrow : (sShare = sBorrow) = False := eq_false (by decide)
theorem n_sShare_sEither : (sShare = sEither) = False := eq_false (by decide)
theorem n_sShare_sOr : (sShare = sOr) = False := eq_false (by decide)
theorem n_sShare_sEnd : (sShare = sEnd) = False := eq_false (by decide)
theorem n_sRaw_sNew : (sRaw = sNew) = False := eq_false (by decide)
theorem n_sRaw_sShare : (sRaw = sShare) = False := eq_false (by decide)
theorem n_sRaw_sUse : (sRaw = sUse) = False := eq_false (by decide)
theorem n_sRaw_sFree : (sRaw = sFree) = False := eq_false (by decide)
theorem n_sRaw_sDrop : (sRaw = sDrop) = False := eq_false (by decide)
theorem n_sRaw_sMove : (sRaw = sMove) = False := eq_false (by decide)
theorem n_sRaw_sCopy : (sRaw = sCopy) = False := eq_false (by decide)
theorem n_sRaw_sBorrow : (sRaw = sBorrow) = False := eq_false (by decide)
theorem n_sRaw_sEither : (sRaw = sEither) = False := eq_false (by decide)
theorem n_sRaw_sOr : (sRaw = sOr) = False := eq_false (by decide)
theorem n_sRaw_sEnd : (sRaw = sEnd) = False := eq_false (by decide)
theorem n_sUse_sNew : (sUse = sNew) = False := eq_false (by decide)
theorem n_sUse_sShare : (sUse = sShare) = False := eq_false (by decide)
theorem n_sUse_sRaw : (sUse = sRaw) = False := eq_false (by decide)
theorem n_sUse_sFree : (sUse = sFree) = False := eq_false (by decide)
theorem n_sUse_sDrop : (sUse = sDrop) = False := eq_false (by decide)
theorem n_sUse_sMove : (sUse = sMove) = False := eq_false (by decide)
theorem n_sUse_sCopy : (sUse = sCopy) = False := eq_false (by decide)
theorem n_sUse_sBorrow : (sUse = sBorrow) = False := eq_false (by decide)
theorem n_sUse_sEither : (sUse = sEither) = False := eq_false (by decide)
theorem n_sUse_sOr : (sUse = sOr) = False := eq_false (by decide)
theorem n_sUse_sEnd : (sUse = sEnd) = False := eq_false (by decide)
theorem n_sFree_sNew : (sFree = sNew) = False := eq_false (by decide)
theorem n_sFree_sShare : (sFree = sShare) = False := eq_false (by decide)
theorem n_sFree_sRaw : (sFree = sRaw) = False := eq_false (by decide)
theorem n_sFree_sUse : (sFree = sUse) = False := eq_false (by decide)
theorem n_sFree_sDrop : (sFree = sDrop) = False := eq_false (by decide)
theorem n_sFree_sMove : (sFree = sMove) = False := eq_false (by decide)
theorem n_sFree_sCopy : (sFree = sCopy) = False := eq_false (by decide)
theorem n_sFree_sBorrow : (sFree = sBorrow) = False := eq_false (by decide)
theorem n_sFree_sEither : (sFree = sEither) = False := eq_false (by decide)
theorem n_sFree_sOr : (sFree = sOr) = False := eq_false (by decide)
theorem n_sFree_sEnd : (sFree = sEnd) = False := eq_false (by decide)
theorem n_sDrop_sNew : (sDrop = sNew) = False := eq_false (by decide)
theorem n_sDrop_sShare : (sDrop = sShare) = False := eq_false (by decide)
theorem n_sDrop_sRaw : (sDrop = sRaw) = False := eq_false (by decide)
theorem n_sDrop_sUse : (sDrop = sUse) = False := eq_false (by decide)
theorem n_sDrop_sFree : (sDrop = sFree) = False := eq_false (by decide)
theorem n_sDrop_sMove : (sDrop = sMove) = False := eq_false (by decide)
theorem n_sDrop_sCopy : (sDrop = sCopy) = False := eq_false (by decide)
theorem n_sDrop_sBorrow : (sDrop = sBorrow) = False := eq_false (by decide)
theorem n_sDrop_sEither : (sDrop = sEither) = False := eq_false (by decide)
theorem n_sDrop_sOr : (sDrop = sOr) = False := eq_false (by decide)
theorem n_sDrop_sEnd : (sDrop = sEnd) = False := eq_false (by decide)
theorem n_sMove_sNew : (sMove = sNew) = False := eq_false (by decide)
theorem n_sMove_sShare : (sMove = sShare) = False := eq_false (by decide)
theorem n_sMove_sRaw : (sMove = sRaw) = False := eq_false (by decide)
theorem n_sMove_sUse : (sMove = sUse) = False := eq_false (by decide)
theorem n_sMove_sFree : (sMove = sFree) = False := eq_false (by decide)
theorem n_sMove_sDrop : (sMove = sDrop) = False := eq_false (by decide)
theorem n_sMove_sCopy : (sMove = sCopy) = False := eq_false (by decide)
theorem n_sMove_sBorrow : (sMove = sBorrow) = False := eq_false (by decide)
theorem n_sMove_sEither : (sMove = sEither) = False := eq_false (by decide)
theorem n_sMove_sOr : (sMove = sOr) = False := eq_false (by decide)
theorem n_sMove_sEnd : (sMove = sEnd) = False := eq_false (by decide)
theorem n_sCopy_sNew : (sCopy = sNew) = False := eq_false (by decide)
theorem n_sCopy_sShare : (sCopy = sShare) = False := eq_false (by decide)
theorem n_sCopy_sRaw : (sCopy = sRaw) = False := eq_false (by decide)
theorem n_sCopy_sUse : (sCopy = sUse) = False := eq_false (by decide)
theorem n_sCopy_sFree : (sCopy = sFree) = False := eq_false (by decide)
theorem n_sCopy_sDrop : (sCopy = sDrop) = False := eq_false (by decide)
theorem n_sCopy_sMove : (sCopy = sMove) = False := eq_false (by decide)
theorem n_sCopy_sBorrow : (sCopy = sBorrow) = False := eq_false (by decide)
theorem n_sCopy_sEither : (sCopy = sEither) = False := eq_false (by decide)
theorem n_sCopy_sOr : (sCopy = sOr) = False := eq_false (by decide)
theorem n_sCopy_sEnd : (sCopy = sEnd) = False := eq_false (by decide)
theorem n_sBorrow_sNew : (sBorrow = sNew) = False := eq_false (by decide)
theorem n_sBorrow_sShare : (sBorrow = sShare) = False := eq_false (by decide)
theorem n_sBorrow_sRaw : (sBorrow = sRaw) = False := eq_false (by decide)
theorem n_sBorrow_sUse : (sBorrow = sUse) = False := eq_false (by decide)
theorem n_sBorrow_sFree : (sBorrow = sFree) = False := eq_false (by decide)
theorem n_sBorrow_sDrop : (sBorrow = sDrop) = False := eq_false (by decide)
theorem n_sBorrow_sMove : (sBorrow = sMove) = False := eq_false (by decide)
theorem n_sBorrow_sCopy : (sBorrow = sCopy) = False := eq_false (by decide)
theorem n_sBorrow_sEither : (sBorrow = sEither) = False := eq_false (by decide)
theorem n_sBorrow_sOr : (sBorrow = sOr) = False := eq_false (by decide)
theorem n_sBorrow_sEnd : (sBorrow = sEnd) = False := eq_false (by decide)
theorem n_sEither_sNew : (sEither = sNew) = False := eq_false (by decide)
theorem n_sEither_sShare : (sEither = sShare) = False := eq_false (by decide)
theorem n_sEither_sRaw : (sEither = sRaw) = False := eq_false (by decide)
theorem n_sEither_sUse : (sEither = sUse) = False := eq_false (by decide)
theorem n_sEither_sFree : (sEither = sFree) = False := eq_false (by decide)
theorem n_sEither_sDrop : (sEither = sDrop) = False := eq_false (by decide)
theorem n_sEither_sMove : (sEither = sMove) = False := eq_false (by decide)
theorem n_sEither_sCopy : (sEither = sCopy) = False := eq_false (by decide)
theorem n_sEither_sBorrow : (sEither = sBorrow) = False := eq_false (by decide)
theorem n_sEither_sOr : (sEither = sOr) = False := eq_false (by decide)
theorem n_sEither_sEnd : (sEither = sEnd) = False := eq_false (by decide)
theorem n_sOr_sNew : (sOr = sNew) = False := eq_false (by decide)
theorem n_sOr_sShare : (sOr = sShare) = False := eq_false (by decide)
theorem n_sOr_sRaw : (sOr = sRaw) = False := eq_false (by decide)
theorem n_sOr_sUse : (sOr = sUse) = False := eq_false (by decide)
theorem n_sOr_sFree : (sOr = sFree) = False := eq_false (by decide)
theorem n_sOr_sDrop : (sOr = sDrop) = False := eq_false (by decide)
theorem n_sOr_sMove : (sOr = sMove) = False := eq_false (by decide)
theorem n_sOr_sCopy : (sOr = sCopy) = False := eq_false (by decide)
theorem n_sOr_sBorrow : (sOr = sBorrow) = False := eq_false (by decide)
theorem n_sOr_sEither : (sOr = sEither) = False := eq_false (by decide)
theorem n_sOr_sEnd : (sOr = sEnd) = False := eq_false (by decide)
theorem n_sEnd_sNew : (sEnd = sNew) = False := eq_false (by decide)
theorem n_sEnd_sShare : (sEnd = sShare) = False := eq_false (by decide)
theorem n_sEnd_sRaw : (sEnd = sRaw) = False := eq_false (by decide)
theorem n_sEnd_sUse : (sEnd = sUse) = False := eq_false (by decide)
theorem n_sEnd_sFree : (sEnd = sFree) = False := eq_false (by decide)
theorem n_sEnd_sDrop : (sEnd = sDrop) = False := eq_false (by decide)
theorem n_sEnd_sMove : (sEnd = sMove) = False := eq_false (by decide)
theorem n_sEnd_sCopy : (sEnd = sCopy) = False := eq_false (by decide)
theorem n_sEnd_sBorrow : (sEnd = sBorrow) = False := eq_false (by decide)
theorem n_sEnd_sEither : (sEnd = sEither) = False := eq_false (by decide)
theorem n_sEnd_sOr : (sEnd = sOr) = False := eq_false (by decide)
set_option maxRecDepth 10000 in
theorem wrong_sNew {L : List Asn} {b : Nat} {aa ac af : Option Addr} {ca cc cf : Nat} {σ : Sx} {v w : Str} (g : Ow.Good σ) (hv : isVarB v = true) :
    CallS Try.prog 59 [.pointer (some ⟨b, 0, none⟩), .agg #[.string sNew, .string v, .string w]].toArray (blk b (arr vrE σ.vars [.slice aa σ.alive.length ca, .slice ac σ.count.length cc, .slice af (fz σ.freed).length cf] 66) :: sl boolE aa ca σ.alive :: sl intE ac cc σ.count :: sl intE af cf (fz σ.freed) :: L) (fun x M => x = .string (wrongS σ ⟨sNew, v, w⟩) ∧ M = blk b (arr vrE σ.vars [.slice aa σ.alive.length ca, .slice ac σ.count.length cc, .slice af (fz σ.freed).length cf] 66) :: sl boolE aa ca σ.alive :: sl intE ac cc σ.count :: sl intE af cf (fz σ.freed) :: L) := by
  have hv8 := g.v8
  have hlv : vi v < σ.vars.length := by have := vi_lt hv; omega
  have hly : (vi v) < σ.vars.length := by have := vi_lt hv; omega
  refine CallS.ent ?_
  refine CallS.enter Try.func59 rfl rfl rfl rfl rfl ?_
  refine J.seq rfl ?_
  refine J.region rfl ?_
  refine JO.eff rfl rfl rfl (Eff.box (cs := [_, _, _]) rfl rfl) ?_
  rintro _ _ ⟨b3, rfl, rfl⟩
  refine JO.pur rfl rfl rfl (Pur.assign rfl) ?_
  refine JO.nil ?_
  refine J.seq rfl ?_
  refine J.seq rfl ?_
  refine J.region rfl ?_
  refine JO.pur rfl rfl rfl (Pur.fieldAddr rfl) ?_
  refine JO.pur rfl rfl rfl (Pur.load rfl (CellIn.blk rfl)) ?_
  refine JO.effR rfl rfl rfl (Eff.call rfl ((CallS.eqv (v' := .bool true) (makes_ok sNew) (congrArg Value.bool (by decide))))) ?_
  refine JO.pur rfl rfl rfl (Pur.move rfl) ?_
  refine JO.setv (u' := .bool true) 13 rfl (congrArg Value.bool (rfl)) ?_
  refine JO.pur rfl rfl rfl (Pur.move rfl) ?_
  refine JO.pur rfl rfl rfl (Pur.nilCheck rfl) ?_
  refine JO.pur rfl rfl rfl (Pur.fieldAddr rfl) ?_
  refine JO.pur rfl rfl rfl (Pur.load rfl (CellIn.arrT (n := 16) (k := 0) (by rw [hv8]; rfl) rfl)) ?_
  refine JO.pur rfl rfl rfl (Pur.len rfl) ?_
  refine JO.pur rfl rfl rfl (Pur.gtr rfl rfl) ?_
  refine JO.pur rfl rfl rfl (Pur.pickT rfl rfl) ?_
  refine JO.nil ?_
  refine J.splitB 20 rfl (fun h20 => ?_) (fun h20 => ?_)
  · try simp only [decide_eq_true_eq, decide_eq_false_iff_not, Bool.not_eq_true', Bool.not_eq_false', Bool.and_eq_true, Bool.or_eq_true, Bool.and_eq_false_iff, Bool.or_eq_false_iff, Option.isNone_some, Option.isSome_some, Option.isNone_none, Option.isSome_none, Int.not_lt, Int.not_le, beq_iff_eq, beq_eq_false_iff_ne, bne_iff_ne, ne_eq, Bool.not_not, Decidable.not_not] at h20
    refine J.condT rfl rfl ?_
    refine J.seq rfl ?_
    refine J.region rfl ?_
    refine JO.pur rfl rfl rfl (Pur.assign rfl) ?_
    refine JO.nil ?_
    refine J.ret rfl rfl ?_
    refine ⟨_, _, ⟨rfl, rfl⟩, ?_, SubC.out⟩
    refine congrArg Value.string ?_
    simp only [wrongS, yv, makesB, fromB, n_sNew_sShare, n_sNew_sRaw, n_sNew_sUse, n_sNew_sFree, n_sNew_sDrop, n_sNew_sMove, n_sNew_sCopy, n_sNew_sBorrow, n_sNew_sEither, n_sNew_sOr, n_sNew_sEnd, decide_true, decide_false, Bool.or_true, Bool.or_false, Bool.false_or, Bool.true_or, if_true, if_false, true_or, or_true, false_or, or_false, true_and, false_and, and_true, and_false, decide_eq_true_eq, Bool.false_eq_true, ite_true, ite_false, reduceCtorEq]
    (repeat' split) <;> (first | rfl | (exfalso; omega) | (exfalso; simp_all; done) | (exfalso; simp_all; omega))
  · try simp only [decide_eq_true_eq, decide_eq_false_iff_not, Bool.not_eq_true', Bool.not_eq_false', Bool.and_eq_true, Bool.or_eq_true, Bool.and_eq_false_iff, Bool.or_eq_false_iff, Option.isNone_some, Option.isSome_some, Option.isNone_none, Option.isSome_none, Int.not_lt, Int.not_le, beq_iff_eq, beq_eq_false_iff_ne, bne_iff_ne, ne_eq, Bool.not_not, Decidable.not_not] at h20
    refine J.condF rfl rfl ?_
    refine J.skip rfl ?_
    refine J.seq rfl ?_
    refine J.region rfl ?_
    refine JO.pur rfl rfl rfl (Pur.move rfl) ?_
    refine JO.pur rfl rfl rfl (Pur.fieldAddr rfl) ?_
    refine JO.pur rfl rfl rfl (Pur.load rfl (CellIn.blk rfl)) ?_
    refine JO.effR rfl rfl rfl (Eff.call rfl (at_ok v hv)) ?_
    refine JO.pur rfl rfl rfl (Pur.assign rfl) ?_
    refine JO.nil ?_
    refine J.seq rfl ?_
    refine J.region rfl ?_
    refine JO.pur rfl rfl rfl (Pur.move rfl) ?_
    refine JO.pur rfl rfl rfl (Pur.assign rfl) ?_
    refine JO.nil ?_
    refine J.seq rfl ?_
    refine J.region rfl ?_
    refine JO.pur rfl rfl rfl (Pur.fieldAddr rfl) ?_
    refine JO.pur rfl rfl rfl (Pur.load rfl (CellIn.blk rfl)) ?_
    refine JO.effR rfl rfl rfl (Eff.call rfl ((CallS.eqv (v' := .tuple #[.bool true, .bool false, .bool true]) (needs_ok sNew) (by rfl)))) ?_
    refine JO.pur rfl rfl rfl (Pur.move rfl) ?_
    refine JO.pur rfl rfl rfl (Pur.extract rfl rfl) ?_
    refine JO.pur rfl rfl rfl (Pur.extract rfl rfl) ?_
    refine JO.pur rfl rfl rfl (Pur.extract rfl rfl) ?_
    refine JO.pur rfl rfl rfl (Pur.assign rfl) ?_
    refine JO.pur rfl rfl rfl (Pur.assign rfl) ?_
    refine JO.pur rfl rfl rfl (Pur.assign rfl) ?_
    refine JO.nil ?_
    refine J.seq rfl ?_
    refine J.seq rfl ?_
    refine J.region rfl ?_
    refine JO.pur rfl rfl rfl (Pur.move rfl) ?_
    refine JO.nil ?_
    refine J.setv (u' := .bool false) 33 rfl (congrArg Value.bool (rfl)) ?_
    refine J.condF rfl rfl ?_
    refine J.skip rfl ?_
    refine J.seq rfl ?_
    refine J.block rfl ?_
    refine J.seq rfl ?_
    refine J.region rfl ?_
    refine JO.pur rfl rfl rfl (Pur.fieldAddr rfl) ?_
    refine JO.pur rfl rfl rfl (Pur.load rfl (CellIn.blk rfl)) ?_
    refine JO.effR rfl rfl rfl (Eff.call rfl ((CallS.eqv (v' := .bool true) (makes_ok sNew) (congrArg Value.bool (by decide))))) ?_
    refine JO.pur rfl rfl rfl (Pur.move rfl) ?_
    refine JO.setv (u' := .bool true) 42 rfl (congrArg Value.bool (rfl)) ?_
    refine JO.no rfl rfl rfl ?_
    refine JO.pur rfl rfl rfl (Pur.pickT rfl rfl) ?_
    refine JO.pur rfl rfl rfl (Pur.move rfl) ?_
    refine JO.pur rfl rfl rfl (Pur.move rfl) ?_
    refine JO.pur rfl rfl rfl (Pur.nilCheck rfl) ?_
    refine JO.pur rfl rfl rfl (Pur.fieldAddr rfl) ?_
    refine JO.pur rfl rfl rfl (Pur.load rfl (CellIn.arr (E := vrE) rfl (vr_get hlv) rfl)) ?_
    refine JO.pur rfl rfl rfl (Pur.neqI rfl rfl) ?_
    refine JO.pur rfl rfl rfl (Pur.pickT rfl rfl) ?_
    refine JO.pur rfl rfl rfl (Pur.assign rfl) ?_
    refine JO.nil ?_
    refine J.splitB 38 rfl (fun h38 => ?_) (fun h38 => ?_)
    · try simp only [decide_eq_true_eq, decide_eq_false_iff_not, Bool.not_eq_true', Bool.not_eq_false', Bool.and_eq_true, Bool.or_eq_true, Bool.and_eq_false_iff, Bool.or_eq_false_iff, Option.isNone_some, Option.isSome_some, Option.isNone_none, Option.isSome_none, Int.not_lt, Int.not_le, beq_iff_eq, beq_eq_false_iff_ne, bne_iff_ne, ne_eq, Bool.not_not, Decidable.not_not] at h38
      refine J.condT rfl rfl ?_
      refine J.seq rfl ?_
      refine J.region rfl ?_
      refine JO.pur rfl rfl rfl (Pur.assign rfl) ?_
      refine JO.nil ?_
      refine J.ret rfl rfl ?_
      refine ⟨_, _, ⟨rfl, rfl⟩, ?_, SubC.out⟩
      refine congrArg Value.string ?_
      simp only [wrongS, yv, makesB, fromB, n_sNew_sShare, n_sNew_sRaw, n_sNew_sUse, n_sNew_sFree, n_sNew_sDrop, n_sNew_sMove, n_sNew_sCopy, n_sNew_sBorrow, n_sNew_sEither, n_sNew_sOr, n_sNew_sEnd, decide_true, decide_false, Bool.or_true, Bool.or_false, Bool.false_or, Bool.true_or, if_true, if_false, true_or, or_true, false_or, or_false, true_and, false_and, and_true, and_false, decide_eq_true_eq, Bool.false_eq_true, ite_true, ite_false, reduceCtorEq]
      (repeat' split) <;> (first | rfl | (exfalso; omega) | (exfalso; simp_all; done) | (exfalso; simp_all; omega))
    · try simp only [decide_eq_true_eq, decide_eq_false_iff_not, Bool.not_eq_true', Bool.not_eq_false', Bool.and_eq_true, Bool.or_eq_true, Bool.and_eq_false_iff, Bool.or_eq_false_iff, Option.isNone_some, Option.isSome_some, Option.isNone_none, Option.isSome_none, Int.not_lt, Int.not_le, beq_iff_eq, beq_eq_false_iff_ne, bne_iff_ne, ne_eq, Bool.not_not, Decidable.not_not] at h38
      refine J.condF rfl rfl ?_
      refine J.seq rfl ?_
      refine J.region rfl ?_
      refine JO.pur rfl rfl rfl (Pur.move rfl) ?_
      refine JO.pur rfl rfl rfl (Pur.move rfl) ?_
      refine JO.setv (u' := .bool false) 54 rfl (congrArg Value.bool (rfl)) ?_
      refine JO.pur rfl rfl rfl (Pur.fieldAddr rfl) ?_
      refine JO.pur rfl rfl rfl (Pur.load rfl (CellIn.blk rfl)) ?_
      refine JO.pur rfl rfl rfl (Pur.eqlT rfl rfl) ?_
      refine JO.pur rfl rfl rfl (Pur.pickF rfl rfl) ?_
      refine JO.pur rfl rfl rfl (Pur.move rfl) ?_
      refine JO.setv (u' := .bool false) 59 rfl (congrArg Value.bool ((by decide))) ?_
      refine JO.pur rfl rfl rfl (Pur.fieldAddr rfl) ?_
      refine JO.pur rfl rfl rfl (Pur.load rfl (CellIn.blk rfl)) ?_
      refine JO.pur rfl rfl rfl (Pur.eqlT rfl rfl) ?_
      refine JO.pur rfl rfl rfl (Pur.pickF rfl rfl) ?_
      refine JO.pur rfl rfl rfl (Pur.move rfl) ?_
      refine JO.setv (u' := .bool false) 64 rfl (congrArg Value.bool ((by decide))) ?_
      refine JO.no rfl rfl rfl ?_
      refine JO.no rfl rfl rfl ?_
      refine JO.no rfl rfl rfl ?_
      refine JO.no rfl rfl rfl ?_
      refine JO.no rfl rfl rfl ?_
      refine JO.pur rfl rfl rfl (Pur.pickF rfl rfl) ?_
      refine JO.pur rfl rfl rfl (Pur.assign rfl) ?_
      refine JO.nil ?_
      refine J.condF rfl rfl ?_
      refine J.seq rfl ?_
      refine J.seq rfl ?_
      refine J.region rfl ?_
      refine JO.pur rfl rfl rfl (Pur.fieldAddr rfl) ?_
      refine JO.pur rfl rfl rfl (Pur.load rfl (CellIn.blk rfl)) ?_
      refine JO.pur rfl rfl rfl (Pur.eqlT rfl rfl) ?_
      refine JO.pur rfl rfl rfl (Pur.move rfl) ?_
      refine JO.setv (u' := .bool false) 75 rfl (congrArg Value.bool ((by decide))) ?_
      refine JO.no rfl rfl rfl ?_
      refine JO.no rfl rfl rfl ?_
      refine JO.no rfl rfl rfl ?_
      refine JO.no rfl rfl rfl ?_
      refine JO.no rfl rfl rfl ?_
      refine JO.pur rfl rfl rfl (Pur.pickF rfl rfl) ?_
      refine JO.pur rfl rfl rfl (Pur.assign rfl) ?_
      refine JO.nil ?_
      refine J.condF rfl rfl ?_
      refine J.region rfl ?_
      refine JO.pur rfl rfl rfl (Pur.fieldAddr rfl) ?_
      refine JO.pur rfl rfl rfl (Pur.load rfl (CellIn.blk rfl)) ?_
      refine JO.pur rfl rfl rfl (Pur.eqlT rfl rfl) ?_
      refine JO.pur rfl rfl rfl (Pur.move rfl) ?_
      refine JO.setv (u' := .bool false) 85 rfl (congrArg Value.bool ((by decide))) ?_
      refine JO.no rfl rfl rfl ?_
      refine JO.no rfl rfl rfl ?_
      refine JO.no rfl rfl rfl ?_
      refine JO.no rfl rfl rfl ?_
      refine JO.no rfl rfl rfl ?_
      refine JO.pur rfl rfl rfl (Pur.pickF rfl rfl) ?_
      refine JO.pur rfl rfl rfl (Pur.assign rfl) ?_
      refine JO.nil ?_
      refine J.condF rfl rfl ?_
      refine J.seq rfl ?_
      refine J.quiet rfl Try.mixed (by kernel_rfl) ?_
      refine JQ.pur rfl rfl rfl (Pur.fieldAddr rfl) ?_
      refine JQ.pur rfl rfl rfl (Pur.load rfl (CellIn.blk rfl)) ?_
      refine JQ.pur rfl rfl rfl (Pur.eqlT rfl rfl) ?_
      refine JQ.pur rfl rfl rfl (Pur.move rfl) ?_
      refine JQ.setv (u' := .bool false) 96 rfl (congrArg Value.bool ((by decide))) ?_
      refine JQ.pur rfl rfl rfl (Pur.fieldAddr rfl) ?_
      refine JQ.pur rfl rfl rfl (Pur.load rfl (CellIn.blk rfl)) ?_
      refine JQ.pur rfl rfl rfl (Pur.eqlT rfl rfl) ?_
      refine JQ.pur rfl rfl rfl (Pur.pickF rfl rfl) ?_
      refine JQ.pur rfl rfl rfl (Pur.move rfl) ?_
      refine JQ.setv (u' := .bool false) 101 rfl (congrArg Value.bool ((by decide))) ?_
      refine JQ.pur rfl rfl rfl (Pur.fieldAddr rfl) ?_
      refine JQ.pur rfl rfl rfl (Pur.load rfl (CellIn.blk rfl)) ?_
      refine JQ.pur rfl rfl rfl (Pur.eqlT rfl rfl) ?_
      refine JQ.pur rfl rfl rfl (Pur.pickF rfl rfl) ?_
      refine JQ.pur rfl rfl rfl (Pur.move rfl) ?_
      refine JQ.setv (u' := .bool false) 106 rfl (congrArg Value.bool ((by decide))) ?_
      refine JQ.pur rfl rfl rfl (Pur.fieldAddr rfl) ?_
      refine JQ.pur rfl rfl rfl (Pur.load rfl (CellIn.blk rfl)) ?_
      refine JQ.pur rfl rfl rfl (Pur.eqlT rfl rfl) ?_
      refine JQ.pur rfl rfl rfl (Pur.pickF rfl rfl) ?_
      refine JQ.pur rfl rfl rfl (Pur.move rfl) ?_
      refine JQ.setv (u' := .bool false) 111 rfl (congrArg Value.bool ((by decide))) ?_
      refine JQ.no rfl rfl rfl ?_
      refine JQ.no rfl rfl rfl ?_
      refine JQ.no rfl rfl rfl ?_
      refine JQ.no rfl rfl rfl ?_
      refine JQ.no rfl rfl rfl ?_
      refine JQ.no rfl rfl rfl ?_
      refine JQ.no rfl rfl rfl ?_
      refine JQ.no rfl rfl rfl ?_
      refine JQ.no rfl rfl rfl ?_
      refine JQ.no rfl rfl rfl ?_
      refine JQ.no rfl rfl rfl ?_
      refine JQ.pur rfl rfl rfl (Pur.pickF rfl rfl) ?_
      refine JQ.pur rfl rfl rfl (Pur.assign rfl) ?_
      refine JQ.nil ?_
      refine J.condF rfl rfl ?_
      refine J.skip rfl ?_
      refine J.inBlock ?_
      refine J.seq rfl ?_
      refine J.region rfl ?_
      refine JO.pur rfl rfl rfl (Pur.assign rfl) ?_
      refine JO.nil ?_
      refine J.ret rfl rfl ?_
      refine ⟨_, _, ⟨rfl, rfl⟩, ?_, SubC.out⟩
      refine congrArg Value.string ?_
      simp only [wrongS, yv, makesB, fromB, n_sNew_sShare, n_sNew_sRaw, n_sNew_sUse, n_sNew_sFree, n_sNew_sDrop, n_sNew_sMove, n_sNew_sCopy, n_sNew_sBorrow, n_sNew_sEither, n_sNew_sOr, n_sNew_sEnd, decide_true, decide_false, Bool.or_true, Bool.or_false, Bool.false_or, Bool.true_or, if_true, if_false, true_or, or_true, false_or, or_false, true_and, false_and, and_true, and_false, decide_eq_true_eq, Bool.false_eq_true, ite_true, ite_false, reduceCtorEq]
      (repeat' split) <;> (first | rfl | (exfalso; omega) | (exfalso; simp_all; done) | (exfalso; simp_all; omega))

set_option maxRecDepth 10000 in
theorem wrong_sShare {L : List Asn} {b : Nat} {aa ac af : Option Addr} {ca cc cf : Nat} {σ : Sx} {v w : Str} (g : Ow.Good σ) (hv : isVarB v = true) :
    CallS Try.prog 59 [.pointer (some ⟨b, 0, none⟩), .agg #[.string sShare, .string v, .string w]].toArray (blk b (arr vrE σ.vars [.slice aa σ.alive.length ca, .slice ac σ.count.length cc, .slice af (fz σ.freed).length cf] 66) :: sl boolE aa ca σ.alive :: sl intE ac cc σ.count :: sl intE af cf (fz σ.freed) :: L) (fun x M => x = .string (wrongS σ ⟨sShare, v, w⟩) ∧ M = blk b (arr vrE σ.vars [.slice aa σ.alive.length ca, .slice ac σ.count.length cc, .slice af (fz σ.freed).length cf] 66) :: sl boolE aa ca σ.alive :: sl intE ac cc σ.count :: sl intE af cf (fz σ.freed) :: L) := by
  have hv8 := g.v8
  have hlv : vi v < σ.vars.length := by have := vi_lt hv; omega
  have hly : (vi v) < σ.vars.length := by have := vi_lt hv; omega
  refine CallS.ent ?_
  refine CallS.enter Try.func59 rfl rfl rfl rfl rfl ?_
  refine J.seq rfl ?_
  refine J.region rfl ?_
  refine JO.eff rfl rfl rfl (Eff.box (cs := [_, _, _]) rfl rfl) ?_
  rintro _ _ ⟨b3, rfl, rfl⟩
  refine JO.pur rfl rfl rfl (Pur.assign rfl) ?_
  refine JO.nil ?_
  refine J.seq rfl ?_
  refine J.seq rfl ?_
  refine J.region rfl ?_
  refine JO.pur rfl rfl rfl (Pur.fieldAddr rfl) ?_
  refine JO.pur rfl rfl rfl (Pur.load rfl (CellIn.blk rfl)) ?_
  refine JO.effR rfl rfl rfl (Eff.call rfl ((CallS.eqv (v' := .bool true) (makes_ok sShare) (congrArg Value.bool (by decide))))) ?_
  refine JO.pur rfl rfl rfl (Pur.move rfl) ?_
  refine JO.setv (u' := .bool true) 13 rfl (congrArg Value.bool (rfl)) ?_
  refine JO.pur rfl rfl rfl (Pur.move rfl) ?_
  refine JO.pur rfl rfl rfl (Pur.nilCheck rfl) ?_
  refine JO.pur rfl rfl rfl (Pur.fieldAddr rfl) ?_
  refine JO.pur rfl rfl rfl (Pur.load rfl (CellIn.arrT (n := 16) (k := 0) (by rw [hv8]; rfl) rfl)) ?_
  refine JO.pur rfl rfl rfl (Pur.len rfl) ?_
  refine JO.pur rfl rfl rfl (Pur.gtr rfl rfl) ?_
  refine JO.pur rfl rfl rfl (Pur.pickT rfl rfl) ?_
  refine JO.nil ?_
  refine J.splitB 20 rfl (fun h20 => ?_) (fun h20 => ?_)
  · try simp only [decide_eq_true_eq, decide_eq_false_iff_not, Bool.not_eq_true', Bool.not_eq_false', Bool.and_eq_true, Bool.or_eq_true, Bool.and_eq_false_iff, Bool.or_eq_false_iff, Option.isNone_some, Option.isSome_some, Option.isNone_none, Option.isSome_none, Int.not_lt, Int.not_le, beq_iff_eq, beq_eq_false_iff_ne, bne_iff_ne, ne_eq, Bool.not_not, Decidable.not_not] at h20
    refine J.condT rfl rfl ?_
    refine J.seq rfl ?_
    refine J.region rfl ?_
    refine JO.pur rfl rfl rfl (Pur.assign rfl) ?_
    refine JO.nil ?_
    refine J.ret rfl rfl ?_
    refine ⟨_, _, ⟨rfl, rfl⟩, ?_, SubC.out⟩
    refine congrArg Value.string ?_
    simp only [wrongS, yv, makesB, fromB, n_sShare_sNew, n_sShare_sRaw, n_sShare_sUse, n_sShare_sFree, n_sShare_sDrop, n_sShare_sMove, n_sShare_sCopy, n_sShare_sBorrow, n_sShare_sEither, n_sShare_sOr, n_sShare_sEnd, decide_true, decide_false, Bool.or_true, Bool.or_false, Bool.false_or, Bool.true_or, if_true, if_false, true_or, or_true, false_or, or_false, true_and, false_and, and_true, and_false, decide_eq_true_eq, Bool.false_eq_true, ite_true, ite_false, reduceCtorEq]
    (repeat' split) <;> (first | rfl | (exfalso; omega) | (exfalso; simp_all; done) | (exfalso; simp_all; omega))
  · try simp only [decide_eq_true_eq, decide_eq_false_iff_not, Bool.not_eq_true', Bool.not_eq_false', Bool.and_eq_true, Bool.or_eq_true, Bool.and_eq_false_iff, Bool.or_eq_false_iff, Option.isNone_some, Option.isSome_some, Option.isNone_none, Option.isSome_none, Int.not_lt, Int.not_le, beq_iff_eq, beq_eq_false_iff_ne, bne_iff_ne, ne_eq, Bool.not_not, Decidable.not_not] at h20
    refine J.condF rfl rfl ?_
    refine J.skip rfl ?_
    refine J.seq rfl ?_
    refine J.region rfl ?_
    refine JO.pur rfl rfl rfl (Pur.move rfl) ?_
    refine JO.pur rfl rfl rfl (Pur.fieldAddr rfl) ?_
    refine JO.pur rfl rfl rfl (Pur.load rfl (CellIn.blk rfl)) ?_
    refine JO.effR rfl rfl rfl (Eff.call rfl (at_ok v hv)) ?_
    refine JO.pur rfl rfl rfl (Pur.assign rfl) ?_
    refine JO.nil ?_
    refine J.seq rfl ?_
    refine J.region rfl ?_
    refine JO.pur rfl rfl rfl (Pur.move rfl) ?_
    refine JO.pur rfl rfl rfl (Pur.assign rfl) ?_
    refine JO.nil ?_
    refine J.seq rfl ?_
    refine J.region rfl ?_
    refine JO.pur rfl rfl rfl (Pur.fieldAddr rfl) ?_
    refine JO.pur rfl rfl rfl (Pur.load rfl (CellIn.blk rfl)) ?_
    refine JO.effR rfl rfl rfl (Eff.call rfl ((CallS.eqv (v' := .tuple #[.bool true, .bool false, .bool true]) (needs_ok sShare) (by rfl)))) ?_
    refine JO.pur rfl rfl rfl (Pur.move rfl) ?_
    refine JO.pur rfl rfl rfl (Pur.extract rfl rfl) ?_
    refine JO.pur rfl rfl rfl (Pur.extract rfl rfl) ?_
    refine JO.pur rfl rfl rfl (Pur.extract rfl rfl) ?_
    refine JO.pur rfl rfl rfl (Pur.assign rfl) ?_
    refine JO.pur rfl rfl rfl (Pur.assign rfl) ?_
    refine JO.pur rfl rfl rfl (Pur.assign rfl) ?_
    refine JO.nil ?_
    refine J.seq rfl ?_
    refine J.seq rfl ?_
    refine J.region rfl ?_
    refine JO.pur rfl rfl rfl (Pur.move rfl) ?_
    refine JO.nil ?_
    refine J.setv (u' := .bool false) 33 rfl (congrArg Value.bool (rfl)) ?_
    refine J.condF rfl rfl ?_
    refine J.skip rfl ?_
    refine J.seq rfl ?_
    refine J.block rfl ?_
    refine J.seq rfl ?_
    refine J.region rfl ?_
    refine JO.pur rfl rfl rfl (Pur.fieldAddr rfl) ?_
    refine JO.pur rfl rfl rfl (Pur.load rfl (CellIn.blk rfl)) ?_
    refine JO.effR rfl rfl rfl (Eff.call rfl ((CallS.eqv (v' := .bool true) (makes_ok sShare) (congrArg Value.bool (by decide))))) ?_
    refine JO.pur rfl rfl rfl (Pur.move rfl) ?_
    refine JO.setv (u' := .bool true) 42 rfl (congrArg Value.bool (rfl)) ?_
    refine JO.no rfl rfl rfl ?_
    refine JO.pur rfl rfl rfl (Pur.pickT rfl rfl) ?_
    refine JO.pur rfl rfl rfl (Pur.move rfl) ?_
    refine JO.pur rfl rfl rfl (Pur.move rfl) ?_
    refine JO.pur rfl rfl rfl (Pur.nilCheck rfl) ?_
    refine JO.pur rfl rfl rfl (Pur.fieldAddr rfl) ?_
    refine JO.pur rfl rfl rfl (Pur.load rfl (CellIn.arr (E := vrE) rfl (vr_get hlv) rfl)) ?_
    refine JO.pur rfl rfl rfl (Pur.neqI rfl rfl) ?_
    refine JO.pur rfl rfl rfl (Pur.pickT rfl rfl) ?_
    refine JO.pur rfl rfl rfl (Pur.assign rfl) ?_
    refine JO.nil ?_
    refine J.splitB 38 rfl (fun h38 => ?_) (fun h38 => ?_)
    · try simp only [decide_eq_true_eq, decide_eq_false_iff_not, Bool.not_eq_true', Bool.not_eq_false', Bool.and_eq_true, Bool.or_eq_true, Bool.and_eq_false_iff, Bool.or_eq_false_iff, Option.isNone_some, Option.isSome_some, Option.isNone_none, Option.isSome_none, Int.not_lt, Int.not_le, beq_iff_eq, beq_eq_false_iff_ne, bne_iff_ne, ne_eq, Bool.not_not, Decidable.not_not] at h38
      refine J.condT rfl rfl ?_
      refine J.seq rfl ?_
      refine J.region rfl ?_
      refine JO.pur rfl rfl rfl (Pur.assign rfl) ?_
      refine JO.nil ?_
      refine J.ret rfl rfl ?_
      refine ⟨_, _, ⟨rfl, rfl⟩, ?_, SubC.out⟩
      refine congrArg Value.string ?_
      simp only [wrongS, yv, makesB, fromB, n_sShare_sNew, n_sShare_sRaw, n_sShare_sUse, n_sShare_sFree, n_sShare_sDrop, n_sShare_sMove, n_sShare_sCopy, n_sShare_sBorrow, n_sShare_sEither, n_sShare_sOr, n_sShare_sEnd, decide_true, decide_false, Bool.or_true, Bool.or_false, Bool.false_or, Bool.true_or, if_true, if_false, true_or, or_true, false_or, or_false, true_and, false_and, and_true, and_false, decide_eq_true_eq, Bool.false_eq_true, ite_true, ite_false, reduceCtorEq]
      (repeat' split) <;> (first | rfl | (exfalso; omega) | (exfalso; simp_all; done) | (exfalso; simp_all; omega))
    · try simp only [decide_eq_true_eq, decide_eq_false_iff_not, Bool.not_eq_true', Bool.not_eq_false', Bool.and_eq_true, Bool.or_eq_true, Bool.and_eq_false_iff, Bool.or_eq_false_iff, Option.isNone_some, Option.isSome_some, Option.isNone_none, Option.isSome_none, Int.not_lt, Int.not_le, beq_iff_eq, beq_eq_false_iff_ne, bne_iff_ne, ne_eq, Bool.not_not, Decidable.not_not] at h38
      refine J.condF rfl rfl ?_
      refine J.seq rfl ?_
      refine J.region rfl ?_
      refine JO.pur rfl rfl rfl (Pur.move rfl) ?_
      refine JO.pur rfl rfl rfl (Pur.move rfl) ?_
      refine JO.setv (u' := .bool false) 54 rfl (congrArg Value.bool (rfl)) ?_
      refine JO.pur rfl rfl rfl (Pur.fieldAddr rfl) ?_
      refine JO.pur rfl rfl rfl (Pur.load rfl (CellIn.blk rfl)) ?_
      refine JO.pur rfl rfl rfl (Pur.eqlT rfl rfl) ?_
      refine JO.pur rfl rfl rfl (Pur.pickF rfl rfl) ?_
      refine JO.pur rfl rfl rfl (Pur.move rfl) ?_
      refine JO.setv (u' := .bool false) 59 rfl (congrArg Value.bool ((by decide))) ?_
      refine JO.pur rfl rfl rfl (Pur.fieldAddr rfl) ?_
      refine JO.pur rfl rfl rfl (Pur.load rfl (CellIn.blk rfl)) ?_
      refine JO.pur rfl rfl rfl (Pur.eqlT rfl rfl) ?_
      refine JO.pur rfl rfl rfl (Pur.pickF rfl rfl) ?_
      refine JO.pur rfl rfl rfl (Pur.move rfl) ?_
      refine JO.setv (u' := .bool false) 64 rfl (congrArg Value.bool ((by decide))) ?_
      refine JO.no rfl rfl rfl ?_
      refine JO.no rfl rfl rfl ?_
      refine JO.no rfl rfl rfl ?_
      refine JO.no rfl rfl rfl ?_
      refine JO.no rfl rfl rfl ?_
      refine JO.pur rfl rfl rfl (Pur.pickF rfl rfl) ?_
      refine JO.pur rfl rfl rfl (Pur.assign rfl) ?_
      refine JO.nil ?_
      refine J.condF rfl rfl ?_
      refine J.seq rfl ?_
      refine J.seq rfl ?_
      refine J.region rfl ?_
      refine JO.pur rfl rfl rfl (Pur.fieldAddr rfl) ?_
      refine JO.pur rfl rfl rfl (Pur.load rfl (CellIn.blk rfl)) ?_
      refine JO.pur rfl rfl rfl (Pur.eqlT rfl rfl) ?_
      refine JO.pur rfl rfl rfl (Pur.move rfl) ?_
      refine JO.setv (u' := .bool false) 75 rfl (congrArg Value.bool ((by decide))) ?_
      refine JO.no rfl rfl rfl ?_
      refine JO.no rfl rfl rfl ?_
      refine JO.no rfl rfl rfl ?_
      refine JO.no rfl rfl rfl ?_
      refine JO.no rfl rfl rfl ?_
      refine JO.pur rfl rfl rfl (Pur.pickF rfl rfl) ?_
      refine JO.pur rfl rfl rfl (Pur.assign rfl) ?_
      refine JO.nil ?_
      refine J.condF rfl rfl ?_
      refine J.region rfl ?_
      refine JO.pur rfl rfl rfl (Pur.fieldAddr rfl) ?_
      refine JO.pur rfl rfl rfl (Pur.load rfl (CellIn.blk rfl)) ?_
      refine JO.pur rfl rfl rfl (Pur.eqlT rfl rfl) ?_
      refine JO.pur rfl rfl rfl (Pur.move rfl) ?_
      refine JO.setv (u' := .bool false) 85 rfl (congrArg Value.bool ((by decide))) ?_
      refine JO.no rfl rfl rfl ?_
      refine JO.no rfl rfl rfl ?_
      refine JO.no rfl rfl rfl ?_
      refine JO.no rfl rfl rfl ?_
      refine JO.no rfl rfl rfl ?_
      refine JO.pur rfl rfl rfl (Pur.pickF rfl rfl) ?_
      refine JO.pur rfl rfl rfl (Pur.assign rfl) ?_
      refine JO.nil ?_
      refine J.condF rfl rfl ?_
      refine J.seq rfl ?_
      refine J.quiet rfl Try.mixed (by kernel_rfl) ?_
      refine JQ.pur rfl rfl rfl (Pur.fieldAddr rfl) ?_
      refine JQ.pur rfl rfl rfl (Pur.load rfl (CellIn.blk rfl)) ?_
      refine JQ.pur rfl rfl rfl (Pur.eqlT rfl rfl) ?_
      refine JQ.pur rfl rfl rfl (Pur.move rfl) ?_
      refine JQ.setv (u' := .bool false) 96 rfl (congrArg Value.bool ((by decide))) ?_
      refine JQ.pur rfl rfl rfl (Pur.fieldAddr rfl) ?_
      refine JQ.pur rfl rfl rfl (Pur.load rfl (CellIn.blk rfl)) ?_
      refine JQ.pur rfl rfl rfl (Pur.eqlT rfl rfl) ?_
      refine JQ.pur rfl rfl rfl (Pur.pickF rfl rfl) ?_
      refine JQ.pur rfl rfl rfl (Pur.move rfl) ?_
      refine JQ.setv (u' := .bool false) 101 rfl (congrArg Value.bool ((by decide))) ?_
      refine JQ.pur rfl rfl rfl (Pur.fieldAddr rfl) ?_
      refine JQ.pur rfl rfl rfl (Pur.load rfl (CellIn.blk rfl)) ?_
      refine JQ.pur rfl rfl rfl (Pur.eqlT rfl rfl) ?_
      refine JQ.pur rfl rfl rfl (Pur.pickF rfl rfl) ?_
      refine JQ.pur rfl rfl rfl (Pur.move rfl) ?_
      refine JQ.setv (u' := .bool false) 106 rfl (congrArg Value.bool ((by decide))) ?_
      refine JQ.pur rfl rfl rfl (Pur.fieldAddr rfl) ?_
      refine JQ.pur rfl rfl rfl (Pur.load rfl (CellIn.blk rfl)) ?_
      refine JQ.pur rfl rfl rfl (Pur.eqlT rfl rfl) ?_
      refine JQ.pur rfl rfl rfl (Pur.pickF rfl rfl) ?_
      refine JQ.pur rfl rfl rfl (Pur.move rfl) ?_
      refine JQ.setv (u' := .bool false) 111 rfl (congrArg Value.bool ((by decide))) ?_
      refine JQ.no rfl rfl rfl ?_
      refine JQ.no rfl rfl rfl ?_
      refine JQ.no rfl rfl rfl ?_
      refine JQ.no rfl rfl rfl ?_
      refine JQ.no rfl rfl rfl ?_
      refine JQ.no rfl rfl rfl ?_
      refine JQ.no rfl rfl rfl ?_
      refine JQ.no rfl rfl rfl ?_
      refine JQ.no rfl rfl rfl ?_
      refine JQ.no rfl rfl rfl ?_
      refine JQ.no rfl rfl rfl ?_
      refine JQ.pur rfl rfl rfl (Pur.pickF rfl rfl) ?_
      refine JQ.pur rfl rfl rfl (Pur.assign rfl) ?_
      refine JQ.nil ?_
      refine J.condF rfl rfl ?_
      refine J.skip rfl ?_
      refine J.inBlock ?_
      refine J.seq rfl ?_
      refine J.region rfl ?_
      refine JO.pur rfl rfl rfl (Pur.assign rfl) ?_
      refine JO.nil ?_
      refine J.ret rfl rfl ?_
      refine ⟨_, _, ⟨rfl, rfl⟩, ?_, SubC.out⟩
      refine congrArg Value.string ?_
      simp only [wrongS, yv, makesB, fromB, n_sShare_sNew, n_sShare_sRaw, n_sShare_sUse, n_sShare_sFree, n_sShare_sDrop, n_sShare_sMove, n_sShare_sCopy, n_sShare_sBorrow, n_sShare_sEither, n_sShare_sOr, n_sShare_sEnd, decide_true, decide_false, Bool.or_true, Bool.or_false, Bool.false_or, Bool.true_or, if_true, if_false, true_or, or_true, false_or, or_false, true_and, false_and, and_true, and_false, decide_eq_true_eq, Bool.false_eq_true, ite_true, ite_false, reduceCtorEq]
      (repeat' split) <;> (first | rfl | (exfalso; omega) | (exfalso; simp_all; done) | (exfalso; simp_all; omega))

set_option maxRecDepth 10000 in
theorem wrong_sRaw {L : List Asn} {b : Nat} {aa ac af : Option Addr} {ca cc cf : Nat} {σ : Sx} {v w : Str} (g : Ow.Good σ) (hv : isVarB v = true) :
    CallS Try.prog 59 [.pointer (some ⟨b, 0, none⟩), .agg #[.string sRaw, .string v, .string w]].toArray (blk b (arr vrE σ.vars [.slice aa σ.alive.length ca, .slice ac σ.count.length cc, .slice af (fz σ.freed).length cf] 66) :: sl boolE aa ca σ.alive :: sl intE ac cc σ.count :: sl intE af cf (fz σ.freed) :: L) (fun x M => x = .string (wrongS σ ⟨sRaw, v, w⟩) ∧ M = blk b (arr vrE σ.vars [.slice aa σ.alive.length ca, .slice ac σ.count.length cc, .slice af (fz σ.freed).length cf] 66) :: sl boolE aa ca σ.alive :: sl intE ac cc σ.count :: sl intE af cf (fz σ.freed) :: L) := by
  have hv8 := g.v8
  have hlv : vi v < σ.vars.length := by have := vi_lt hv; omega
  have hly : (vi v) < σ.vars.length := by have := vi_lt hv; omega
  refine CallS.ent ?_
  refine CallS.enter Try.func59 rfl rfl rfl rfl rfl ?_
  refine J.seq rfl ?_
  refine J.region rfl ?_
  refine JO.eff rfl rfl rfl (Eff.box (cs := [_, _, _]) rfl rfl) ?_
  rintro _ _ ⟨b3, rfl, rfl⟩
  refine JO.pur rfl rfl rfl (Pur.assign rfl) ?_
  refine JO.nil ?_
  refine J.seq rfl ?_
  refine J.seq rfl ?_
  refine J.region rfl ?_
  refine JO.pur rfl rfl rfl (Pur.fieldAddr rfl) ?_
  refine JO.pur rfl rfl rfl (Pur.load rfl (CellIn.blk rfl)) ?_
  refine JO.effR rfl rfl rfl (Eff.call rfl ((CallS.eqv (v' := .bool true) (makes_ok sRaw) (congrArg Value.bool (by decide))))) ?_
  refine JO.pur rfl rfl rfl (Pur.move rfl) ?_
  refine JO.setv (u' := .bool true) 13 rfl (congrArg Value.bool (rfl)) ?_
  refine JO.pur rfl rfl rfl (Pur.move rfl) ?_
  refine JO.pur rfl rfl rfl (Pur.nilCheck rfl) ?_
  refine JO.pur rfl rfl rfl (Pur.fieldAddr rfl) ?_
  refine JO.pur rfl rfl rfl (Pur.load rfl (CellIn.arrT (n := 16) (k := 0) (by rw [hv8]; rfl) rfl)) ?_
  refine JO.pur rfl rfl rfl (Pur.len rfl) ?_
  refine JO.pur rfl rfl rfl (Pur.gtr rfl rfl) ?_
  refine JO.pur rfl rfl rfl (Pur.pickT rfl rfl) ?_
  refine JO.nil ?_
  refine J.splitB 20 rfl (fun h20 => ?_) (fun h20 => ?_)
  · try simp only [decide_eq_true_eq, decide_eq_false_iff_not, Bool.not_eq_true', Bool.not_eq_false', Bool.and_eq_true, Bool.or_eq_true, Bool.and_eq_false_iff, Bool.or_eq_false_iff, Option.isNone_some, Option.isSome_some, Option.isNone_none, Option.isSome_none, Int.not_lt, Int.not_le, beq_iff_eq, beq_eq_false_iff_ne, bne_iff_ne, ne_eq, Bool.not_not, Decidable.not_not] at h20
    refine J.condT rfl rfl ?_
    refine J.seq rfl ?_
    refine J.region rfl ?_
    refine JO.pur rfl rfl rfl (Pur.assign rfl) ?_
    refine JO.nil ?_
    refine J.ret rfl rfl ?_
    refine ⟨_, _, ⟨rfl, rfl⟩, ?_, SubC.out⟩
    refine congrArg Value.string ?_
    simp only [wrongS, yv, makesB, fromB, n_sRaw_sNew, n_sRaw_sShare, n_sRaw_sUse, n_sRaw_sFree, n_sRaw_sDrop, n_sRaw_sMove, n_sRaw_sCopy, n_sRaw_sBorrow, n_sRaw_sEither, n_sRaw_sOr, n_sRaw_sEnd, decide_true, decide_false, Bool.or_true, Bool.or_false, Bool.false_or, Bool.true_or, if_true, if_false, true_or, or_true, false_or, or_false, true_and, false_and, and_true, and_false, decide_eq_true_eq, Bool.false_eq_true, ite_true, ite_false, reduceCtorEq]
    (repeat' split) <;> (first | rfl | (exfalso; omega) | (exfalso; simp_all; done) | (exfalso; simp_all; omega))
  · try simp only [decide_eq_true_eq, decide_eq_false_iff_not, Bool.not_eq_true', Bool.not_eq_false', Bool.and_eq_true, Bool.or_eq_true, Bool.and_eq_false_iff, Bool.or_eq_false_iff, Option.isNone_some, Option.isSome_some, Option.isNone_none, Option.isSome_none, Int.not_lt, Int.not_le, beq_iff_eq, beq_eq_false_iff_ne, bne_iff_ne, ne_eq, Bool.not_not, Decidable.not_not] at h20
    refine J.condF rfl rfl ?_
    refine J.skip rfl ?_
    refine J.seq rfl ?_
    refine J.region rfl ?_
    refine JO.pur rfl rfl rfl (Pur.move rfl) ?_
    refine JO.pur rfl rfl rfl (Pur.fieldAddr rfl) ?_
    refine JO.pur rfl rfl rfl (Pur.load rfl (CellIn.blk rfl)) ?_
    refine JO.effR rfl rfl rfl (Eff.call rfl (at_ok v hv)) ?_
    refine JO.pur rfl rfl rfl (Pur.assign rfl) ?_
    refine JO.nil ?_
    refine J.seq rfl ?_
    refine J.region rfl ?_
    refine JO.pur rfl rfl rfl (Pur.move rfl) ?_
    refine JO.pur rfl rfl rfl (Pur.assign rfl) ?_
    refine JO.nil ?_
    refine J.seq rfl ?_
    refine J.region rfl ?_
    refine JO.pur rfl rfl rfl (Pur.fieldAddr rfl) ?_
    refine JO.pur rfl rfl rfl (Pur.load rfl (CellIn.blk rfl)) ?_
    refine JO.effR rfl rfl rfl (Eff.call rfl ((CallS.eqv (v' := .tuple #[.bool true, .bool false, .bool true]) (needs_ok sRaw) (by rfl)))) ?_
    refine JO.pur rfl rfl rfl (Pur.move rfl) ?_
    refine JO.pur rfl rfl rfl (Pur.extract rfl rfl) ?_
    refine JO.pur rfl rfl rfl (Pur.extract rfl rfl) ?_
    refine JO.pur rfl rfl rfl (Pur.extract rfl rfl) ?_
    refine JO.pur rfl rfl rfl (Pur.assign rfl) ?_
    refine JO.pur rfl rfl rfl (Pur.assign rfl) ?_
    refine JO.pur rfl rfl rfl (Pur.assign rfl) ?_
    refine JO.nil ?_
    refine J.seq rfl ?_
    refine J.seq rfl ?_
    refine J.region rfl ?_
    refine JO.pur rfl rfl rfl (Pur.move rfl) ?_
    refine JO.nil ?_
    refine J.setv (u' := .bool false) 33 rfl (congrArg Value.bool (rfl)) ?_
    refine J.condF rfl rfl ?_
    refine J.skip rfl ?_
    refine J.seq rfl ?_
    refine J.block rfl ?_
    refine J.seq rfl ?_
    refine J.region rfl ?_
    refine JO.pur rfl rfl rfl (Pur.fieldAddr rfl) ?_
    refine JO.pur rfl rfl rfl (Pur.load rfl (CellIn.blk rfl)) ?_
    refine JO.effR rfl rfl rfl (Eff.call rfl ((CallS.eqv (v' := .bool true) (makes_ok sRaw) (congrArg Value.bool (by decide))))) ?_
    refine JO.pur rfl rfl rfl (Pur.move rfl) ?_
    refine JO.setv (u' := .bool true) 42 rfl (congrArg Value.bool (rfl)) ?_
    refine JO.no rfl rfl rfl ?_
    refine JO.pur rfl rfl rfl (Pur.pickT rfl rfl) ?_
    refine JO.pur rfl rfl rfl (Pur.move rfl) ?_
    refine JO.pur rfl rfl rfl (Pur.move rfl) ?_
    refine JO.pur rfl rfl rfl (Pur.nilCheck rfl) ?_
    refine JO.pur rfl rfl rfl (Pur.fieldAddr rfl) ?_
    refine JO.pur rfl rfl rfl (Pur.load rfl (CellIn.arr (E := vrE) rfl (vr_get hlv) rfl)) ?_
    refine JO.pur rfl rfl rfl (Pur.neqI rfl rfl) ?_
    refine JO.pur rfl rfl rfl (Pur.pickT rfl rfl) ?_
    refine JO.pur rfl rfl rfl (Pur.assign rfl) ?_
    refine JO.nil ?_
    refine J.splitB 38 rfl (fun h38 => ?_) (fun h38 => ?_)
    · try simp only [decide_eq_true_eq, decide_eq_false_iff_not, Bool.not_eq_true', Bool.not_eq_false', Bool.and_eq_true, Bool.or_eq_true, Bool.and_eq_false_iff, Bool.or_eq_false_iff, Option.isNone_some, Option.isSome_some, Option.isNone_none, Option.isSome_none, Int.not_lt, Int.not_le, beq_iff_eq, beq_eq_false_iff_ne, bne_iff_ne, ne_eq, Bool.not_not, Decidable.not_not] at h38
      refine J.condT rfl rfl ?_
      refine J.seq rfl ?_
      refine J.region rfl ?_
      refine JO.pur rfl rfl rfl (Pur.assign rfl) ?_
      refine JO.nil ?_
      refine J.ret rfl rfl ?_
      refine ⟨_, _, ⟨rfl, rfl⟩, ?_, SubC.out⟩
      refine congrArg Value.string ?_
      simp only [wrongS, yv, makesB, fromB, n_sRaw_sNew, n_sRaw_sShare, n_sRaw_sUse, n_sRaw_sFree, n_sRaw_sDrop, n_sRaw_sMove, n_sRaw_sCopy, n_sRaw_sBorrow, n_sRaw_sEither, n_sRaw_sOr, n_sRaw_sEnd, decide_true, decide_false, Bool.or_true, Bool.or_false, Bool.false_or, Bool.true_or, if_true, if_false, true_or, or_true, false_or, or_false, true_and, false_and, and_true, and_false, decide_eq_true_eq, Bool.false_eq_true, ite_true, ite_false, reduceCtorEq]
      (repeat' split) <;> (first | rfl | (exfalso; omega) | (exfalso; simp_all; done) | (exfalso; simp_all; omega))
    · try simp only [decide_eq_true_eq, decide_eq_false_iff_not, Bool.not_eq_true', Bool.not_eq_false', Bool.and_eq_true, Bool.or_eq_true, Bool.and_eq_false_iff, Bool.or_eq_false_iff, Option.isNone_some, Option.isSome_some, Option.isNone_none, Option.isSome_none, Int.not_lt, Int.not_le, beq_iff_eq, beq_eq_false_iff_ne, bne_iff_ne, ne_eq, Bool.not_not, Decidable.not_not] at h38
      refine J.condF rfl rfl ?_
      refine J.seq rfl ?_
      refine J.region rfl ?_
      refine JO.pur rfl rfl rfl (Pur.move rfl) ?_
      refine JO.pur rfl rfl rfl (Pur.move rfl) ?_
      refine JO.setv (u' := .bool false) 54 rfl (congrArg Value.bool (rfl)) ?_
      refine JO.pur rfl rfl rfl (Pur.fieldAddr rfl) ?_
      refine JO.pur rfl rfl rfl (Pur.load rfl (CellIn.blk rfl)) ?_
      refine JO.pur rfl rfl rfl (Pur.eqlT rfl rfl) ?_
      refine JO.pur rfl rfl rfl (Pur.pickF rfl rfl) ?_
      refine JO.pur rfl rfl rfl (Pur.move rfl) ?_
      refine JO.setv (u' := .bool false) 59 rfl (congrArg Value.bool ((by decide))) ?_
      refine JO.pur rfl rfl rfl (Pur.fieldAddr rfl) ?_
      refine JO.pur rfl rfl rfl (Pur.load rfl (CellIn.blk rfl)) ?_
      refine JO.pur rfl rfl rfl (Pur.eqlT rfl rfl) ?_
      refine JO.pur rfl rfl rfl (Pur.pickF rfl rfl) ?_
      refine JO.pur rfl rfl rfl (Pur.move rfl) ?_
      refine JO.setv (u' := .bool false) 64 rfl (congrArg Value.bool ((by decide))) ?_
      refine JO.no rfl rfl rfl ?_
      refine JO.no rfl rfl rfl ?_
      refine JO.no rfl rfl rfl ?_
      refine JO.no rfl rfl rfl ?_
      refine JO.no rfl rfl rfl ?_
      refine JO.pur rfl rfl rfl (Pur.pickF rfl rfl) ?_
      refine JO.pur rfl rfl rfl (Pur.assign rfl) ?_
      refine JO.nil ?_
      refine J.condF rfl rfl ?_
      refine J.seq rfl ?_
      refine J.seq rfl ?_
      refine J.region rfl ?_
      refine JO.pur rfl rfl rfl (Pur.fieldAddr rfl) ?_
      refine JO.pur rfl rfl rfl (Pur.load rfl (CellIn.blk rfl)) ?_
      refine JO.pur rfl rfl rfl (Pur.eqlT rfl rfl) ?_
      refine JO.pur rfl rfl rfl (Pur.move rfl) ?_
      refine JO.setv (u' := .bool false) 75 rfl (congrArg Value.bool ((by decide))) ?_
      refine JO.no rfl rfl rfl ?_
      refine JO.no rfl rfl rfl ?_
      refine JO.no rfl rfl rfl ?_
      refine JO.no rfl rfl rfl ?_
      refine JO.no rfl rfl rfl ?_
      refine JO.pur rfl rfl rfl (Pur.pickF rfl rfl) ?_
      refine JO.pur rfl rfl rfl (Pur.assign rfl) ?_
      refine JO.nil ?_
      refine J.condF rfl rfl ?_
      refine J.region rfl ?_
      refine JO.pur rfl rfl rfl (Pur.fieldAddr rfl) ?_
      refine JO.pur rfl rfl rfl (Pur.load rfl (CellIn.blk rfl)) ?_
      refine JO.pur rfl rfl rfl (Pur.eqlT rfl rfl) ?_
      refine JO.pur rfl rfl rfl (Pur.move rfl) ?_
      refine JO.setv (u' := .bool false) 85 rfl (congrArg Value.bool ((by decide))) ?_
      refine JO.no rfl rfl rfl ?_
      refine JO.no rfl rfl rfl ?_
      refine JO.no rfl rfl rfl ?_
      refine JO.no rfl rfl rfl ?_
      refine JO.no rfl rfl rfl ?_
      refine JO.pur rfl rfl rfl (Pur.pickF rfl rfl) ?_
      refine JO.pur rfl rfl rfl (Pur.assign rfl) ?_
      refine JO.nil ?_
      refine J.condF rfl rfl ?_
      refine J.seq rfl ?_
      refine J.quiet rfl Try.mixed (by kernel_rfl) ?_
      refine JQ.pur rfl rfl rfl (Pur.fieldAddr rfl) ?_
      refine JQ.pur rfl rfl rfl (Pur.load rfl (CellIn.blk rfl)) ?_
      refine JQ.pur rfl rfl rfl (Pur.eqlT rfl rfl) ?_
      refine JQ.pur rfl rfl rfl (Pur.move rfl) ?_
      refine JQ.setv (u' := .bool false) 96 rfl (congrArg Value.bool ((by decide))) ?_
      refine JQ.pur rfl rfl rfl (Pur.fieldAddr rfl) ?_
      refine JQ.pur rfl rfl rfl (Pur.load rfl (CellIn.blk rfl)) ?_
      refine JQ.pur rfl rfl rfl (Pur.eqlT rfl rfl) ?_
      refine JQ.pur rfl rfl rfl (Pur.pickF rfl rfl) ?_
      refine JQ.pur rfl rfl rfl (Pur.move rfl) ?_
      refine JQ.setv (u' := .bool false) 101 rfl (congrArg Value.bool ((by decide))) ?_
      refine JQ.pur rfl rfl rfl (Pur.fieldAddr rfl) ?_
      refine JQ.pur rfl rfl rfl (Pur.load rfl (CellIn.blk rfl)) ?_
      refine JQ.pur rfl rfl rfl (Pur.eqlT rfl rfl) ?_
      refine JQ.pur rfl rfl rfl (Pur.pickF rfl rfl) ?_
      refine JQ.pur rfl rfl rfl (Pur.move rfl) ?_
      refine JQ.setv (u' := .bool false) 106 rfl (congrArg Value.bool ((by decide))) ?_
      refine JQ.pur rfl rfl rfl (Pur.fieldAddr rfl) ?_
      refine JQ.pur rfl rfl rfl (Pur.load rfl (CellIn.blk rfl)) ?_
      refine JQ.pur rfl rfl rfl (Pur.eqlT rfl rfl) ?_
      refine JQ.pur rfl rfl rfl (Pur.pickF rfl rfl) ?_
      refine JQ.pur rfl rfl rfl (Pur.move rfl) ?_
      refine JQ.setv (u' := .bool false) 111 rfl (congrArg Value.bool ((by decide))) ?_
      refine JQ.no rfl rfl rfl ?_
      refine JQ.no rfl rfl rfl ?_
      refine JQ.no rfl rfl rfl ?_
      refine JQ.no rfl rfl rfl ?_
      refine JQ.no rfl rfl rfl ?_
      refine JQ.no rfl rfl rfl ?_
      refine JQ.no rfl rfl rfl ?_
      refine JQ.no rfl rfl rfl ?_
      refine JQ.no rfl rfl rfl ?_
      refine JQ.no rfl rfl rfl ?_
      refine JQ.no rfl rfl rfl ?_
      refine JQ.pur rfl rfl rfl (Pur.pickF rfl rfl) ?_
      refine JQ.pur rfl rfl rfl (Pur.assign rfl) ?_
      refine JQ.nil ?_
      refine J.condF rfl rfl ?_
      refine J.skip rfl ?_
      refine J.inBlock ?_
      refine J.seq rfl ?_
      refine J.region rfl ?_
      refine JO.pur rfl rfl rfl (Pur.assign rfl) ?_
      refine JO.nil ?_
      refine J.ret rfl rfl ?_
      refine ⟨_, _, ⟨rfl, rfl⟩, ?_, SubC.out⟩
      refine congrArg Value.string ?_
      simp only [wrongS, yv, makesB, fromB, n_sRaw_sNew, n_sRaw_sShare, n_sRaw_sUse, n_sRaw_sFree, n_sRaw_sDrop, n_sRaw_sMove, n_sRaw_sCopy, n_sRaw_sBorrow, n_sRaw_sEither, n_sRaw_sOr, n_sRaw_sEnd, decide_true, decide_false, Bool.or_true, Bool.or_false, Bool.false_or, Bool.true_or, if_true, if_false, true_or, or_true, false_or, or_false, true_and, false_and, and_true, and_false, decide_eq_true_eq, Bool.false_eq_true, ite_true, ite_false, reduceCtorEq]
      (repeat' split) <;> (first | rfl | (exfalso; omega) | (exfalso; simp_all; done) | (exfalso; simp_all; omega))

set_option maxRecDepth 10000 in
theorem wrong_sUse {L : List Asn} {b : Nat} {aa ac af : Option Addr} {ca cc cf : Nat} {σ : Sx} {v w : Str} (g : Ow.Good σ) (hv : isVarB v = true) :
    CallS Try.prog 59 [.pointer (some ⟨b, 0, none⟩), .agg #[.string sUse, .string v, .string w]].toArray (blk b (arr vrE σ.vars [.slice aa σ.alive.length ca, .slice ac σ.count.length cc, .slice af (fz σ.freed).length cf] 66) :: sl boolE aa ca σ.alive :: sl intE ac cc σ.count :: sl intE af cf (fz σ.freed) :: L) (fun x M => x = .string (wrongS σ ⟨sUse, v, w⟩) ∧ M = blk b (arr vrE σ.vars [.slice aa σ.alive.length ca, .slice ac σ.count.length cc, .slice af (fz σ.freed).length cf] 66) :: sl boolE aa ca σ.alive :: sl intE ac cc σ.count :: sl intE af cf (fz σ.freed) :: L) := by
  have hv8 := g.v8
  have hlv : vi v < σ.vars.length := by have := vi_lt hv; omega
  have hly : (vi v) < σ.vars.length := by have := vi_lt hv; omega
  refine CallS.ent ?_
  refine CallS.enter Try.func59 rfl rfl rfl rfl rfl ?_
  refine J.seq rfl ?_
  refine J.region rfl ?_
  refine JO.eff rfl rfl rfl (Eff.box (cs := [_, _, _]) rfl rfl) ?_
  rintro _ _ ⟨b3, rfl, rfl⟩
  refine JO.pur rfl rfl rfl (Pur.assign rfl) ?_
  refine JO.nil ?_
  refine J.seq rfl ?_
  refine J.seq rfl ?_
  refine J.region rfl ?_
  refine JO.pur rfl rfl rfl (Pur.fieldAddr rfl) ?_
  refine JO.pur rfl rfl rfl (Pur.load rfl (CellIn.blk rfl)) ?_
  refine JO.effR rfl rfl rfl (Eff.call rfl ((CallS.eqv (v' := .bool false) (makes_ok sUse) (congrArg Value.bool (by decide))))) ?_
  refine JO.pur rfl rfl rfl (Pur.move rfl) ?_
  refine JO.setv (u' := .bool false) 13 rfl (congrArg Value.bool (rfl)) ?_
  refine JO.no rfl rfl rfl ?_
  refine JO.no rfl rfl rfl ?_
  refine JO.no rfl rfl rfl ?_
  refine JO.no rfl rfl rfl ?_
  refine JO.no rfl rfl rfl ?_
  refine JO.no rfl rfl rfl ?_
  refine JO.pur rfl rfl rfl (Pur.pickF rfl rfl) ?_
  refine JO.nil ?_
  refine J.condF rfl rfl ?_
  refine J.skip rfl ?_
  refine J.seq rfl ?_
  refine J.region rfl ?_
  refine JO.pur rfl rfl rfl (Pur.move rfl) ?_
  refine JO.pur rfl rfl rfl (Pur.fieldAddr rfl) ?_
  refine JO.pur rfl rfl rfl (Pur.load rfl (CellIn.blk rfl)) ?_
  refine JO.effR rfl rfl rfl (Eff.call rfl (at_ok v hv)) ?_
  refine JO.pur rfl rfl rfl (Pur.assign rfl) ?_
  refine JO.nil ?_
  refine J.seq rfl ?_
  refine J.region rfl ?_
  refine JO.pur rfl rfl rfl (Pur.move rfl) ?_
  refine JO.pur rfl rfl rfl (Pur.assign rfl) ?_
  refine JO.nil ?_
  refine J.seq rfl ?_
  refine J.region rfl ?_
  refine JO.pur rfl rfl rfl (Pur.fieldAddr rfl) ?_
  refine JO.pur rfl rfl rfl (Pur.load rfl (CellIn.blk rfl)) ?_
  refine JO.effR rfl rfl rfl (Eff.call rfl ((CallS.eqv (v' := .tuple #[.bool true, .bool false, .bool true]) (needs_ok sUse) (by rfl)))) ?_
  refine JO.pur rfl rfl rfl (Pur.move rfl) ?_
  refine JO.pur rfl rfl rfl (Pur.extract rfl rfl) ?_
  refine JO.pur rfl rfl rfl (Pur.extract rfl rfl) ?_
  refine JO.pur rfl rfl rfl (Pur.extract rfl rfl) ?_
  refine JO.pur rfl rfl rfl (Pur.assign rfl) ?_
  refine JO.pur rfl rfl rfl (Pur.assign rfl) ?_
  refine JO.pur rfl rfl rfl (Pur.assign rfl) ?_
  refine JO.nil ?_
  refine J.seq rfl ?_
  refine J.seq rfl ?_
  refine J.region rfl ?_
  refine JO.pur rfl rfl rfl (Pur.move rfl) ?_
  refine JO.nil ?_
  refine J.setv (u' := .bool false) 33 rfl (congrArg Value.bool (rfl)) ?_
  refine J.condF rfl rfl ?_
  refine J.skip rfl ?_
  refine J.seq rfl ?_
  refine J.block rfl ?_
  refine J.seq rfl ?_
  refine J.region rfl ?_
  refine JO.pur rfl rfl rfl (Pur.fieldAddr rfl) ?_
  refine JO.pur rfl rfl rfl (Pur.load rfl (CellIn.blk rfl)) ?_
  refine JO.effR rfl rfl rfl (Eff.call rfl ((CallS.eqv (v' := .bool false) (makes_ok sUse) (congrArg Value.bool (by decide))))) ?_
  refine JO.pur rfl rfl rfl (Pur.move rfl) ?_
  refine JO.setv (u' := .bool false) 42 rfl (congrArg Value.bool (rfl)) ?_
  refine JO.pur rfl rfl rfl (Pur.move rfl) ?_
  refine JO.pur rfl rfl rfl (Pur.pickF rfl rfl) ?_
  refine JO.pur rfl rfl rfl (Pur.move rfl) ?_
  refine JO.setv (u' := .bool false) 45 rfl (congrArg Value.bool (rfl)) ?_
  refine JO.no rfl rfl rfl ?_
  refine JO.no rfl rfl rfl ?_
  refine JO.no rfl rfl rfl ?_
  refine JO.no rfl rfl rfl ?_
  refine JO.no rfl rfl rfl ?_
  refine JO.pur rfl rfl rfl (Pur.pickF rfl rfl) ?_
  refine JO.pur rfl rfl rfl (Pur.assign rfl) ?_
  refine JO.nil ?_
  refine J.condF rfl rfl ?_
  refine J.seq rfl ?_
  refine J.region rfl ?_
  refine JO.pur rfl rfl rfl (Pur.move rfl) ?_
  refine JO.pur rfl rfl rfl (Pur.move rfl) ?_
  refine JO.setv (u' := .bool false) 54 rfl (congrArg Value.bool (rfl)) ?_
  refine JO.pur rfl rfl rfl (Pur.fieldAddr rfl) ?_
  refine JO.pur rfl rfl rfl (Pur.load rfl (CellIn.blk rfl)) ?_
  refine JO.pur rfl rfl rfl (Pur.eqlT rfl rfl) ?_
  refine JO.pur rfl rfl rfl (Pur.pickF rfl rfl) ?_
  refine JO.pur rfl rfl rfl (Pur.move rfl) ?_
  refine JO.setv (u' := .bool true) 59 rfl (congrArg Value.bool ((by decide))) ?_
  refine JO.no rfl rfl rfl ?_
  refine JO.no rfl rfl rfl ?_
  refine JO.no rfl rfl rfl ?_
  refine JO.pur rfl rfl rfl (Pur.pickT rfl rfl) ?_
  refine JO.pur rfl rfl rfl (Pur.move rfl) ?_
  refine JO.pur rfl rfl rfl (Pur.move rfl) ?_
  refine JO.pur rfl rfl rfl (Pur.nilCheck rfl) ?_
  refine JO.pur rfl rfl rfl (Pur.fieldAddr rfl) ?_
  refine JO.pur rfl rfl rfl (Pur.load rfl (CellIn.arr (E := vrE) rfl (vr_get hly) rfl)) ?_
  refine JO.pur rfl rfl rfl (Pur.eqlI rfl rfl) ?_
  refine JO.pur rfl rfl rfl (Pur.pickT rfl rfl) ?_
  refine JO.pur rfl rfl rfl (Pur.assign rfl) ?_
  refine JO.nil ?_
  refine J.splitB 52 rfl (fun h52 => ?_) (fun h52 => ?_)
  · try simp only [decide_eq_true_eq, decide_eq_false_iff_not, Bool.not_eq_true', Bool.not_eq_false', Bool.and_eq_true, Bool.or_eq_true, Bool.and_eq_false_iff, Bool.or_eq_false_iff, Option.isNone_some, Option.isSome_some, Option.isNone_none, Option.isSome_none, Int.not_lt, Int.not_le, beq_iff_eq, beq_eq_false_iff_ne, bne_iff_ne, ne_eq, Bool.not_not, Decidable.not_not] at h52
    refine J.condT rfl rfl ?_
    refine J.seq rfl ?_
    refine J.region rfl ?_
    refine JO.pur rfl rfl rfl (Pur.assign rfl) ?_
    refine JO.nil ?_
    refine J.ret rfl rfl ?_
    refine ⟨_, _, ⟨rfl, rfl⟩, ?_, SubC.out⟩
    refine congrArg Value.string ?_
    simp only [wrongS, yv, makesB, fromB, n_sUse_sNew, n_sUse_sShare, n_sUse_sRaw, n_sUse_sFree, n_sUse_sDrop, n_sUse_sMove, n_sUse_sCopy, n_sUse_sBorrow, n_sUse_sEither, n_sUse_sOr, n_sUse_sEnd, decide_true, decide_false, Bool.or_true, Bool.or_false, Bool.false_or, Bool.true_or, if_true, if_false, true_or, or_true, false_or, or_false, true_and, false_and, and_true, and_false, decide_eq_true_eq, Bool.false_eq_true, ite_true, ite_false, reduceCtorEq]
    (repeat' split) <;> (first | rfl | (exfalso; omega) | (exfalso; simp_all; done) | (exfalso; simp_all; omega))
  · try simp only [decide_eq_true_eq, decide_eq_false_iff_not, Bool.not_eq_true', Bool.not_eq_false', Bool.and_eq_true, Bool.or_eq_true, Bool.and_eq_false_iff, Bool.or_eq_false_iff, Option.isNone_some, Option.isSome_some, Option.isNone_none, Option.isSome_none, Int.not_lt, Int.not_le, beq_iff_eq, beq_eq_false_iff_ne, bne_iff_ne, ne_eq, Bool.not_not, Decidable.not_not] at h52
    have hy0 : (vr σ (vi v)).m ≠ 0 := by omega
    have hyo : (vr σ (vi v)).o < σ.alive.length := (g.obj _ hy0).2
    refine J.condF rfl rfl ?_
    refine J.seq rfl ?_
    refine J.seq rfl ?_
    refine J.region rfl ?_
    refine JO.pur rfl rfl rfl (Pur.fieldAddr rfl) ?_
    refine JO.pur rfl rfl rfl (Pur.load rfl (CellIn.blk rfl)) ?_
    refine JO.pur rfl rfl rfl (Pur.eqlT rfl rfl) ?_
    refine JO.pur rfl rfl rfl (Pur.move rfl) ?_
    refine JO.setv (u' := .bool false) 75 rfl (congrArg Value.bool ((by decide))) ?_
    refine JO.no rfl rfl rfl ?_
    refine JO.no rfl rfl rfl ?_
    refine JO.no rfl rfl rfl ?_
    refine JO.no rfl rfl rfl ?_
    refine JO.no rfl rfl rfl ?_
    refine JO.pur rfl rfl rfl (Pur.pickF rfl rfl) ?_
    refine JO.pur rfl rfl rfl (Pur.assign rfl) ?_
    refine JO.nil ?_
    refine J.condF rfl rfl ?_
    refine J.region rfl ?_
    refine JO.pur rfl rfl rfl (Pur.fieldAddr rfl) ?_
    refine JO.pur rfl rfl rfl (Pur.load rfl (CellIn.blk rfl)) ?_
    refine JO.pur rfl rfl rfl (Pur.eqlT rfl rfl) ?_
    refine JO.pur rfl rfl rfl (Pur.move rfl) ?_
    refine JO.setv (u' := .bool false) 85 rfl (congrArg Value.bool ((by decide))) ?_
    refine JO.no rfl rfl rfl ?_
    refine JO.no rfl rfl rfl ?_
    refine JO.no rfl rfl rfl ?_
    refine JO.no rfl rfl rfl ?_
    refine JO.no rfl rfl rfl ?_
    refine JO.pur rfl rfl rfl (Pur.pickF rfl rfl) ?_
    refine JO.pur rfl rfl rfl (Pur.assign rfl) ?_
    refine JO.nil ?_
    refine J.condF rfl rfl ?_
    refine J.seq rfl ?_
    refine J.quiet rfl Try.mixed (by kernel_rfl) ?_
    refine JQ.pur rfl rfl rfl (Pur.fieldAddr rfl) ?_
    refine JQ.pur rfl rfl rfl (Pur.load rfl (CellIn.blk rfl)) ?_
    refine JQ.pur rfl rfl rfl (Pur.eqlT rfl rfl) ?_
    refine JQ.pur rfl rfl rfl (Pur.move rfl) ?_
    refine JQ.setv (u' := .bool true) 96 rfl (congrArg Value.bool ((by decide))) ?_
    refine JQ.no rfl rfl rfl ?_
    refine JQ.no rfl rfl rfl ?_
    refine JQ.no rfl rfl rfl ?_
    refine JQ.pur rfl rfl rfl (Pur.pickT rfl rfl) ?_
    refine JQ.pur rfl rfl rfl (Pur.move rfl) ?_
    refine JQ.no rfl rfl rfl ?_
    refine JQ.no rfl rfl rfl ?_
    refine JQ.no rfl rfl rfl ?_
    refine JQ.pur rfl rfl rfl (Pur.pickT rfl rfl) ?_
    refine JQ.pur rfl rfl rfl (Pur.move rfl) ?_
    refine JQ.no rfl rfl rfl ?_
    refine JQ.no rfl rfl rfl ?_
    refine JQ.no rfl rfl rfl ?_
    refine JQ.pur rfl rfl rfl (Pur.pickT rfl rfl) ?_
    refine JQ.pur rfl rfl rfl (Pur.move rfl) ?_
    refine JQ.pur rfl rfl rfl (Pur.move rfl) ?_
    refine JQ.pur rfl rfl rfl (Pur.nilCheck rfl) ?_
    refine JQ.pur rfl rfl rfl (Pur.fieldAddr rfl) ?_
    refine JQ.pur rfl rfl rfl (Pur.load rfl (CellIn.arrT (n := 16) (k := 0) (by rw [hv8]; rfl) rfl)) ?_
    refine JQ.pur rfl rfl rfl (Pur.move rfl) ?_
    refine JQ.pur rfl rfl rfl (Pur.nilCheck rfl) ?_
    refine JQ.pur rfl rfl rfl (Pur.fieldAddr rfl) ?_
    refine JQ.pur rfl rfl rfl (Pur.load rfl (CellIn.arr (E := vrE) rfl (vr_get hly) rfl)) ?_
    refine JQ.pur rfl rfl rfl (Pur.idx rfl rfl rfl (by first | rfl | (simp; done) | omega) rfl hyo) ?_
    refine JQ.pur rfl rfl rfl (Pur.load rfl (CellIn.el0 rfl (getD_get (d := false) hyo) rfl)) ?_
    refine JQ.pur rfl rfl rfl (Pur.not rfl) ?_
    refine JQ.pur rfl rfl rfl (Pur.pickT rfl rfl) ?_
    refine JQ.pur rfl rfl rfl (Pur.assign rfl) ?_
    refine JQ.nil ?_
    refine J.splitB 92 rfl (fun h92 => ?_) (fun h92 => ?_)
    · try simp only [decide_eq_true_eq, decide_eq_false_iff_not, Bool.not_eq_true', Bool.not_eq_false', Bool.and_eq_true, Bool.or_eq_true, Bool.and_eq_false_iff, Bool.or_eq_false_iff, Option.isNone_some, Option.isSome_some, Option.isNone_none, Option.isSome_none, Int.not_lt, Int.not_le, beq_iff_eq, beq_eq_false_iff_ne, bne_iff_ne, ne_eq, Bool.not_not, Decidable.not_not] at h92
      refine J.condT rfl rfl ?_
      refine J.seq rfl ?_
      refine J.region rfl ?_
      refine JO.pur rfl rfl rfl (Pur.assign rfl) ?_
      refine JO.nil ?_
      refine J.ret rfl rfl ?_
      refine ⟨_, _, ⟨rfl, rfl⟩, ?_, SubC.out⟩
      refine congrArg Value.string ?_
      simp only [wrongS, yv, makesB, fromB, n_sUse_sNew, n_sUse_sShare, n_sUse_sRaw, n_sUse_sFree, n_sUse_sDrop, n_sUse_sMove, n_sUse_sCopy, n_sUse_sBorrow, n_sUse_sEither, n_sUse_sOr, n_sUse_sEnd, decide_true, decide_false, Bool.or_true, Bool.or_false, Bool.false_or, Bool.true_or, if_true, if_false, true_or, or_true, false_or, or_false, true_and, false_and, and_true, and_false, decide_eq_true_eq, Bool.false_eq_true, ite_true, ite_false, reduceCtorEq]
      (repeat' split) <;> (first | rfl | (exfalso; omega) | (exfalso; simp_all; done) | (exfalso; simp_all; omega))
    · try simp only [decide_eq_true_eq, decide_eq_false_iff_not, Bool.not_eq_true', Bool.not_eq_false', Bool.and_eq_true, Bool.or_eq_true, Bool.and_eq_false_iff, Bool.or_eq_false_iff, Option.isNone_some, Option.isSome_some, Option.isNone_none, Option.isSome_none, Int.not_lt, Int.not_le, beq_iff_eq, beq_eq_false_iff_ne, bne_iff_ne, ne_eq, Bool.not_not, Decidable.not_not] at h92
      refine J.condF rfl rfl ?_
      refine J.skip rfl ?_
      refine J.inBlock ?_
      refine J.seq rfl ?_
      refine J.region rfl ?_
      refine JO.pur rfl rfl rfl (Pur.assign rfl) ?_
      refine JO.nil ?_
      refine J.ret rfl rfl ?_
      refine ⟨_, _, ⟨rfl, rfl⟩, ?_, SubC.out⟩
      refine congrArg Value.string ?_
      simp only [wrongS, yv, makesB, fromB, n_sUse_sNew, n_sUse_sShare, n_sUse_sRaw, n_sUse_sFree, n_sUse_sDrop, n_sUse_sMove, n_sUse_sCopy, n_sUse_sBorrow, n_sUse_sEither, n_sUse_sOr, n_sUse_sEnd, decide_true, decide_false, Bool.or_true, Bool.or_false, Bool.false_or, Bool.true_or, if_true, if_false, true_or, or_true, false_or, or_false, true_and, false_and, and_true, and_false, decide_eq_true_eq, Bool.false_eq_true, ite_true, ite_false, reduceCtorEq]
      (repeat' split) <;> (first | rfl | (exfalso; omega) | (exfalso; simp_all; done) | (exfalso; simp_all; omega))

set_option maxRecDepth 10000 in
theorem wrong_sFree {L : List Asn} {b : Nat} {aa ac af : Option Addr} {ca cc cf : Nat} {σ : Sx} {v w : Str} (g : Ow.Good σ) (hv : isVarB v = true) :
    CallS Try.prog 59 [.pointer (some ⟨b, 0, none⟩), .agg #[.string sFree, .string v, .string w]].toArray (blk b (arr vrE σ.vars [.slice aa σ.alive.length ca, .slice ac σ.count.length cc, .slice af (fz σ.freed).length cf] 66) :: sl boolE aa ca σ.alive :: sl intE ac cc σ.count :: sl intE af cf (fz σ.freed) :: L) (fun x M => x = .string (wrongS σ ⟨sFree, v, w⟩) ∧ M = blk b (arr vrE σ.vars [.slice aa σ.alive.length ca, .slice ac σ.count.length cc, .slice af (fz σ.freed).length cf] 66) :: sl boolE aa ca σ.alive :: sl intE ac cc σ.count :: sl intE af cf (fz σ.freed) :: L) := by
  have hv8 := g.v8
  have hlv : vi v < σ.vars.length := by have := vi_lt hv; omega
  have hly : (vi v) < σ.vars.length := by have := vi_lt hv; omega
  refine CallS.ent ?_
  refine CallS.enter Try.func59 rfl rfl rfl rfl rfl ?_
  refine J.seq rfl ?_
  refine J.region rfl ?_
  refine JO.eff rfl rfl rfl (Eff.box (cs := [_, _, _]) rfl rfl) ?_
  rintro _ _ ⟨b3, rfl, rfl⟩
  refine JO.pur rfl rfl rfl (Pur.assign rfl) ?_
  refine JO.nil ?_
  refine J.seq rfl ?_
  refine J.seq rfl ?_
  refine J.region rfl ?_
  refine JO.pur rfl rfl rfl (Pur.fieldAddr rfl) ?_
  refine JO.pur rfl rfl rfl (Pur.load rfl (CellIn.blk rfl)) ?_
  refine JO.effR rfl rfl rfl (Eff.call rfl ((CallS.eqv (v' := .bool false) (makes_ok sFree) (congrArg Value.bool (by decide))))) ?_
  refine JO.pur rfl rfl rfl (Pur.move rfl) ?_
  refine JO.setv (u' := .bool false) 13 rfl (congrArg Value.bool (rfl)) ?_
  refine JO.no rfl rfl rfl ?_
  refine JO.no rfl rfl rfl ?_
  refine JO.no rfl rfl rfl ?_
  refine JO.no rfl rfl rfl ?_
  refine JO.no rfl rfl rfl ?_
  refine JO.no rfl rfl rfl ?_
  refine JO.pur rfl rfl rfl (Pur.pickF rfl rfl) ?_
  refine JO.nil ?_
  refine J.condF rfl rfl ?_
  refine J.skip rfl ?_
  refine J.seq rfl ?_
  refine J.region rfl ?_
  refine JO.pur rfl rfl rfl (Pur.move rfl) ?_
  refine JO.pur rfl rfl rfl (Pur.fieldAddr rfl) ?_
  refine JO.pur rfl rfl rfl (Pur.load rfl (CellIn.blk rfl)) ?_
  refine JO.effR rfl rfl rfl (Eff.call rfl (at_ok v hv)) ?_
  refine JO.pur rfl rfl rfl (Pur.assign rfl) ?_
  refine JO.nil ?_
  refine J.seq rfl ?_
  refine J.region rfl ?_
  refine JO.pur rfl rfl rfl (Pur.move rfl) ?_
  refine JO.pur rfl rfl rfl (Pur.assign rfl) ?_
  refine JO.nil ?_
  refine J.seq rfl ?_
  refine J.region rfl ?_
  refine JO.pur rfl rfl rfl (Pur.fieldAddr rfl) ?_
  refine JO.pur rfl rfl rfl (Pur.load rfl (CellIn.blk rfl)) ?_
  refine JO.effR rfl rfl rfl (Eff.call rfl ((CallS.eqv (v' := .tuple #[.bool true, .bool false, .bool true]) (needs_ok sFree) (by rfl)))) ?_
  refine JO.pur rfl rfl rfl (Pur.move rfl) ?_
  refine JO.pur rfl rfl rfl (Pur.extract rfl rfl) ?_
  refine JO.pur rfl rfl rfl (Pur.extract rfl rfl) ?_
  refine JO.pur rfl rfl rfl (Pur.extract rfl rfl) ?_
  refine JO.pur rfl rfl rfl (Pur.assign rfl) ?_
  refine JO.pur rfl rfl rfl (Pur.assign rfl) ?_
  refine JO.pur rfl rfl rfl (Pur.assign rfl) ?_
  refine JO.nil ?_
  refine J.seq rfl ?_
  refine J.seq rfl ?_
  refine J.region rfl ?_
  refine JO.pur rfl rfl rfl (Pur.move rfl) ?_
  refine JO.nil ?_
  refine J.setv (u' := .bool false) 33 rfl (congrArg Value.bool (rfl)) ?_
  refine J.condF rfl rfl ?_
  refine J.skip rfl ?_
  refine J.seq rfl ?_
  refine J.block rfl ?_
  refine J.seq rfl ?_
  refine J.region rfl ?_
  refine JO.pur rfl rfl rfl (Pur.fieldAddr rfl) ?_
  refine JO.pur rfl rfl rfl (Pur.load rfl (CellIn.blk rfl)) ?_
  refine JO.effR rfl rfl rfl (Eff.call rfl ((CallS.eqv (v' := .bool false) (makes_ok sFree) (congrArg Value.bool (by decide))))) ?_
  refine JO.pur rfl rfl rfl (Pur.move rfl) ?_
  refine JO.setv (u' := .bool false) 42 rfl (congrArg Value.bool (rfl)) ?_
  refine JO.pur rfl rfl rfl (Pur.move rfl) ?_
  refine JO.pur rfl rfl rfl (Pur.pickF rfl rfl) ?_
  refine JO.pur rfl rfl rfl (Pur.move rfl) ?_
  refine JO.setv (u' := .bool false) 45 rfl (congrArg Value.bool (rfl)) ?_
  refine JO.no rfl rfl rfl ?_
  refine JO.no rfl rfl rfl ?_
  refine JO.no rfl rfl rfl ?_
  refine JO.no rfl rfl rfl ?_
  refine JO.no rfl rfl rfl ?_
  refine JO.pur rfl rfl rfl (Pur.pickF rfl rfl) ?_
  refine JO.pur rfl rfl rfl (Pur.assign rfl) ?_
  refine JO.nil ?_
  refine J.condF rfl rfl ?_
  refine J.seq rfl ?_
  refine J.region rfl ?_
  refine JO.pur rfl rfl rfl (Pur.move rfl) ?_
  refine JO.pur rfl rfl rfl (Pur.move rfl) ?_
  refine JO.setv (u' := .bool false) 54 rfl (congrArg Value.bool (rfl)) ?_
  refine JO.pur rfl rfl rfl (Pur.fieldAddr rfl) ?_
  refine JO.pur rfl rfl rfl (Pur.load rfl (CellIn.blk rfl)) ?_
  refine JO.pur rfl rfl rfl (Pur.eqlT rfl rfl) ?_
  refine JO.pur rfl rfl rfl (Pur.pickF rfl rfl) ?_
  refine JO.pur rfl rfl rfl (Pur.move rfl) ?_
  refine JO.setv (u' := .bool false) 59 rfl (congrArg Value.bool ((by decide))) ?_
  refine JO.pur rfl rfl rfl (Pur.fieldAddr rfl) ?_
  refine JO.pur rfl rfl rfl (Pur.load rfl (CellIn.blk rfl)) ?_
  refine JO.pur rfl rfl rfl (Pur.eqlT rfl rfl) ?_
  refine JO.pur rfl rfl rfl (Pur.pickF rfl rfl) ?_
  refine JO.pur rfl rfl rfl (Pur.move rfl) ?_
  refine JO.setv (u' := .bool true) 64 rfl (congrArg Value.bool ((by decide))) ?_
  refine JO.pur rfl rfl rfl (Pur.move rfl) ?_
  refine JO.pur rfl rfl rfl (Pur.nilCheck rfl) ?_
  refine JO.pur rfl rfl rfl (Pur.fieldAddr rfl) ?_
  refine JO.pur rfl rfl rfl (Pur.load rfl (CellIn.arr (E := vrE) rfl (vr_get hly) rfl)) ?_
  refine JO.pur rfl rfl rfl (Pur.eqlI rfl rfl) ?_
  refine JO.pur rfl rfl rfl (Pur.pickT rfl rfl) ?_
  refine JO.pur rfl rfl rfl (Pur.assign rfl) ?_
  refine JO.nil ?_
  refine J.splitB 52 rfl (fun h52 => ?_) (fun h52 => ?_)
  · try simp only [decide_eq_true_eq, decide_eq_false_iff_not, Bool.not_eq_true', Bool.not_eq_false', Bool.and_eq_true, Bool.or_eq_true, Bool.and_eq_false_iff, Bool.or_eq_false_iff, Option.isNone_some, Option.isSome_some, Option.isNone_none, Option.isSome_none, Int.not_lt, Int.not_le, beq_iff_eq, beq_eq_false_iff_ne, bne_iff_ne, ne_eq, Bool.not_not, Decidable.not_not] at h52
    refine J.condT rfl rfl ?_
    refine J.seq rfl ?_
    refine J.region rfl ?_
    refine JO.pur rfl rfl rfl (Pur.assign rfl) ?_
    refine JO.nil ?_
    refine J.ret rfl rfl ?_
    refine ⟨_, _, ⟨rfl, rfl⟩, ?_, SubC.out⟩
    refine congrArg Value.string ?_
    simp only [wrongS, yv, makesB, fromB, n_sFree_sNew, n_sFree_sShare, n_sFree_sRaw, n_sFree_sUse, n_sFree_sDrop, n_sFree_sMove, n_sFree_sCopy, n_sFree_sBorrow, n_sFree_sEither, n_sFree_sOr, n_sFree_sEnd, decide_true, decide_false, Bool.or_true, Bool.or_false, Bool.false_or, Bool.true_or, if_true, if_false, true_or, or_true, false_or, or_false, true_and, false_and, and_true, and_false, decide_eq_true_eq, Bool.false_eq_true, ite_true, ite_false, reduceCtorEq]
    (repeat' split) <;> (first | rfl | (exfalso; omega) | (exfalso; simp_all; done) | (exfalso; simp_all; omega))
  · try simp only [decide_eq_true_eq, decide_eq_false_iff_not, Bool.not_eq_true', Bool.not_eq_false', Bool.and_eq_true, Bool.or_eq_true, Bool.and_eq_false_iff, Bool.or_eq_false_iff, Option.isNone_some, Option.isSome_some, Option.isNone_none, Option.isSome_none, Int.not_lt, Int.not_le, beq_iff_eq, beq_eq_false_iff_ne, bne_iff_ne, ne_eq, Bool.not_not, Decidable.not_not] at h52
    have hy0 : (vr σ (vi v)).m ≠ 0 := by omega
    have hyo : (vr σ (vi v)).o < σ.alive.length := (g.obj _ hy0).2
    refine J.condF rfl rfl ?_
    refine J.seq rfl ?_
    refine J.seq rfl ?_
    refine J.region rfl ?_
    refine JO.pur rfl rfl rfl (Pur.fieldAddr rfl) ?_
    refine JO.pur rfl rfl rfl (Pur.load rfl (CellIn.blk rfl)) ?_
    refine JO.pur rfl rfl rfl (Pur.eqlT rfl rfl) ?_
    refine JO.pur rfl rfl rfl (Pur.move rfl) ?_
    refine JO.setv (u' := .bool false) 75 rfl (congrArg Value.bool ((by decide))) ?_
    refine JO.no rfl rfl rfl ?_
    refine JO.no rfl rfl rfl ?_
    refine JO.no rfl rfl rfl ?_
    refine JO.no rfl rfl rfl ?_
    refine JO.no rfl rfl rfl ?_
    refine JO.pur rfl rfl rfl (Pur.pickF rfl rfl) ?_
    refine JO.pur rfl rfl rfl (Pur.assign rfl) ?_
    refine JO.nil ?_
    refine J.condF rfl rfl ?_
    refine J.region rfl ?_
    refine JO.pur rfl rfl rfl (Pur.fieldAddr rfl) ?_
    refine JO.pur rfl rfl rfl (Pur.load rfl (CellIn.blk rfl)) ?_
    refine JO.pur rfl rfl rfl (Pur.eqlT rfl rfl) ?_
    refine JO.pur rfl rfl rfl (Pur.move rfl) ?_
    refine JO.setv (u' := .bool true) 85 rfl (congrArg Value.bool ((by decide))) ?_
    refine JO.pur rfl rfl rfl (Pur.move rfl) ?_
    refine JO.pur rfl rfl rfl (Pur.nilCheck rfl) ?_
    refine JO.pur rfl rfl rfl (Pur.fieldAddr rfl) ?_
    refine JO.pur rfl rfl rfl (Pur.load rfl (CellIn.arr (E := vrE) rfl (vr_get hly) rfl)) ?_
    refine JO.pur rfl rfl rfl (Pur.neqI rfl rfl) ?_
    refine JO.pur rfl rfl rfl (Pur.pickT rfl rfl) ?_
    refine JO.pur rfl rfl rfl (Pur.assign rfl) ?_
    refine JO.nil ?_
    refine J.splitB 71 rfl (fun h71 => ?_) (fun h71 => ?_)
    · try simp only [decide_eq_true_eq, decide_eq_false_iff_not, Bool.not_eq_true', Bool.not_eq_false', Bool.and_eq_true, Bool.or_eq_true, Bool.and_eq_false_iff, Bool.or_eq_false_iff, Option.isNone_some, Option.isSome_some, Option.isNone_none, Option.isSome_none, Int.not_lt, Int.not_le, beq_iff_eq, beq_eq_false_iff_ne, bne_iff_ne, ne_eq, Bool.not_not, Decidable.not_not] at h71
      refine J.condT rfl rfl ?_
      refine J.seq rfl ?_
      refine J.region rfl ?_
      refine JO.pur rfl rfl rfl (Pur.assign rfl) ?_
      refine JO.nil ?_
      refine J.ret rfl rfl ?_
      refine ⟨_, _, ⟨rfl, rfl⟩, ?_, SubC.out⟩
      refine congrArg Value.string ?_
      simp only [wrongS, yv, makesB, fromB, n_sFree_sNew, n_sFree_sShare, n_sFree_sRaw, n_sFree_sUse, n_sFree_sDrop, n_sFree_sMove, n_sFree_sCopy, n_sFree_sBorrow, n_sFree_sEither, n_sFree_sOr, n_sFree_sEnd, decide_true, decide_false, Bool.or_true, Bool.or_false, Bool.false_or, Bool.true_or, if_true, if_false, true_or, or_true, false_or, or_false, true_and, false_and, and_true, and_false, decide_eq_true_eq, Bool.false_eq_true, ite_true, ite_false, reduceCtorEq]
      (repeat' split) <;> (first | rfl | (exfalso; omega) | (exfalso; simp_all; done) | (exfalso; simp_all; omega))
    · try simp only [decide_eq_true_eq, decide_eq_false_iff_not, Bool.not_eq_true', Bool.not_eq_false', Bool.and_eq_true, Bool.or_eq_true, Bool.and_eq_false_iff, Bool.or_eq_false_iff, Option.isNone_some, Option.isSome_some, Option.isNone_none, Option.isSome_none, Int.not_lt, Int.not_le, beq_iff_eq, beq_eq_false_iff_ne, bne_iff_ne, ne_eq, Bool.not_not, Decidable.not_not] at h71
      refine J.condF rfl rfl ?_
      refine J.seq rfl ?_
      refine J.quiet rfl Try.mixed (by kernel_rfl) ?_
      refine JQ.pur rfl rfl rfl (Pur.fieldAddr rfl) ?_
      refine JQ.pur rfl rfl rfl (Pur.load rfl (CellIn.blk rfl)) ?_
      refine JQ.pur rfl rfl rfl (Pur.eqlT rfl rfl) ?_
      refine JQ.pur rfl rfl rfl (Pur.move rfl) ?_
      refine JQ.setv (u' := .bool false) 96 rfl (congrArg Value.bool ((by decide))) ?_
      refine JQ.pur rfl rfl rfl (Pur.fieldAddr rfl) ?_
      refine JQ.pur rfl rfl rfl (Pur.load rfl (CellIn.blk rfl)) ?_
      refine JQ.pur rfl rfl rfl (Pur.eqlT rfl rfl) ?_
      refine JQ.pur rfl rfl rfl (Pur.pickF rfl rfl) ?_
      refine JQ.pur rfl rfl rfl (Pur.move rfl) ?_
      refine JQ.setv (u' := .bool true) 101 rfl (congrArg Value.bool ((by decide))) ?_
      refine JQ.no rfl rfl rfl ?_
      refine JQ.no rfl rfl rfl ?_
      refine JQ.no rfl rfl rfl ?_
      refine JQ.pur rfl rfl rfl (Pur.pickT rfl rfl) ?_
      refine JQ.pur rfl rfl rfl (Pur.move rfl) ?_
      refine JQ.no rfl rfl rfl ?_
      refine JQ.no rfl rfl rfl ?_
      refine JQ.no rfl rfl rfl ?_
      refine JQ.pur rfl rfl rfl (Pur.pickT rfl rfl) ?_
      refine JQ.pur rfl rfl rfl (Pur.move rfl) ?_
      refine JQ.pur rfl rfl rfl (Pur.move rfl) ?_
      refine JQ.pur rfl rfl rfl (Pur.nilCheck rfl) ?_
      refine JQ.pur rfl rfl rfl (Pur.fieldAddr rfl) ?_
      refine JQ.pur rfl rfl rfl (Pur.load rfl (CellIn.arrT (n := 16) (k := 0) (by rw [hv8]; rfl) rfl)) ?_
      refine JQ.pur rfl rfl rfl (Pur.move rfl) ?_
      refine JQ.pur rfl rfl rfl (Pur.nilCheck rfl) ?_
      refine JQ.pur rfl rfl rfl (Pur.fieldAddr rfl) ?_
      refine JQ.pur rfl rfl rfl (Pur.load rfl (CellIn.arr (E := vrE) rfl (vr_get hly) rfl)) ?_
      refine JQ.pur rfl rfl rfl (Pur.idx rfl rfl rfl (by first | rfl | (simp; done) | omega) rfl hyo) ?_
      refine JQ.pur rfl rfl rfl (Pur.load rfl (CellIn.el0 rfl (getD_get (d := false) hyo) rfl)) ?_
      refine JQ.pur rfl rfl rfl (Pur.not rfl) ?_
      refine JQ.pur rfl rfl rfl (Pur.pickT rfl rfl) ?_
      refine JQ.pur rfl rfl rfl (Pur.assign rfl) ?_
      refine JQ.nil ?_
      refine J.splitB 92 rfl (fun h92 => ?_) (fun h92 => ?_)
      · try simp only [decide_eq_true_eq, decide_eq_false_iff_not, Bool.not_eq_true', Bool.not_eq_false', Bool.and_eq_true, Bool.or_eq_true, Bool.and_eq_false_iff, Bool.or_eq_false_iff, Option.isNone_some, Option.isSome_some, Option.isNone_none, Option.isSome_none, Int.not_lt, Int.not_le, beq_iff_eq, beq_eq_false_iff_ne, bne_iff_ne, ne_eq, Bool.not_not, Decidable.not_not] at h92
        refine J.condT rfl rfl ?_
        refine J.seq rfl ?_
        refine J.region rfl ?_
        refine JO.pur rfl rfl rfl (Pur.assign rfl) ?_
        refine JO.nil ?_
        refine J.ret rfl rfl ?_
        refine ⟨_, _, ⟨rfl, rfl⟩, ?_, SubC.out⟩
        refine congrArg Value.string ?_
        simp only [wrongS, yv, makesB, fromB, n_sFree_sNew, n_sFree_sShare, n_sFree_sRaw, n_sFree_sUse, n_sFree_sDrop, n_sFree_sMove, n_sFree_sCopy, n_sFree_sBorrow, n_sFree_sEither, n_sFree_sOr, n_sFree_sEnd, decide_true, decide_false, Bool.or_true, Bool.or_false, Bool.false_or, Bool.true_or, if_true, if_false, true_or, or_true, false_or, or_false, true_and, false_and, and_true, and_false, decide_eq_true_eq, Bool.false_eq_true, ite_true, ite_false, reduceCtorEq]
        (repeat' split) <;> (first | rfl | (exfalso; omega) | (exfalso; simp_all; done) | (exfalso; simp_all; omega))
      · try simp only [decide_eq_true_eq, decide_eq_false_iff_not, Bool.not_eq_true', Bool.not_eq_false', Bool.and_eq_true, Bool.or_eq_true, Bool.and_eq_false_iff, Bool.or_eq_false_iff, Option.isNone_some, Option.isSome_some, Option.isNone_none, Option.isSome_none, Int.not_lt, Int.not_le, beq_iff_eq, beq_eq_false_iff_ne, bne_iff_ne, ne_eq, Bool.not_not, Decidable.not_not] at h92
        refine J.condF rfl rfl ?_
        refine J.skip rfl ?_
        refine J.inBlock ?_
        refine J.seq rfl ?_
        refine J.region rfl ?_
        refine JO.pur rfl rfl rfl (Pur.assign rfl) ?_
        refine JO.nil ?_
        refine J.ret rfl rfl ?_
        refine ⟨_, _, ⟨rfl, rfl⟩, ?_, SubC.out⟩
        refine congrArg Value.string ?_
        simp only [wrongS, yv, makesB, fromB, n_sFree_sNew, n_sFree_sShare, n_sFree_sRaw, n_sFree_sUse, n_sFree_sDrop, n_sFree_sMove, n_sFree_sCopy, n_sFree_sBorrow, n_sFree_sEither, n_sFree_sOr, n_sFree_sEnd, decide_true, decide_false, Bool.or_true, Bool.or_false, Bool.false_or, Bool.true_or, if_true, if_false, true_or, or_true, false_or, or_false, true_and, false_and, and_true, and_false, decide_eq_true_eq, Bool.false_eq_true, ite_true, ite_false, reduceCtorEq]
        (repeat' split) <;> (first | rfl | (exfalso; omega) | (exfalso; simp_all; done) | (exfalso; simp_all; omega))

set_option maxRecDepth 10000 in
theorem wrong_sDrop {L : List Asn} {b : Nat} {aa ac af : Option Addr} {ca cc cf : Nat} {σ : Sx} {v w : Str} (g : Ow.Good σ) (hv : isVarB v = true) :
    CallS Try.prog 59 [.pointer (some ⟨b, 0, none⟩), .agg #[.string sDrop, .string v, .string w]].toArray (blk b (arr vrE σ.vars [.slice aa σ.alive.length ca, .slice ac σ.count.length cc, .slice af (fz σ.freed).length cf] 66) :: sl boolE aa ca σ.alive :: sl intE ac cc σ.count :: sl intE af cf (fz σ.freed) :: L) (fun x M => x = .string (wrongS σ ⟨sDrop, v, w⟩) ∧ M = blk b (arr vrE σ.vars [.slice aa σ.alive.length ca, .slice ac σ.count.length cc, .slice af (fz σ.freed).length cf] 66) :: sl boolE aa ca σ.alive :: sl intE ac cc σ.count :: sl intE af cf (fz σ.freed) :: L) := by
  have hv8 := g.v8
  have hlv : vi v < σ.vars.length := by have := vi_lt hv; omega
  have hly : (vi v) < σ.vars.length := by have := vi_lt hv; omega
  refine CallS.ent ?_
  refine CallS.enter Try.func59 rfl rfl rfl rfl rfl ?_
  refine J.seq rfl ?_
  refine J.region rfl ?_
  refine JO.eff rfl rfl rfl (Eff.box (cs := [_, _, _]) rfl rfl) ?_
  rintro _ _ ⟨b3, rfl, rfl⟩
  refine JO.pur rfl rfl rfl (Pur.assign rfl) ?_
  refine JO.nil ?_
  refine J.seq rfl ?_
  refine J.seq rfl ?_
  refine J.region rfl ?_
  refine JO.pur rfl rfl rfl (Pur.fieldAddr rfl) ?_
  refine JO.pur rfl rfl rfl (Pur.load rfl (CellIn.blk rfl)) ?_
  refine JO.effR rfl rfl rfl (Eff.call rfl ((CallS.eqv (v' := .bool false) (makes_ok sDrop) (congrArg Value.bool (by decide))))) ?_
  refine JO.pur rfl rfl rfl (Pur.move rfl) ?_
  refine JO.setv (u' := .bool false) 13 rfl (congrArg Value.bool (rfl)) ?_
  refine JO.no rfl rfl rfl ?_
  refine JO.no rfl rfl rfl ?_
  refine JO.no rfl rfl rfl ?_
  refine JO.no rfl rfl rfl ?_
  refine JO.no rfl rfl rfl ?_
  refine JO.no rfl rfl rfl ?_
  refine JO.pur rfl rfl rfl (Pur.pickF rfl rfl) ?_
  refine JO.nil ?_
  refine J.condF rfl rfl ?_
  refine J.skip rfl ?_
  refine J.seq rfl ?_
  refine J.region rfl ?_
  refine JO.pur rfl rfl rfl (Pur.move rfl) ?_
  refine JO.pur rfl rfl rfl (Pur.fieldAddr rfl) ?_
  refine JO.pur rfl rfl rfl (Pur.load rfl (CellIn.blk rfl)) ?_
  refine JO.effR rfl rfl rfl (Eff.call rfl (at_ok v hv)) ?_
  refine JO.pur rfl rfl rfl (Pur.assign rfl) ?_
  refine JO.nil ?_
  refine J.seq rfl ?_
  refine J.region rfl ?_
  refine JO.pur rfl rfl rfl (Pur.move rfl) ?_
  refine JO.pur rfl rfl rfl (Pur.assign rfl) ?_
  refine JO.nil ?_
  refine J.seq rfl ?_
  refine J.region rfl ?_
  refine JO.pur rfl rfl rfl (Pur.fieldAddr rfl) ?_
  refine JO.pur rfl rfl rfl (Pur.load rfl (CellIn.blk rfl)) ?_
  refine JO.effR rfl rfl rfl (Eff.call rfl ((CallS.eqv (v' := .tuple #[.bool true, .bool false, .bool true]) (needs_ok sDrop) (by rfl)))) ?_
  refine JO.pur rfl rfl rfl (Pur.move rfl) ?_
  refine JO.pur rfl rfl rfl (Pur.extract rfl rfl) ?_
  refine JO.pur rfl rfl rfl (Pur.extract rfl rfl) ?_
  refine JO.pur rfl rfl rfl (Pur.extract rfl rfl) ?_
  refine JO.pur rfl rfl rfl (Pur.assign rfl) ?_
  refine JO.pur rfl rfl rfl (Pur.assign rfl) ?_
  refine JO.pur rfl rfl rfl (Pur.assign rfl) ?_
  refine JO.nil ?_
  refine J.seq rfl ?_
  refine J.seq rfl ?_
  refine J.region rfl ?_
  refine JO.pur rfl rfl rfl (Pur.move rfl) ?_
  refine JO.nil ?_
  refine J.setv (u' := .bool false) 33 rfl (congrArg Value.bool (rfl)) ?_
  refine J.condF rfl rfl ?_
  refine J.skip rfl ?_
  refine J.seq rfl ?_
  refine J.block rfl ?_
  refine J.seq rfl ?_
  refine J.region rfl ?_
  refine JO.pur rfl rfl rfl (Pur.fieldAddr rfl) ?_
  refine JO.pur rfl rfl rfl (Pur.load rfl (CellIn.blk rfl)) ?_
  refine JO.effR rfl rfl rfl (Eff.call rfl ((CallS.eqv (v' := .bool false) (makes_ok sDrop) (congrArg Value.bool (by decide))))) ?_
  refine JO.pur rfl rfl rfl (Pur.move rfl) ?_
  refine JO.setv (u' := .bool false) 42 rfl (congrArg Value.bool (rfl)) ?_
  refine JO.pur rfl rfl rfl (Pur.move rfl) ?_
  refine JO.pur rfl rfl rfl (Pur.pickF rfl rfl) ?_
  refine JO.pur rfl rfl rfl (Pur.move rfl) ?_
  refine JO.setv (u' := .bool false) 45 rfl (congrArg Value.bool (rfl)) ?_
  refine JO.no rfl rfl rfl ?_
  refine JO.no rfl rfl rfl ?_
  refine JO.no rfl rfl rfl ?_
  refine JO.no rfl rfl rfl ?_
  refine JO.no rfl rfl rfl ?_
  refine JO.pur rfl rfl rfl (Pur.pickF rfl rfl) ?_
  refine JO.pur rfl rfl rfl (Pur.assign rfl) ?_
  refine JO.nil ?_
  refine J.condF rfl rfl ?_
  refine J.seq rfl ?_
  refine J.region rfl ?_
  refine JO.pur rfl rfl rfl (Pur.move rfl) ?_
  refine JO.pur rfl rfl rfl (Pur.move rfl) ?_
  refine JO.setv (u' := .bool false) 54 rfl (congrArg Value.bool (rfl)) ?_
  refine JO.pur rfl rfl rfl (Pur.fieldAddr rfl) ?_
  refine JO.pur rfl rfl rfl (Pur.load rfl (CellIn.blk rfl)) ?_
  refine JO.pur rfl rfl rfl (Pur.eqlT rfl rfl) ?_
  refine JO.pur rfl rfl rfl (Pur.pickF rfl rfl) ?_
  refine JO.pur rfl rfl rfl (Pur.move rfl) ?_
  refine JO.setv (u' := .bool false) 59 rfl (congrArg Value.bool ((by decide))) ?_
  refine JO.pur rfl rfl rfl (Pur.fieldAddr rfl) ?_
  refine JO.pur rfl rfl rfl (Pur.load rfl (CellIn.blk rfl)) ?_
  refine JO.pur rfl rfl rfl (Pur.eqlT rfl rfl) ?_
  refine JO.pur rfl rfl rfl (Pur.pickF rfl rfl) ?_
  refine JO.pur rfl rfl rfl (Pur.move rfl) ?_
  refine JO.setv (u' := .bool false) 64 rfl (congrArg Value.bool ((by decide))) ?_
  refine JO.no rfl rfl rfl ?_
  refine JO.no rfl rfl rfl ?_
  refine JO.no rfl rfl rfl ?_
  refine JO.no rfl rfl rfl ?_
  refine JO.no rfl rfl rfl ?_
  refine JO.pur rfl rfl rfl (Pur.pickF rfl rfl) ?_
  refine JO.pur rfl rfl rfl (Pur.assign rfl) ?_
  refine JO.nil ?_
  refine J.condF rfl rfl ?_
  refine J.seq rfl ?_
  refine J.seq rfl ?_
  refine J.region rfl ?_
  refine JO.pur rfl rfl rfl (Pur.fieldAddr rfl) ?_
  refine JO.pur rfl rfl rfl (Pur.load rfl (CellIn.blk rfl)) ?_
  refine JO.pur rfl rfl rfl (Pur.eqlT rfl rfl) ?_
  refine JO.pur rfl rfl rfl (Pur.move rfl) ?_
  refine JO.setv (u' := .bool false) 75 rfl (congrArg Value.bool ((by decide))) ?_
  refine JO.no rfl rfl rfl ?_
  refine JO.no rfl rfl rfl ?_
  refine JO.no rfl rfl rfl ?_
  refine JO.no rfl rfl rfl ?_
  refine JO.no rfl rfl rfl ?_
  refine JO.pur rfl rfl rfl (Pur.pickF rfl rfl) ?_
  refine JO.pur rfl rfl rfl (Pur.assign rfl) ?_
  refine JO.nil ?_
  refine J.condF rfl rfl ?_
  refine J.region rfl ?_
  refine JO.pur rfl rfl rfl (Pur.fieldAddr rfl) ?_
  refine JO.pur rfl rfl rfl (Pur.load rfl (CellIn.blk rfl)) ?_
  refine JO.pur rfl rfl rfl (Pur.eqlT rfl rfl) ?_
  refine JO.pur rfl rfl rfl (Pur.move rfl) ?_
  refine JO.setv (u' := .bool false) 85 rfl (congrArg Value.bool ((by decide))) ?_
  refine JO.no rfl rfl rfl ?_
  refine JO.no rfl rfl rfl ?_
  refine JO.no rfl rfl rfl ?_
  refine JO.no rfl rfl rfl ?_
  refine JO.no rfl rfl rfl ?_
  refine JO.pur rfl rfl rfl (Pur.pickF rfl rfl) ?_
  refine JO.pur rfl rfl rfl (Pur.assign rfl) ?_
  refine JO.nil ?_
  refine J.condF rfl rfl ?_
  refine J.seq rfl ?_
  refine J.quiet rfl Try.mixed (by kernel_rfl) ?_
  refine JQ.pur rfl rfl rfl (Pur.fieldAddr rfl) ?_
  refine JQ.pur rfl rfl rfl (Pur.load rfl (CellIn.blk rfl)) ?_
  refine JQ.pur rfl rfl rfl (Pur.eqlT rfl rfl) ?_
  refine JQ.pur rfl rfl rfl (Pur.move rfl) ?_
  refine JQ.setv (u' := .bool false) 96 rfl (congrArg Value.bool ((by decide))) ?_
  refine JQ.pur rfl rfl rfl (Pur.fieldAddr rfl) ?_
  refine JQ.pur rfl rfl rfl (Pur.load rfl (CellIn.blk rfl)) ?_
  refine JQ.pur rfl rfl rfl (Pur.eqlT rfl rfl) ?_
  refine JQ.pur rfl rfl rfl (Pur.pickF rfl rfl) ?_
  refine JQ.pur rfl rfl rfl (Pur.move rfl) ?_
  refine JQ.setv (u' := .bool false) 101 rfl (congrArg Value.bool ((by decide))) ?_
  refine JQ.pur rfl rfl rfl (Pur.fieldAddr rfl) ?_
  refine JQ.pur rfl rfl rfl (Pur.load rfl (CellIn.blk rfl)) ?_
  refine JQ.pur rfl rfl rfl (Pur.eqlT rfl rfl) ?_
  refine JQ.pur rfl rfl rfl (Pur.pickF rfl rfl) ?_
  refine JQ.pur rfl rfl rfl (Pur.move rfl) ?_
  refine JQ.setv (u' := .bool false) 106 rfl (congrArg Value.bool ((by decide))) ?_
  refine JQ.pur rfl rfl rfl (Pur.fieldAddr rfl) ?_
  refine JQ.pur rfl rfl rfl (Pur.load rfl (CellIn.blk rfl)) ?_
  refine JQ.pur rfl rfl rfl (Pur.eqlT rfl rfl) ?_
  refine JQ.pur rfl rfl rfl (Pur.pickF rfl rfl) ?_
  refine JQ.pur rfl rfl rfl (Pur.move rfl) ?_
  refine JQ.setv (u' := .bool false) 111 rfl (congrArg Value.bool ((by decide))) ?_
  refine JQ.no rfl rfl rfl ?_
  refine JQ.no rfl rfl rfl ?_
  refine JQ.no rfl rfl rfl ?_
  refine JQ.no rfl rfl rfl ?_
  refine JQ.no rfl rfl rfl ?_
  refine JQ.no rfl rfl rfl ?_
  refine JQ.no rfl rfl rfl ?_
  refine JQ.no rfl rfl rfl ?_
  refine JQ.no rfl rfl rfl ?_
  refine JQ.no rfl rfl rfl ?_
  refine JQ.no rfl rfl rfl ?_
  refine JQ.pur rfl rfl rfl (Pur.pickF rfl rfl) ?_
  refine JQ.pur rfl rfl rfl (Pur.assign rfl) ?_
  refine JQ.nil ?_
  refine J.condF rfl rfl ?_
  refine J.skip rfl ?_
  refine J.inBlock ?_
  refine J.seq rfl ?_
  refine J.region rfl ?_
  refine JO.pur rfl rfl rfl (Pur.assign rfl) ?_
  refine JO.nil ?_
  refine J.ret rfl rfl ?_
  refine ⟨_, _, ⟨rfl, rfl⟩, ?_, SubC.out⟩
  refine congrArg Value.string ?_
  simp only [wrongS, yv, makesB, fromB, n_sDrop_sNew, n_sDrop_sShare, n_sDrop_sRaw, n_sDrop_sUse, n_sDrop_sFree, n_sDrop_sMove, n_sDrop_sCopy, n_sDrop_sBorrow, n_sDrop_sEither, n_sDrop_sOr, n_sDrop_sEnd, decide_true, decide_false, Bool.or_true, Bool.or_false, Bool.false_or, Bool.true_or, if_true, if_false, true_or, or_true, false_or, or_false, true_and, false_and, and_true, and_false, decide_eq_true_eq, Bool.false_eq_true, ite_true, ite_false, reduceCtorEq]
  (repeat' split) <;> (first | rfl | (exfalso; omega) | (exfalso; simp_all; done) | (exfalso; simp_all; omega))

set_option maxRecDepth 10000 in
theorem wrong_sMove {L : List Asn} {b : Nat} {aa ac af : Option Addr} {ca cc cf : Nat} {σ : Sx} {v w : Str} (g : Ow.Good σ) (hv : isVarB v = true) (hw : isVarB w = true) :
    CallS Try.prog 59 [.pointer (some ⟨b, 0, none⟩), .agg #[.string sMove, .string v, .string w]].toArray (blk b (arr vrE σ.vars [.slice aa σ.alive.length ca, .slice ac σ.count.length cc, .slice af (fz σ.freed).length cf] 66) :: sl boolE aa ca σ.alive :: sl intE ac cc σ.count :: sl intE af cf (fz σ.freed) :: L) (fun x M => x = .string (wrongS σ ⟨sMove, v, w⟩) ∧ M = blk b (arr vrE σ.vars [.slice aa σ.alive.length ca, .slice ac σ.count.length cc, .slice af (fz σ.freed).length cf] 66) :: sl boolE aa ca σ.alive :: sl intE ac cc σ.count :: sl intE af cf (fz σ.freed) :: L) := by
  have hv8 := g.v8
  have hlv : vi v < σ.vars.length := by have := vi_lt hv; omega
  have hly : (vi w) < σ.vars.length := by have := vi_lt hw; omega
  refine CallS.ent ?_
  refine CallS.enter Try.func59 rfl rfl rfl rfl rfl ?_
  refine J.seq rfl ?_
  refine J.region rfl ?_
  refine JO.eff rfl rfl rfl (Eff.box (cs := [_, _, _]) rfl rfl) ?_
  rintro _ _ ⟨b3, rfl, rfl⟩
  refine JO.pur rfl rfl rfl (Pur.assign rfl) ?_
  refine JO.nil ?_
  refine J.seq rfl ?_
  refine J.seq rfl ?_
  refine J.region rfl ?_
  refine JO.pur rfl rfl rfl (Pur.fieldAddr rfl) ?_
  refine JO.pur rfl rfl rfl (Pur.load rfl (CellIn.blk rfl)) ?_
  refine JO.effR rfl rfl rfl (Eff.call rfl ((CallS.eqv (v' := .bool false) (makes_ok sMove) (congrArg Value.bool (by decide))))) ?_
  refine JO.pur rfl rfl rfl (Pur.move rfl) ?_
  refine JO.setv (u' := .bool false) 13 rfl (congrArg Value.bool (rfl)) ?_
  refine JO.no rfl rfl rfl ?_
  refine JO.no rfl rfl rfl ?_
  refine JO.no rfl rfl rfl ?_
  refine JO.no rfl rfl rfl ?_
  refine JO.no rfl rfl rfl ?_
  refine JO.no rfl rfl rfl ?_
  refine JO.pur rfl rfl rfl (Pur.pickF rfl rfl) ?_
  refine JO.nil ?_
  refine J.condF rfl rfl ?_
  refine J.skip rfl ?_
  refine J.seq rfl ?_
  refine J.region rfl ?_
  refine JO.pur rfl rfl rfl (Pur.move rfl) ?_
  refine JO.pur rfl rfl rfl (Pur.fieldAddr rfl) ?_
  refine JO.pur rfl rfl rfl (Pur.load rfl (CellIn.blk rfl)) ?_
  refine JO.effR rfl rfl rfl (Eff.call rfl (at_ok v hv)) ?_
  refine JO.pur rfl rfl rfl (Pur.assign rfl) ?_
  refine JO.nil ?_
  refine J.seq rfl ?_
  refine J.region rfl ?_
  refine JO.pur rfl rfl rfl (Pur.move rfl) ?_
  refine JO.pur rfl rfl rfl (Pur.assign rfl) ?_
  refine JO.nil ?_
  refine J.seq rfl ?_
  refine J.region rfl ?_
  refine JO.pur rfl rfl rfl (Pur.fieldAddr rfl) ?_
  refine JO.pur rfl rfl rfl (Pur.load rfl (CellIn.blk rfl)) ?_
  refine JO.effR rfl rfl rfl (Eff.call rfl ((CallS.eqv (v' := .tuple #[.bool true, .bool true, .bool true]) (needs_ok sMove) (by rfl)))) ?_
  refine JO.pur rfl rfl rfl (Pur.move rfl) ?_
  refine JO.pur rfl rfl rfl (Pur.extract rfl rfl) ?_
  refine JO.pur rfl rfl rfl (Pur.extract rfl rfl) ?_
  refine JO.pur rfl rfl rfl (Pur.extract rfl rfl) ?_
  refine JO.pur rfl rfl rfl (Pur.assign rfl) ?_
  refine JO.pur rfl rfl rfl (Pur.assign rfl) ?_
  refine JO.pur rfl rfl rfl (Pur.assign rfl) ?_
  refine JO.nil ?_
  refine J.seq rfl ?_
  refine J.seq rfl ?_
  refine J.region rfl ?_
  refine JO.pur rfl rfl rfl (Pur.move rfl) ?_
  refine JO.nil ?_
  refine J.setv (u' := .bool true) 33 rfl (congrArg Value.bool (rfl)) ?_
  refine J.condT rfl rfl ?_
  refine J.region rfl ?_
  refine JO.pur rfl rfl rfl (Pur.move rfl) ?_
  refine JO.pur rfl rfl rfl (Pur.fieldAddr rfl) ?_
  refine JO.pur rfl rfl rfl (Pur.load rfl (CellIn.blk rfl)) ?_
  refine JO.effR rfl rfl rfl (Eff.call rfl (at_ok w hw)) ?_
  refine JO.pur rfl rfl rfl (Pur.assign rfl) ?_
  refine JO.nil ?_
  refine J.seq rfl ?_
  refine J.block rfl ?_
  refine J.seq rfl ?_
  refine J.region rfl ?_
  refine JO.pur rfl rfl rfl (Pur.fieldAddr rfl) ?_
  refine JO.pur rfl rfl rfl (Pur.load rfl (CellIn.blk rfl)) ?_
  refine JO.effR rfl rfl rfl (Eff.call rfl ((CallS.eqv (v' := .bool false) (makes_ok sMove) (congrArg Value.bool (by decide))))) ?_
  refine JO.pur rfl rfl rfl (Pur.move rfl) ?_
  refine JO.setv (u' := .bool false) 42 rfl (congrArg Value.bool (rfl)) ?_
  refine JO.pur rfl rfl rfl (Pur.move rfl) ?_
  refine JO.pur rfl rfl rfl (Pur.pickF rfl rfl) ?_
  refine JO.pur rfl rfl rfl (Pur.move rfl) ?_
  refine JO.setv (u' := .bool true) 45 rfl (congrArg Value.bool (rfl)) ?_
  refine JO.pur rfl rfl rfl (Pur.move rfl) ?_
  refine JO.pur rfl rfl rfl (Pur.nilCheck rfl) ?_
  refine JO.pur rfl rfl rfl (Pur.fieldAddr rfl) ?_
  refine JO.pur rfl rfl rfl (Pur.load rfl (CellIn.arr (E := vrE) rfl (vr_get hlv) rfl)) ?_
  refine JO.pur rfl rfl rfl (Pur.neqI rfl rfl) ?_
  refine JO.pur rfl rfl rfl (Pur.pickT rfl rfl) ?_
  refine JO.pur rfl rfl rfl (Pur.assign rfl) ?_
  refine JO.nil ?_
  refine J.splitB 38 rfl (fun h38 => ?_) (fun h38 => ?_)
  · try simp only [decide_eq_true_eq, decide_eq_false_iff_not, Bool.not_eq_true', Bool.not_eq_false', Bool.and_eq_true, Bool.or_eq_true, Bool.and_eq_false_iff, Bool.or_eq_false_iff, Option.isNone_some, Option.isSome_some, Option.isNone_none, Option.isSome_none, Int.not_lt, Int.not_le, beq_iff_eq, beq_eq_false_iff_ne, bne_iff_ne, ne_eq, Bool.not_not, Decidable.not_not] at h38
    refine J.condT rfl rfl ?_
    refine J.seq rfl ?_
    refine J.region rfl ?_
    refine JO.pur rfl rfl rfl (Pur.assign rfl) ?_
    refine JO.nil ?_
    refine J.ret rfl rfl ?_
    refine ⟨_, _, ⟨rfl, rfl⟩, ?_, SubC.out⟩
    refine congrArg Value.string ?_
    simp only [wrongS, yv, makesB, fromB, n_sMove_sNew, n_sMove_sShare, n_sMove_sRaw, n_sMove_sUse, n_sMove_sFree, n_sMove_sDrop, n_sMove_sCopy, n_sMove_sBorrow, n_sMove_sEither, n_sMove_sOr, n_sMove_sEnd, decide_true, decide_false, Bool.or_true, Bool.or_false, Bool.false_or, Bool.true_or, if_true, if_false, true_or, or_true, false_or, or_false, true_and, false_and, and_true, and_false, decide_eq_true_eq, Bool.false_eq_true, ite_true, ite_false, reduceCtorEq]
    (repeat' split) <;> (first | rfl | (exfalso; omega) | (exfalso; simp_all; done) | (exfalso; simp_all; omega))
  · try simp only [decide_eq_true_eq, decide_eq_false_iff_not, Bool.not_eq_true', Bool.not_eq_false', Bool.and_eq_true, Bool.or_eq_true, Bool.and_eq_false_iff, Bool.or_eq_false_iff, Option.isNone_some, Option.isSome_some, Option.isNone_none, Option.isSome_none, Int.not_lt, Int.not_le, beq_iff_eq, beq_eq_false_iff_ne, bne_iff_ne, ne_eq, Bool.not_not, Decidable.not_not] at h38
    refine J.condF rfl rfl ?_
    refine J.seq rfl ?_
    refine J.region rfl ?_
    refine JO.pur rfl rfl rfl (Pur.move rfl) ?_
    refine JO.pur rfl rfl rfl (Pur.move rfl) ?_
    refine JO.setv (u' := .bool true) 54 rfl (congrArg Value.bool (rfl)) ?_
    refine JO.no rfl rfl rfl ?_
    refine JO.no rfl rfl rfl ?_
    refine JO.no rfl rfl rfl ?_
    refine JO.pur rfl rfl rfl (Pur.pickT rfl rfl) ?_
    refine JO.pur rfl rfl rfl (Pur.move rfl) ?_
    refine JO.no rfl rfl rfl ?_
    refine JO.no rfl rfl rfl ?_
    refine JO.no rfl rfl rfl ?_
    refine JO.pur rfl rfl rfl (Pur.pickT rfl rfl) ?_
    refine JO.pur rfl rfl rfl (Pur.move rfl) ?_
    refine JO.pur rfl rfl rfl (Pur.move rfl) ?_
    refine JO.pur rfl rfl rfl (Pur.nilCheck rfl) ?_
    refine JO.pur rfl rfl rfl (Pur.fieldAddr rfl) ?_
    refine JO.pur rfl rfl rfl (Pur.load rfl (CellIn.arr (E := vrE) rfl (vr_get hly) rfl)) ?_
    refine JO.pur rfl rfl rfl (Pur.eqlI rfl rfl) ?_
    refine JO.pur rfl rfl rfl (Pur.pickT rfl rfl) ?_
    refine JO.pur rfl rfl rfl (Pur.assign rfl) ?_
    refine JO.nil ?_
    refine J.splitB 52 rfl (fun h52 => ?_) (fun h52 => ?_)
    · try simp only [decide_eq_true_eq, decide_eq_false_iff_not, Bool.not_eq_true', Bool.not_eq_false', Bool.and_eq_true, Bool.or_eq_true, Bool.and_eq_false_iff, Bool.or_eq_false_iff, Option.isNone_some, Option.isSome_some, Option.isNone_none, Option.isSome_none, Int.not_lt, Int.not_le, beq_iff_eq, beq_eq_false_iff_ne, bne_iff_ne, ne_eq, Bool.not_not, Decidable.not_not] at h52
      refine J.condT rfl rfl ?_
      refine J.seq rfl ?_
      refine J.region rfl ?_
      refine JO.pur rfl rfl rfl (Pur.assign rfl) ?_
      refine JO.nil ?_
      refine J.ret rfl rfl ?_
      refine ⟨_, _, ⟨rfl, rfl⟩, ?_, SubC.out⟩
      refine congrArg Value.string ?_
      simp only [wrongS, yv, makesB, fromB, n_sMove_sNew, n_sMove_sShare, n_sMove_sRaw, n_sMove_sUse, n_sMove_sFree, n_sMove_sDrop, n_sMove_sCopy, n_sMove_sBorrow, n_sMove_sEither, n_sMove_sOr, n_sMove_sEnd, decide_true, decide_false, Bool.or_true, Bool.or_false, Bool.false_or, Bool.true_or, if_true, if_false, true_or, or_true, false_or, or_false, true_and, false_and, and_true, and_false, decide_eq_true_eq, Bool.false_eq_true, ite_true, ite_false, reduceCtorEq]
      (repeat' split) <;> (first | rfl | (exfalso; omega) | (exfalso; simp_all; done) | (exfalso; simp_all; omega))
    · try simp only [decide_eq_true_eq, decide_eq_false_iff_not, Bool.not_eq_true', Bool.not_eq_false', Bool.and_eq_true, Bool.or_eq_true, Bool.and_eq_false_iff, Bool.or_eq_false_iff, Option.isNone_some, Option.isSome_some, Option.isNone_none, Option.isSome_none, Int.not_lt, Int.not_le, beq_iff_eq, beq_eq_false_iff_ne, bne_iff_ne, ne_eq, Bool.not_not, Decidable.not_not] at h52
      have hy0 : (vr σ (vi w)).m ≠ 0 := by omega
      have hyo : (vr σ (vi w)).o < σ.alive.length := (g.obj _ hy0).2
      refine J.condF rfl rfl ?_
      refine J.seq rfl ?_
      refine J.seq rfl ?_
      refine J.region rfl ?_
      refine JO.pur rfl rfl rfl (Pur.fieldAddr rfl) ?_
      refine JO.pur rfl rfl rfl (Pur.load rfl (CellIn.blk rfl)) ?_
      refine JO.pur rfl rfl rfl (Pur.eqlT rfl rfl) ?_
      refine JO.pur rfl rfl rfl (Pur.move rfl) ?_
      refine JO.setv (u' := .bool false) 75 rfl (congrArg Value.bool ((by decide))) ?_
      refine JO.no rfl rfl rfl ?_
      refine JO.no rfl rfl rfl ?_
      refine JO.no rfl rfl rfl ?_
      refine JO.no rfl rfl rfl ?_
      refine JO.no rfl rfl rfl ?_
      refine JO.pur rfl rfl rfl (Pur.pickF rfl rfl) ?_
      refine JO.pur rfl rfl rfl (Pur.assign rfl) ?_
      refine JO.nil ?_
      refine J.condF rfl rfl ?_
      refine J.region rfl ?_
      refine JO.pur rfl rfl rfl (Pur.fieldAddr rfl) ?_
      refine JO.pur rfl rfl rfl (Pur.load rfl (CellIn.blk rfl)) ?_
      refine JO.pur rfl rfl rfl (Pur.eqlT rfl rfl) ?_
      refine JO.pur rfl rfl rfl (Pur.move rfl) ?_
      refine JO.setv (u' := .bool false) 85 rfl (congrArg Value.bool ((by decide))) ?_
      refine JO.no rfl rfl rfl ?_
      refine JO.no rfl rfl rfl ?_
      refine JO.no rfl rfl rfl ?_
      refine JO.no rfl rfl rfl ?_
      refine JO.no rfl rfl rfl ?_
      refine JO.pur rfl rfl rfl (Pur.pickF rfl rfl) ?_
      refine JO.pur rfl rfl rfl (Pur.assign rfl) ?_
      refine JO.nil ?_
      refine J.condF rfl rfl ?_
      refine J.seq rfl ?_
      refine J.quiet rfl Try.mixed (by kernel_rfl) ?_
      refine JQ.pur rfl rfl rfl (Pur.fieldAddr rfl) ?_
      refine JQ.pur rfl rfl rfl (Pur.load rfl (CellIn.blk rfl)) ?_
      refine JQ.pur rfl rfl rfl (Pur.eqlT rfl rfl) ?_
      refine JQ.pur rfl rfl rfl (Pur.move rfl) ?_
      refine JQ.setv (u' := .bool false) 96 rfl (congrArg Value.bool ((by decide))) ?_
      refine JQ.pur rfl rfl rfl (Pur.fieldAddr rfl) ?_
      refine JQ.pur rfl rfl rfl (Pur.load rfl (CellIn.blk rfl)) ?_
      refine JQ.pur rfl rfl rfl (Pur.eqlT rfl rfl) ?_
      refine JQ.pur rfl rfl rfl (Pur.pickF rfl rfl) ?_
      refine JQ.pur rfl rfl rfl (Pur.move rfl) ?_
      refine JQ.setv (u' := .bool false) 101 rfl (congrArg Value.bool ((by decide))) ?_
      refine JQ.pur rfl rfl rfl (Pur.fieldAddr rfl) ?_
      refine JQ.pur rfl rfl rfl (Pur.load rfl (CellIn.blk rfl)) ?_
      refine JQ.pur rfl rfl rfl (Pur.eqlT rfl rfl) ?_
      refine JQ.pur rfl rfl rfl (Pur.pickF rfl rfl) ?_
      refine JQ.pur rfl rfl rfl (Pur.move rfl) ?_
      refine JQ.setv (u' := .bool false) 106 rfl (congrArg Value.bool ((by decide))) ?_
      refine JQ.pur rfl rfl rfl (Pur.fieldAddr rfl) ?_
      refine JQ.pur rfl rfl rfl (Pur.load rfl (CellIn.blk rfl)) ?_
      refine JQ.pur rfl rfl rfl (Pur.eqlT rfl rfl) ?_
      refine JQ.pur rfl rfl rfl (Pur.pickF rfl rfl) ?_
      refine JQ.pur rfl rfl rfl (Pur.move rfl) ?_
      refine JQ.setv (u' := .bool false) 111 rfl (congrArg Value.bool ((by decide))) ?_
      refine JQ.no rfl rfl rfl ?_
      refine JQ.no rfl rfl rfl ?_
      refine JQ.no rfl rfl rfl ?_
      refine JQ.no rfl rfl rfl ?_
      refine JQ.no rfl rfl rfl ?_
      refine JQ.no rfl rfl rfl ?_
      refine JQ.no rfl rfl rfl ?_
      refine JQ.no rfl rfl rfl ?_
      refine JQ.no rfl rfl rfl ?_
      refine JQ.no rfl rfl rfl ?_
      refine JQ.no rfl rfl rfl ?_
      refine JQ.pur rfl rfl rfl (Pur.pickF rfl rfl) ?_
      refine JQ.pur rfl rfl rfl (Pur.assign rfl) ?_
      refine JQ.nil ?_
      refine J.condF rfl rfl ?_
      refine J.skip rfl ?_
      refine J.inBlock ?_
      refine J.seq rfl ?_
      refine J.region rfl ?_
      refine JO.pur rfl rfl rfl (Pur.assign rfl) ?_
      refine JO.nil ?_
      refine J.ret rfl rfl ?_
      refine ⟨_, _, ⟨rfl, rfl⟩, ?_, SubC.out⟩
      refine congrArg Value.string ?_
      simp only [wrongS, yv, makesB, fromB, n_sMove_sNew, n_sMove_sShare, n_sMove_sRaw, n_sMove_sUse, n_sMove_sFree, n_sMove_sDrop, n_sMove_sCopy, n_sMove_sBorrow, n_sMove_sEither, n_sMove_sOr, n_sMove_sEnd, decide_true, decide_false, Bool.or_true, Bool.or_false, Bool.false_or, Bool.true_or, if_true, if_false, true_or, or_true, false_or, or_false, true_and, false_and, and_true, and_false, decide_eq_true_eq, Bool.false_eq_true, ite_true, ite_false, reduceCtorEq]
      (repeat' split) <;> (first | rfl | (exfalso; omega) | (exfalso; simp_all; done) | (exfalso; simp_all; omega))

set_option maxRecDepth 10000 in
theorem wrong_sCopy {L : List Asn} {b : Nat} {aa ac af : Option Addr} {ca cc cf : Nat} {σ : Sx} {v w : Str} (g : Ow.Good σ) (hv : isVarB v = true) (hw : isVarB w = true) :
    CallS Try.prog 59 [.pointer (some ⟨b, 0, none⟩), .agg #[.string sCopy, .string v, .string w]].toArray (blk b (arr vrE σ.vars [.slice aa σ.alive.length ca, .slice ac σ.count.length cc, .slice af (fz σ.freed).length cf] 66) :: sl boolE aa ca σ.alive :: sl intE ac cc σ.count :: sl intE af cf (fz σ.freed) :: L) (fun x M => x = .string (wrongS σ ⟨sCopy, v, w⟩) ∧ M = blk b (arr vrE σ.vars [.slice aa σ.alive.length ca, .slice ac σ.count.length cc, .slice af (fz σ.freed).length cf] 66) :: sl boolE aa ca σ.alive :: sl intE ac cc σ.count :: sl intE af cf (fz σ.freed) :: L) := by
  have hv8 := g.v8
  have hlv : vi v < σ.vars.length := by have := vi_lt hv; omega
  have hly : (vi w) < σ.vars.length := by have := vi_lt hw; omega
  refine CallS.ent ?_
  refine CallS.enter Try.func59 rfl rfl rfl rfl rfl ?_
  refine J.seq rfl ?_
  refine J.region rfl ?_
  refine JO.eff rfl rfl rfl (Eff.box (cs := [_, _, _]) rfl rfl) ?_
  rintro _ _ ⟨b3, rfl, rfl⟩
  refine JO.pur rfl rfl rfl (Pur.assign rfl) ?_
  refine JO.nil ?_
  refine J.seq rfl ?_
  refine J.seq rfl ?_
  refine J.region rfl ?_
  refine JO.pur rfl rfl rfl (Pur.fieldAddr rfl) ?_
  refine JO.pur rfl rfl rfl (Pur.load rfl (CellIn.blk rfl)) ?_
  refine JO.effR rfl rfl rfl (Eff.call rfl ((CallS.eqv (v' := .bool false) (makes_ok sCopy) (congrArg Value.bool (by decide))))) ?_
  refine JO.pur rfl rfl rfl (Pur.move rfl) ?_
  refine JO.setv (u' := .bool false) 13 rfl (congrArg Value.bool (rfl)) ?_
  refine JO.no rfl rfl rfl ?_
  refine JO.no rfl rfl rfl ?_
  refine JO.no rfl rfl rfl ?_
  refine JO.no rfl rfl rfl ?_
  refine JO.no rfl rfl rfl ?_
  refine JO.no rfl rfl rfl ?_
  refine JO.pur rfl rfl rfl (Pur.pickF rfl rfl) ?_
  refine JO.nil ?_
  refine J.condF rfl rfl ?_
  refine J.skip rfl ?_
  refine J.seq rfl ?_
  refine J.region rfl ?_
  refine JO.pur rfl rfl rfl (Pur.move rfl) ?_
  refine JO.pur rfl rfl rfl (Pur.fieldAddr rfl) ?_
  refine JO.pur rfl rfl rfl (Pur.load rfl (CellIn.blk rfl)) ?_
  refine JO.effR rfl rfl rfl (Eff.call rfl (at_ok v hv)) ?_
  refine JO.pur rfl rfl rfl (Pur.assign rfl) ?_
  refine JO.nil ?_
  refine J.seq rfl ?_
  refine J.region rfl ?_
  refine JO.pur rfl rfl rfl (Pur.move rfl) ?_
  refine JO.pur rfl rfl rfl (Pur.assign rfl) ?_
  refine JO.nil ?_
  refine J.seq rfl ?_
  refine J.region rfl ?_
  refine JO.pur rfl rfl rfl (Pur.fieldAddr rfl) ?_
  refine JO.pur rfl rfl rfl (Pur.load rfl (CellIn.blk rfl)) ?_
  refine JO.effR rfl rfl rfl (Eff.call rfl ((CallS.eqv (v' := .tuple #[.bool true, .bool true, .bool true]) (needs_ok sCopy) (by rfl)))) ?_
  refine JO.pur rfl rfl rfl (Pur.move rfl) ?_
  refine JO.pur rfl rfl rfl (Pur.extract rfl rfl) ?_
  refine JO.pur rfl rfl rfl (Pur.extract rfl rfl) ?_
  refine JO.pur rfl rfl rfl (Pur.extract rfl rfl) ?_
  refine JO.pur rfl rfl rfl (Pur.assign rfl) ?_
  refine JO.pur rfl rfl rfl (Pur.assign rfl) ?_
  refine JO.pur rfl rfl rfl (Pur.assign rfl) ?_
  refine JO.nil ?_
  refine J.seq rfl ?_
  refine J.seq rfl ?_
  refine J.region rfl ?_
  refine JO.pur rfl rfl rfl (Pur.move rfl) ?_
  refine JO.nil ?_
  refine J.setv (u' := .bool true) 33 rfl (congrArg Value.bool (rfl)) ?_
  refine J.condT rfl rfl ?_
  refine J.region rfl ?_
  refine JO.pur rfl rfl rfl (Pur.move rfl) ?_
  refine JO.pur rfl rfl rfl (Pur.fieldAddr rfl) ?_
  refine JO.pur rfl rfl rfl (Pur.load rfl (CellIn.blk rfl)) ?_
  refine JO.effR rfl rfl rfl (Eff.call rfl (at_ok w hw)) ?_
  refine JO.pur rfl rfl rfl (Pur.assign rfl) ?_
  refine JO.nil ?_
  refine J.seq rfl ?_
  refine J.block rfl ?_
  refine J.seq rfl ?_
  refine J.region rfl ?_
  refine JO.pur rfl rfl rfl (Pur.fieldAddr rfl) ?_
  refine JO.pur rfl rfl rfl (Pur.load rfl (CellIn.blk rfl)) ?_
  refine JO.effR rfl rfl rfl (Eff.call rfl ((CallS.eqv (v' := .bool false) (makes_ok sCopy) (congrArg Value.bool (by decide))))) ?_
  refine JO.pur rfl rfl rfl (Pur.move rfl) ?_
  refine JO.setv (u' := .bool false) 42 rfl (congrArg Value.bool (rfl)) ?_
  refine JO.pur rfl rfl rfl (Pur.move rfl) ?_
  refine JO.pur rfl rfl rfl (Pur.pickF rfl rfl) ?_
  refine JO.pur rfl rfl rfl (Pur.move rfl) ?_
  refine JO.setv (u' := .bool true) 45 rfl (congrArg Value.bool (rfl)) ?_
  refine JO.pur rfl rfl rfl (Pur.move rfl) ?_
  refine JO.pur rfl rfl rfl (Pur.nilCheck rfl) ?_
  refine JO.pur rfl rfl rfl (Pur.fieldAddr rfl) ?_
  refine JO.pur rfl rfl rfl (Pur.load rfl (CellIn.arr (E := vrE) rfl (vr_get hlv) rfl)) ?_
  refine JO.pur rfl rfl rfl (Pur.neqI rfl rfl) ?_
  refine JO.pur rfl rfl rfl (Pur.pickT rfl rfl) ?_
  refine JO.pur rfl rfl rfl (Pur.assign rfl) ?_
  refine JO.nil ?_
  refine J.splitB 38 rfl (fun h38 => ?_) (fun h38 => ?_)
  · try simp only [decide_eq_true_eq, decide_eq_false_iff_not, Bool.not_eq_true', Bool.not_eq_false', Bool.and_eq_true, Bool.or_eq_true, Bool.and_eq_false_iff, Bool.or_eq_false_iff, Option.isNone_some, Option.isSome_some, Option.isNone_none, Option.isSome_none, Int.not_lt, Int.not_le, beq_iff_eq, beq_eq_false_iff_ne, bne_iff_ne, ne_eq, Bool.not_not, Decidable.not_not] at h38
    refine J.condT rfl rfl ?_
    refine J.seq rfl ?_
    refine J.region rfl ?_
    refine JO.pur rfl rfl rfl (Pur.assign rfl) ?_
    refine JO.nil ?_
    refine J.ret rfl rfl ?_
    refine ⟨_, _, ⟨rfl, rfl⟩, ?_, SubC.out⟩
    refine congrArg Value.string ?_
    simp only [wrongS, yv, makesB, fromB, n_sCopy_sNew, n_sCopy_sShare, n_sCopy_sRaw, n_sCopy_sUse, n_sCopy_sFree, n_sCopy_sDrop, n_sCopy_sMove, n_sCopy_sBorrow, n_sCopy_sEither, n_sCopy_sOr, n_sCopy_sEnd, decide_true, decide_false, Bool.or_true, Bool.or_false, Bool.false_or, Bool.true_or, if_true, if_false, true_or, or_true, false_or, or_false, true_and, false_and, and_true, and_false, decide_eq_true_eq, Bool.false_eq_true, ite_true, ite_false, reduceCtorEq]
    (repeat' split) <;> (first | rfl | (exfalso; omega) | (exfalso; simp_all; done) | (exfalso; simp_all; omega))
  · try simp only [decide_eq_true_eq, decide_eq_false_iff_not, Bool.not_eq_true', Bool.not_eq_false', Bool.and_eq_true, Bool.or_eq_true, Bool.and_eq_false_iff, Bool.or_eq_false_iff, Option.isNone_some, Option.isSome_some, Option.isNone_none, Option.isSome_none, Int.not_lt, Int.not_le, beq_iff_eq, beq_eq_false_iff_ne, bne_iff_ne, ne_eq, Bool.not_not, Decidable.not_not] at h38
    refine J.condF rfl rfl ?_
    refine J.seq rfl ?_
    refine J.region rfl ?_
    refine JO.pur rfl rfl rfl (Pur.move rfl) ?_
    refine JO.pur rfl rfl rfl (Pur.move rfl) ?_
    refine JO.setv (u' := .bool true) 54 rfl (congrArg Value.bool (rfl)) ?_
    refine JO.no rfl rfl rfl ?_
    refine JO.no rfl rfl rfl ?_
    refine JO.no rfl rfl rfl ?_
    refine JO.pur rfl rfl rfl (Pur.pickT rfl rfl) ?_
    refine JO.pur rfl rfl rfl (Pur.move rfl) ?_
    refine JO.no rfl rfl rfl ?_
    refine JO.no rfl rfl rfl ?_
    refine JO.no rfl rfl rfl ?_
    refine JO.pur rfl rfl rfl (Pur.pickT rfl rfl) ?_
    refine JO.pur rfl rfl rfl (Pur.move rfl) ?_
    refine JO.pur rfl rfl rfl (Pur.move rfl) ?_
    refine JO.pur rfl rfl rfl (Pur.nilCheck rfl) ?_
    refine JO.pur rfl rfl rfl (Pur.fieldAddr rfl) ?_
    refine JO.pur rfl rfl rfl (Pur.load rfl (CellIn.arr (E := vrE) rfl (vr_get hly) rfl)) ?_
    refine JO.pur rfl rfl rfl (Pur.eqlI rfl rfl) ?_
    refine JO.pur rfl rfl rfl (Pur.pickT rfl rfl) ?_
    refine JO.pur rfl rfl rfl (Pur.assign rfl) ?_
    refine JO.nil ?_
    refine J.splitB 52 rfl (fun h52 => ?_) (fun h52 => ?_)
    · try simp only [decide_eq_true_eq, decide_eq_false_iff_not, Bool.not_eq_true', Bool.not_eq_false', Bool.and_eq_true, Bool.or_eq_true, Bool.and_eq_false_iff, Bool.or_eq_false_iff, Option.isNone_some, Option.isSome_some, Option.isNone_none, Option.isSome_none, Int.not_lt, Int.not_le, beq_iff_eq, beq_eq_false_iff_ne, bne_iff_ne, ne_eq, Bool.not_not, Decidable.not_not] at h52
      refine J.condT rfl rfl ?_
      refine J.seq rfl ?_
      refine J.region rfl ?_
      refine JO.pur rfl rfl rfl (Pur.assign rfl) ?_
      refine JO.nil ?_
      refine J.ret rfl rfl ?_
      refine ⟨_, _, ⟨rfl, rfl⟩, ?_, SubC.out⟩
      refine congrArg Value.string ?_
      simp only [wrongS, yv, makesB, fromB, n_sCopy_sNew, n_sCopy_sShare, n_sCopy_sRaw, n_sCopy_sUse, n_sCopy_sFree, n_sCopy_sDrop, n_sCopy_sMove, n_sCopy_sBorrow, n_sCopy_sEither, n_sCopy_sOr, n_sCopy_sEnd, decide_true, decide_false, Bool.or_true, Bool.or_false, Bool.false_or, Bool.true_or, if_true, if_false, true_or, or_true, false_or, or_false, true_and, false_and, and_true, and_false, decide_eq_true_eq, Bool.false_eq_true, ite_true, ite_false, reduceCtorEq]
      (repeat' split) <;> (first | rfl | (exfalso; omega) | (exfalso; simp_all; done) | (exfalso; simp_all; omega))
    · try simp only [decide_eq_true_eq, decide_eq_false_iff_not, Bool.not_eq_true', Bool.not_eq_false', Bool.and_eq_true, Bool.or_eq_true, Bool.and_eq_false_iff, Bool.or_eq_false_iff, Option.isNone_some, Option.isSome_some, Option.isNone_none, Option.isSome_none, Int.not_lt, Int.not_le, beq_iff_eq, beq_eq_false_iff_ne, bne_iff_ne, ne_eq, Bool.not_not, Decidable.not_not] at h52
      have hy0 : (vr σ (vi w)).m ≠ 0 := by omega
      have hyo : (vr σ (vi w)).o < σ.alive.length := (g.obj _ hy0).2
      refine J.condF rfl rfl ?_
      refine J.seq rfl ?_
      refine J.seq rfl ?_
      refine J.region rfl ?_
      refine JO.pur rfl rfl rfl (Pur.fieldAddr rfl) ?_
      refine JO.pur rfl rfl rfl (Pur.load rfl (CellIn.blk rfl)) ?_
      refine JO.pur rfl rfl rfl (Pur.eqlT rfl rfl) ?_
      refine JO.pur rfl rfl rfl (Pur.move rfl) ?_
      refine JO.setv (u' := .bool true) 75 rfl (congrArg Value.bool ((by decide))) ?_
      refine JO.pur rfl rfl rfl (Pur.move rfl) ?_
      refine JO.pur rfl rfl rfl (Pur.nilCheck rfl) ?_
      refine JO.pur rfl rfl rfl (Pur.fieldAddr rfl) ?_
      refine JO.pur rfl rfl rfl (Pur.load rfl (CellIn.arr (E := vrE) rfl (vr_get hly) rfl)) ?_
      refine JO.pur rfl rfl rfl (Pur.eqlI rfl rfl) ?_
      refine JO.pur rfl rfl rfl (Pur.pickT rfl rfl) ?_
      refine JO.pur rfl rfl rfl (Pur.assign rfl) ?_
      refine JO.nil ?_
      refine J.splitB 71 rfl (fun h71 => ?_) (fun h71 => ?_)
      · try simp only [decide_eq_true_eq, decide_eq_false_iff_not, Bool.not_eq_true', Bool.not_eq_false', Bool.and_eq_true, Bool.or_eq_true, Bool.and_eq_false_iff, Bool.or_eq_false_iff, Option.isNone_some, Option.isSome_some, Option.isNone_none, Option.isSome_none, Int.not_lt, Int.not_le, beq_iff_eq, beq_eq_false_iff_ne, bne_iff_ne, ne_eq, Bool.not_not, Decidable.not_not] at h71
        refine J.condT rfl rfl ?_
        refine J.skip rfl ?_
        refine J.condT rfl rfl ?_
        refine J.seq rfl ?_
        refine J.region rfl ?_
        refine JO.pur rfl rfl rfl (Pur.assign rfl) ?_
        refine JO.nil ?_
        refine J.ret rfl rfl ?_
        refine ⟨_, _, ⟨rfl, rfl⟩, ?_, SubC.out⟩
        refine congrArg Value.string ?_
        simp only [wrongS, yv, makesB, fromB, n_sCopy_sNew, n_sCopy_sShare, n_sCopy_sRaw, n_sCopy_sUse, n_sCopy_sFree, n_sCopy_sDrop, n_sCopy_sMove, n_sCopy_sBorrow, n_sCopy_sEither, n_sCopy_sOr, n_sCopy_sEnd, decide_true, decide_false, Bool.or_true, Bool.or_false, Bool.false_or, Bool.true_or, if_true, if_false, true_or, or_true, false_or, or_false, true_and, false_and, and_true, and_false, decide_eq_true_eq, Bool.false_eq_true, ite_true, ite_false, reduceCtorEq]
        (repeat' split) <;> (first | rfl | (exfalso; omega) | (exfalso; simp_all; done) | (exfalso; simp_all; omega))
      · try simp only [decide_eq_true_eq, decide_eq_false_iff_not, Bool.not_eq_true', Bool.not_eq_false', Bool.and_eq_true, Bool.or_eq_true, Bool.and_eq_false_iff, Bool.or_eq_false_iff, Option.isNone_some, Option.isSome_some, Option.isNone_none, Option.isSome_none, Int.not_lt, Int.not_le, beq_iff_eq, beq_eq_false_iff_ne, bne_iff_ne, ne_eq, Bool.not_not, Decidable.not_not] at h71
        refine J.condF rfl rfl ?_
        refine J.region rfl ?_
        refine JO.pur rfl rfl rfl (Pur.fieldAddr rfl) ?_
        refine JO.pur rfl rfl rfl (Pur.load rfl (CellIn.blk rfl)) ?_
        refine JO.pur rfl rfl rfl (Pur.eqlT rfl rfl) ?_
        refine JO.pur rfl rfl rfl (Pur.move rfl) ?_
        refine JO.setv (u' := .bool false) 85 rfl (congrArg Value.bool ((by decide))) ?_
        refine JO.no rfl rfl rfl ?_
        refine JO.no rfl rfl rfl ?_
        refine JO.no rfl rfl rfl ?_
        refine JO.no rfl rfl rfl ?_
        refine JO.no rfl rfl rfl ?_
        refine JO.pur rfl rfl rfl (Pur.pickF rfl rfl) ?_
        refine JO.pur rfl rfl rfl (Pur.assign rfl) ?_
        refine JO.nil ?_
        refine J.condF rfl rfl ?_
        refine J.seq rfl ?_
        refine J.quiet rfl Try.mixed (by kernel_rfl) ?_
        refine JQ.pur rfl rfl rfl (Pur.fieldAddr rfl) ?_
        refine JQ.pur rfl rfl rfl (Pur.load rfl (CellIn.blk rfl)) ?_
        refine JQ.pur rfl rfl rfl (Pur.eqlT rfl rfl) ?_
        refine JQ.pur rfl rfl rfl (Pur.move rfl) ?_
        refine JQ.setv (u' := .bool false) 96 rfl (congrArg Value.bool ((by decide))) ?_
        refine JQ.pur rfl rfl rfl (Pur.fieldAddr rfl) ?_
        refine JQ.pur rfl rfl rfl (Pur.load rfl (CellIn.blk rfl)) ?_
        refine JQ.pur rfl rfl rfl (Pur.eqlT rfl rfl) ?_
        refine JQ.pur rfl rfl rfl (Pur.pickF rfl rfl) ?_
        refine JQ.pur rfl rfl rfl (Pur.move rfl) ?_
        refine JQ.setv (u' := .bool false) 101 rfl (congrArg Value.bool ((by decide))) ?_
        refine JQ.pur rfl rfl rfl (Pur.fieldAddr rfl) ?_
        refine JQ.pur rfl rfl rfl (Pur.load rfl (CellIn.blk rfl)) ?_
        refine JQ.pur rfl rfl rfl (Pur.eqlT rfl rfl) ?_
        refine JQ.pur rfl rfl rfl (Pur.pickF rfl rfl) ?_
        refine JQ.pur rfl rfl rfl (Pur.move rfl) ?_
        refine JQ.setv (u' := .bool true) 106 rfl (congrArg Value.bool ((by decide))) ?_
        refine JQ.no rfl rfl rfl ?_
        refine JQ.no rfl rfl rfl ?_
        refine JQ.no rfl rfl rfl ?_
        refine JQ.pur rfl rfl rfl (Pur.pickT rfl rfl) ?_
        refine JQ.pur rfl rfl rfl (Pur.move rfl) ?_
        refine JQ.pur rfl rfl rfl (Pur.move rfl) ?_
        refine JQ.pur rfl rfl rfl (Pur.nilCheck rfl) ?_
        refine JQ.pur rfl rfl rfl (Pur.fieldAddr rfl) ?_
        refine JQ.pur rfl rfl rfl (Pur.load rfl (CellIn.arrT (n := 16) (k := 0) (by rw [hv8]; rfl) rfl)) ?_
        refine JQ.pur rfl rfl rfl (Pur.move rfl) ?_
        refine JQ.pur rfl rfl rfl (Pur.nilCheck rfl) ?_
        refine JQ.pur rfl rfl rfl (Pur.fieldAddr rfl) ?_
        refine JQ.pur rfl rfl rfl (Pur.load rfl (CellIn.arr (E := vrE) rfl (vr_get hly) rfl)) ?_
        refine JQ.pur rfl rfl rfl (Pur.idx rfl rfl rfl (by first | rfl | (simp; done) | omega) rfl hyo) ?_
        refine JQ.pur rfl rfl rfl (Pur.load rfl (CellIn.el0 rfl (getD_get (d := false) hyo) rfl)) ?_
        refine JQ.pur rfl rfl rfl (Pur.not rfl) ?_
        refine JQ.pur rfl rfl rfl (Pur.pickT rfl rfl) ?_
        refine JQ.pur rfl rfl rfl (Pur.assign rfl) ?_
        refine JQ.nil ?_
        refine J.splitB 92 rfl (fun h92 => ?_) (fun h92 => ?_)
        · try simp only [decide_eq_true_eq, decide_eq_false_iff_not, Bool.not_eq_true', Bool.not_eq_false', Bool.and_eq_true, Bool.or_eq_true, Bool.and_eq_false_iff, Bool.or_eq_false_iff, Option.isNone_some, Option.isSome_some, Option.isNone_none, Option.isSome_none, Int.not_lt, Int.not_le, beq_iff_eq, beq_eq_false_iff_ne, bne_iff_ne, ne_eq, Bool.not_not, Decidable.not_not] at h92
          refine J.condT rfl rfl ?_
          refine J.seq rfl ?_
          refine J.region rfl ?_
          refine JO.pur rfl rfl rfl (Pur.assign rfl) ?_
          refine JO.nil ?_
          refine J.ret rfl rfl ?_
          refine ⟨_, _, ⟨rfl, rfl⟩, ?_, SubC.out⟩
          refine congrArg Value.string ?_
          simp only [wrongS, yv, makesB, fromB, n_sCopy_sNew, n_sCopy_sShare, n_sCopy_sRaw, n_sCopy_sUse, n_sCopy_sFree, n_sCopy_sDrop, n_sCopy_sMove, n_sCopy_sBorrow, n_sCopy_sEither, n_sCopy_sOr, n_sCopy_sEnd, decide_true, decide_false, Bool.or_true, Bool.or_false, Bool.false_or, Bool.true_or, if_true, if_false, true_or, or_true, false_or, or_false, true_and, false_and, and_true, and_false, decide_eq_true_eq, Bool.false_eq_true, ite_true, ite_false, reduceCtorEq]
          (repeat' split) <;> (first | rfl | (exfalso; omega) | (exfalso; simp_all; done) | (exfalso; simp_all; omega))
        · try simp only [decide_eq_true_eq, decide_eq_false_iff_not, Bool.not_eq_true', Bool.not_eq_false', Bool.and_eq_true, Bool.or_eq_true, Bool.and_eq_false_iff, Bool.or_eq_false_iff, Option.isNone_some, Option.isSome_some, Option.isNone_none, Option.isSome_none, Int.not_lt, Int.not_le, beq_iff_eq, beq_eq_false_iff_ne, bne_iff_ne, ne_eq, Bool.not_not, Decidable.not_not] at h92
          refine J.condF rfl rfl ?_
          refine J.skip rfl ?_
          refine J.inBlock ?_
          refine J.seq rfl ?_
          refine J.region rfl ?_
          refine JO.pur rfl rfl rfl (Pur.assign rfl) ?_
          refine JO.nil ?_
          refine J.ret rfl rfl ?_
          refine ⟨_, _, ⟨rfl, rfl⟩, ?_, SubC.out⟩
          refine congrArg Value.string ?_
          simp only [wrongS, yv, makesB, fromB, n_sCopy_sNew, n_sCopy_sShare, n_sCopy_sRaw, n_sCopy_sUse, n_sCopy_sFree, n_sCopy_sDrop, n_sCopy_sMove, n_sCopy_sBorrow, n_sCopy_sEither, n_sCopy_sOr, n_sCopy_sEnd, decide_true, decide_false, Bool.or_true, Bool.or_false, Bool.false_or, Bool.true_or, if_true, if_false, true_or, or_true, false_or, or_false, true_and, false_and, and_true, and_false, decide_eq_true_eq, Bool.false_eq_true, ite_true, ite_false, reduceCtorEq]
          (repeat' split) <;> (first | rfl | (exfalso; omega) | (exfalso; simp_all; done) | (exfalso; simp_all; omega))

set_option maxRecDepth 10000 in
theorem wrong_sBorrow {L : List Asn} {b : Nat} {aa ac af : Option Addr} {ca cc cf : Nat} {σ : Sx} {v w : Str} (g : Ow.Good σ) (hv : isVarB v = true) (hw : isVarB w = true) :
    CallS Try.prog 59 [.pointer (some ⟨b, 0, none⟩), .agg #[.string sBorrow, .string v, .string w]].toArray (blk b (arr vrE σ.vars [.slice aa σ.alive.length ca, .slice ac σ.count.length cc, .slice af (fz σ.freed).length cf] 66) :: sl boolE aa ca σ.alive :: sl intE ac cc σ.count :: sl intE af cf (fz σ.freed) :: L) (fun x M => x = .string (wrongS σ ⟨sBorrow, v, w⟩) ∧ M = blk b (arr vrE σ.vars [.slice aa σ.alive.length ca, .slice ac σ.count.length cc, .slice af (fz σ.freed).length cf] 66) :: sl boolE aa ca σ.alive :: sl intE ac cc σ.count :: sl intE af cf (fz σ.freed) :: L) := by
  have hv8 := g.v8
  have hlv : vi v < σ.vars.length := by have := vi_lt hv; omega
  have hly : (vi w) < σ.vars.length := by have := vi_lt hw; omega
  refine CallS.ent ?_
  refine CallS.enter Try.func59 rfl rfl rfl rfl rfl ?_
  refine J.seq rfl ?_
  refine J.region rfl ?_
  refine JO.eff rfl rfl rfl (Eff.box (cs := [_, _, _]) rfl rfl) ?_
  rintro _ _ ⟨b3, rfl, rfl⟩
  refine JO.pur rfl rfl rfl (Pur.assign rfl) ?_
  refine JO.nil ?_
  refine J.seq rfl ?_
  refine J.seq rfl ?_
  refine J.region rfl ?_
  refine JO.pur rfl rfl rfl (Pur.fieldAddr rfl) ?_
  refine JO.pur rfl rfl rfl (Pur.load rfl (CellIn.blk rfl)) ?_
  refine JO.effR rfl rfl rfl (Eff.call rfl ((CallS.eqv (v' := .bool false) (makes_ok sBorrow) (congrArg Value.bool (by decide))))) ?_
  refine JO.pur rfl rfl rfl (Pur.move rfl) ?_
  refine JO.setv (u' := .bool false) 13 rfl (congrArg Value.bool (rfl)) ?_
  refine JO.no rfl rfl rfl ?_
  refine JO.no rfl rfl rfl ?_
  refine JO.no rfl rfl rfl ?_
  refine JO.no rfl rfl rfl ?_
  refine JO.no rfl rfl rfl ?_
  refine JO.no rfl rfl rfl ?_
  refine JO.pur rfl rfl rfl (Pur.pickF rfl rfl) ?_
  refine JO.nil ?_
  refine J.condF rfl rfl ?_
  refine J.skip rfl ?_
  refine J.seq rfl ?_
  refine J.region rfl ?_
  refine JO.pur rfl rfl rfl (Pur.move rfl) ?_
  refine JO.pur rfl rfl rfl (Pur.fieldAddr rfl) ?_
  refine JO.pur rfl rfl rfl (Pur.load rfl (CellIn.blk rfl)) ?_
  refine JO.effR rfl rfl rfl (Eff.call rfl (at_ok v hv)) ?_
  refine JO.pur rfl rfl rfl (Pur.assign rfl) ?_
  refine JO.nil ?_
  refine J.seq rfl ?_
  refine J.region rfl ?_
  refine JO.pur rfl rfl rfl (Pur.move rfl) ?_
  refine JO.pur rfl rfl rfl (Pur.assign rfl) ?_
  refine JO.nil ?_
  refine J.seq rfl ?_
  refine J.region rfl ?_
  refine JO.pur rfl rfl rfl (Pur.fieldAddr rfl) ?_
  refine JO.pur rfl rfl rfl (Pur.load rfl (CellIn.blk rfl)) ?_
  refine JO.effR rfl rfl rfl (Eff.call rfl ((CallS.eqv (v' := .tuple #[.bool true, .bool true, .bool true]) (needs_ok sBorrow) (by rfl)))) ?_
  refine JO.pur rfl rfl rfl (Pur.move rfl) ?_
  refine JO.pur rfl rfl rfl (Pur.extract rfl rfl) ?_
  refine JO.pur rfl rfl rfl (Pur.extract rfl rfl) ?_
  refine JO.pur rfl rfl rfl (Pur.extract rfl rfl) ?_
  refine JO.pur rfl rfl rfl (Pur.assign rfl) ?_
  refine JO.pur rfl rfl rfl (Pur.assign rfl) ?_
  refine JO.pur rfl rfl rfl (Pur.assign rfl) ?_
  refine JO.nil ?_
  refine J.seq rfl ?_
  refine J.seq rfl ?_
  refine J.region rfl ?_
  refine JO.pur rfl rfl rfl (Pur.move rfl) ?_
  refine JO.nil ?_
  refine J.setv (u' := .bool true) 33 rfl (congrArg Value.bool (rfl)) ?_
  refine J.condT rfl rfl ?_
  refine J.region rfl ?_
  refine JO.pur rfl rfl rfl (Pur.move rfl) ?_
  refine JO.pur rfl rfl rfl (Pur.fieldAddr rfl) ?_
  refine JO.pur rfl rfl rfl (Pur.load rfl (CellIn.blk rfl)) ?_
  refine JO.effR rfl rfl rfl (Eff.call rfl (at_ok w hw)) ?_
  refine JO.pur rfl rfl rfl (Pur.assign rfl) ?_
  refine JO.nil ?_
  refine J.seq rfl ?_
  refine J.block rfl ?_
  refine J.seq rfl ?_
  refine J.region rfl ?_
  refine JO.pur rfl rfl rfl (Pur.fieldAddr rfl) ?_
  refine JO.pur rfl rfl rfl (Pur.load rfl (CellIn.blk rfl)) ?_
  refine JO.effR rfl rfl rfl (Eff.call rfl ((CallS.eqv (v' := .bool false) (makes_ok sBorrow) (congrArg Value.bool (by decide))))) ?_
  refine JO.pur rfl rfl rfl (Pur.move rfl) ?_
  refine JO.setv (u' := .bool false) 42 rfl (congrArg Value.bool (rfl)) ?_
  refine JO.pur rfl rfl rfl (Pur.move rfl) ?_
  refine JO.pur rfl rfl rfl (Pur.pickF rfl rfl) ?_
  refine JO.pur rfl rfl rfl (Pur.move rfl) ?_
  refine JO.setv (u' := .bool true) 45 rfl (congrArg Value.bool (rfl)) ?_
  refine JO.pur rfl rfl rfl (Pur.move rfl) ?_
  refine JO.pur rfl rfl rfl (Pur.nilCheck rfl) ?_
  refine JO.pur rfl rfl rfl (Pur.fieldAddr rfl) ?_
  refine JO.pur rfl rfl rfl (Pur.load rfl (CellIn.arr (E := vrE) rfl (vr_get hlv) rfl)) ?_
  refine JO.pur rfl rfl rfl (Pur.neqI rfl rfl) ?_
  refine JO.pur rfl rfl rfl (Pur.pickT rfl rfl) ?_
  refine JO.pur rfl rfl rfl (Pur.assign rfl) ?_
  refine JO.nil ?_
  refine J.splitB 38 rfl (fun h38 => ?_) (fun h38 => ?_)
  · try simp only [decide_eq_true_eq, decide_eq_false_iff_not, Bool.not_eq_true', Bool.not_eq_false', Bool.and_eq_true, Bool.or_eq_true, Bool.and_eq_false_iff, Bool.or_eq_false_iff, Option.isNone_some, Option.isSome_some, Option.isNone_none, Option.isSome_none, Int.not_lt, Int.not_le, beq_iff_eq, beq_eq_false_iff_ne, bne_iff_ne, ne_eq, Bool.not_not, Decidable.not_not] at h38
    refine J.condT rfl rfl ?_
    refine J.seq rfl ?_
    refine J.region rfl ?_
    refine JO.pur rfl rfl rfl (Pur.assign rfl) ?_
    refine JO.nil ?_
    refine J.ret rfl rfl ?_
    refine ⟨_, _, ⟨rfl, rfl⟩, ?_, SubC.out⟩
    refine congrArg Value.string ?_
    simp only [wrongS, yv, makesB, fromB, n_sBorrow_sNew, n_sBorrow_sShare, n_sBorrow_sRaw, n_sBorrow_sUse, n_sBorrow_sFree, n_sBorrow_sDrop, n_sBorrow_sMove, n_sBorrow_sCopy, n_sBorrow_sEither, n_sBorrow_sOr, n_sBorrow_sEnd, decide_true, decide_false, Bool.or_true, Bool.or_false, Bool.false_or, Bool.true_or, if_true, if_false, true_or, or_true, false_or, or_false, true_and, false_and, and_true, and_false, decide_eq_true_eq, Bool.false_eq_true, ite_true, ite_false, reduceCtorEq]
    (repeat' split) <;> (first | rfl | (exfalso; omega) | (exfalso; simp_all; done) | (exfalso; simp_all; omega))
  · try simp only [decide_eq_true_eq, decide_eq_false_iff_not, Bool.not_eq_true', Bool.not_eq_false', Bool.and_eq_true, Bool.or_eq_true, Bool.and_eq_false_iff, Bool.or_eq_false_iff, Option.isNone_some, Option.isSome_some, Option.isNone_none, Option.isSome_none, Int.not_lt, Int.not_le, beq_iff_eq, beq_eq_false_iff_ne, bne_iff_ne, ne_eq, Bool.not_not, Decidable.not_not] at h38
    refine J.condF rfl rfl ?_
    refine J.seq rfl ?_
    refine J.region rfl ?_
    refine JO.pur rfl rfl rfl (Pur.move rfl) ?_
    refine JO.pur rfl rfl rfl (Pur.move rfl) ?_
    refine JO.setv (u' := .bool true) 54 rfl (congrArg Value.bool (rfl)) ?_
    refine JO.no rfl rfl rfl ?_
    refine JO.no rfl rfl rfl ?_
    refine JO.no rfl rfl rfl ?_
    refine JO.pur rfl rfl rfl (Pur.pickT rfl rfl) ?_
    refine JO.pur rfl rfl rfl (Pur.move rfl) ?_
    refine JO.no rfl rfl rfl ?_
    refine JO.no rfl rfl rfl ?_
    refine JO.no rfl rfl rfl ?_
    refine JO.pur rfl rfl rfl (Pur.pickT rfl rfl) ?_
    refine JO.pur rfl rfl rfl (Pur.move rfl) ?_
    refine JO.pur rfl rfl rfl (Pur.move rfl) ?_
    refine JO.pur rfl rfl rfl (Pur.nilCheck rfl) ?_
    refine JO.pur rfl rfl rfl (Pur.fieldAddr rfl) ?_
    refine JO.pur rfl rfl rfl (Pur.load rfl (CellIn.arr (E := vrE) rfl (vr_get hly) rfl)) ?_
    refine JO.pur rfl rfl rfl (Pur.eqlI rfl rfl) ?_
    refine JO.pur rfl rfl rfl (Pur.pickT rfl rfl) ?_
    refine JO.pur rfl rfl rfl (Pur.assign rfl) ?_
    refine JO.nil ?_
    refine J.splitB 52 rfl (fun h52 => ?_) (fun h52 => ?_)
    · try simp only [decide_eq_true_eq, decide_eq_false_iff_not, Bool.not_eq_true', Bool.not_eq_false', Bool.and_eq_true, Bool.or_eq_true, Bool.and_eq_false_iff, Bool.or_eq_false_iff, Option.isNone_some, Option.isSome_some, Option.isNone_none, Option.isSome_none, Int.not_lt, Int.not_le, beq_iff_eq, beq_eq_false_iff_ne, bne_iff_ne, ne_eq, Bool.not_not, Decidable.not_not] at h52
      refine J.condT rfl rfl ?_
      refine J.seq rfl ?_
      refine J.region rfl ?_
      refine JO.pur rfl rfl rfl (Pur.assign rfl) ?_
      refine JO.nil ?_
      refine J.ret rfl rfl ?_
      refine ⟨_, _, ⟨rfl, rfl⟩, ?_, SubC.out⟩
      refine congrArg Value.string ?_
      simp only [wrongS, yv, makesB, fromB, n_sBorrow_sNew, n_sBorrow_sShare, n_sBorrow_sRaw, n_sBorrow_sUse, n_sBorrow_sFree, n_sBorrow_sDrop, n_sBorrow_sMove, n_sBorrow_sCopy, n_sBorrow_sEither, n_sBorrow_sOr, n_sBorrow_sEnd, decide_true, decide_false, Bool.or_true, Bool.or_false, Bool.false_or, Bool.true_or, if_true, if_false, true_or, or_true, false_or, or_false, true_and, false_and, and_true, and_false, decide_eq_true_eq, Bool.false_eq_true, ite_true, ite_false, reduceCtorEq]
      (repeat' split) <;> (first | rfl | (exfalso; omega) | (exfalso; simp_all; done) | (exfalso; simp_all; omega))
    · try simp only [decide_eq_true_eq, decide_eq_false_iff_not, Bool.not_eq_true', Bool.not_eq_false', Bool.and_eq_true, Bool.or_eq_true, Bool.and_eq_false_iff, Bool.or_eq_false_iff, Option.isNone_some, Option.isSome_some, Option.isNone_none, Option.isSome_none, Int.not_lt, Int.not_le, beq_iff_eq, beq_eq_false_iff_ne, bne_iff_ne, ne_eq, Bool.not_not, Decidable.not_not] at h52
      have hy0 : (vr σ (vi w)).m ≠ 0 := by omega
      have hyo : (vr σ (vi w)).o < σ.alive.length := (g.obj _ hy0).2
      refine J.condF rfl rfl ?_
      refine J.seq rfl ?_
      refine J.seq rfl ?_
      refine J.region rfl ?_
      refine JO.pur rfl rfl rfl (Pur.fieldAddr rfl) ?_
      refine JO.pur rfl rfl rfl (Pur.load rfl (CellIn.blk rfl)) ?_
      refine JO.pur rfl rfl rfl (Pur.eqlT rfl rfl) ?_
      refine JO.pur rfl rfl rfl (Pur.move rfl) ?_
      refine JO.setv (u' := .bool false) 75 rfl (congrArg Value.bool ((by decide))) ?_
      refine JO.no rfl rfl rfl ?_
      refine JO.no rfl rfl rfl ?_
      refine JO.no rfl rfl rfl ?_
      refine JO.no rfl rfl rfl ?_
      refine JO.no rfl rfl rfl ?_
      refine JO.pur rfl rfl rfl (Pur.pickF rfl rfl) ?_
      refine JO.pur rfl rfl rfl (Pur.assign rfl) ?_
      refine JO.nil ?_
      refine J.condF rfl rfl ?_
      refine J.region rfl ?_
      refine JO.pur rfl rfl rfl (Pur.fieldAddr rfl) ?_
      refine JO.pur rfl rfl rfl (Pur.load rfl (CellIn.blk rfl)) ?_
      refine JO.pur rfl rfl rfl (Pur.eqlT rfl rfl) ?_
      refine JO.pur rfl rfl rfl (Pur.move rfl) ?_
      refine JO.setv (u' := .bool false) 85 rfl (congrArg Value.bool ((by decide))) ?_
      refine JO.no rfl rfl rfl ?_
      refine JO.no rfl rfl rfl ?_
      refine JO.no rfl rfl rfl ?_
      refine JO.no rfl rfl rfl ?_
      refine JO.no rfl rfl rfl ?_
      refine JO.pur rfl rfl rfl (Pur.pickF rfl rfl) ?_
      refine JO.pur rfl rfl rfl (Pur.assign rfl) ?_
      refine JO.nil ?_
      refine J.condF rfl rfl ?_
      refine J.seq rfl ?_
      refine J.quiet rfl Try.mixed (by kernel_rfl) ?_
      refine JQ.pur rfl rfl rfl (Pur.fieldAddr rfl) ?_
      refine JQ.pur rfl rfl rfl (Pur.load rfl (CellIn.blk rfl)) ?_
      refine JQ.pur rfl rfl rfl (Pur.eqlT rfl rfl) ?_
      refine JQ.pur rfl rfl rfl (Pur.move rfl) ?_
      refine JQ.setv (u' := .bool false) 96 rfl (congrArg Value.bool ((by decide))) ?_
      refine JQ.pur rfl rfl rfl (Pur.fieldAddr rfl) ?_
      refine JQ.pur rfl rfl rfl (Pur.load rfl (CellIn.blk rfl)) ?_
      refine JQ.pur rfl rfl rfl (Pur.eqlT rfl rfl) ?_
      refine JQ.pur rfl rfl rfl (Pur.pickF rfl rfl) ?_
      refine JQ.pur rfl rfl rfl (Pur.move rfl) ?_
      refine JQ.setv (u' := .bool false) 101 rfl (congrArg Value.bool ((by decide))) ?_
      refine JQ.pur rfl rfl rfl (Pur.fieldAddr rfl) ?_
      refine JQ.pur rfl rfl rfl (Pur.load rfl (CellIn.blk rfl)) ?_
      refine JQ.pur rfl rfl rfl (Pur.eqlT rfl rfl) ?_
      refine JQ.pur rfl rfl rfl (Pur.pickF rfl rfl) ?_
      refine JQ.pur rfl rfl rfl (Pur.move rfl) ?_
      refine JQ.setv (u' := .bool false) 106 rfl (congrArg Value.bool ((by decide))) ?_
      refine JQ.pur rfl rfl rfl (Pur.fieldAddr rfl) ?_
      refine JQ.pur rfl rfl rfl (Pur.load rfl (CellIn.blk rfl)) ?_
      refine JQ.pur rfl rfl rfl (Pur.eqlT rfl rfl) ?_
      refine JQ.pur rfl rfl rfl (Pur.pickF rfl rfl) ?_
      refine JQ.pur rfl rfl rfl (Pur.move rfl) ?_
      refine JQ.setv (u' := .bool true) 111 rfl (congrArg Value.bool ((by decide))) ?_
      refine JQ.pur rfl rfl rfl (Pur.move rfl) ?_
      refine JQ.pur rfl rfl rfl (Pur.nilCheck rfl) ?_
      refine JQ.pur rfl rfl rfl (Pur.fieldAddr rfl) ?_
      refine JQ.pur rfl rfl rfl (Pur.load rfl (CellIn.arrT (n := 16) (k := 0) (by rw [hv8]; rfl) rfl)) ?_
      refine JQ.pur rfl rfl rfl (Pur.move rfl) ?_
      refine JQ.pur rfl rfl rfl (Pur.nilCheck rfl) ?_
      refine JQ.pur rfl rfl rfl (Pur.fieldAddr rfl) ?_
      refine JQ.pur rfl rfl rfl (Pur.load rfl (CellIn.arr (E := vrE) rfl (vr_get hly) rfl)) ?_
      refine JQ.pur rfl rfl rfl (Pur.idx rfl rfl rfl (by first | rfl | (simp; done) | omega) rfl hyo) ?_
      refine JQ.pur rfl rfl rfl (Pur.load rfl (CellIn.el0 rfl (getD_get (d := false) hyo) rfl)) ?_
      refine JQ.pur rfl rfl rfl (Pur.not rfl) ?_
      refine JQ.pur rfl rfl rfl (Pur.pickT rfl rfl) ?_
      refine JQ.pur rfl rfl rfl (Pur.assign rfl) ?_
      refine JQ.nil ?_
      refine J.splitB 92 rfl (fun h92 => ?_) (fun h92 => ?_)
      · try simp only [decide_eq_true_eq, decide_eq_false_iff_not, Bool.not_eq_true', Bool.not_eq_false', Bool.and_eq_true, Bool.or_eq_true, Bool.and_eq_false_iff, Bool.or_eq_false_iff, Option.isNone_some, Option.isSome_some, Option.isNone_none, Option.isSome_none, Int.not_lt, Int.not_le, beq_iff_eq, beq_eq_false_iff_ne, bne_iff_ne, ne_eq, Bool.not_not, Decidable.not_not] at h92
        refine J.condT rfl rfl ?_
        refine J.seq rfl ?_
        refine J.region rfl ?_
        refine JO.pur rfl rfl rfl (Pur.assign rfl) ?_
        refine JO.nil ?_
        refine J.ret rfl rfl ?_
        refine ⟨_, _, ⟨rfl, rfl⟩, ?_, SubC.out⟩
        refine congrArg Value.string ?_
        simp only [wrongS, yv, makesB, fromB, n_sBorrow_sNew, n_sBorrow_sShare, n_sBorrow_sRaw, n_sBorrow_sUse, n_sBorrow_sFree, n_sBorrow_sDrop, n_sBorrow_sMove, n_sBorrow_sCopy, n_sBorrow_sEither, n_sBorrow_sOr, n_sBorrow_sEnd, decide_true, decide_false, Bool.or_true, Bool.or_false, Bool.false_or, Bool.true_or, if_true, if_false, true_or, or_true, false_or, or_false, true_and, false_and, and_true, and_false, decide_eq_true_eq, Bool.false_eq_true, ite_true, ite_false, reduceCtorEq]
        (repeat' split) <;> (first | rfl | (exfalso; omega) | (exfalso; simp_all; done) | (exfalso; simp_all; omega))
      · try simp only [decide_eq_true_eq, decide_eq_false_iff_not, Bool.not_eq_true', Bool.not_eq_false', Bool.and_eq_true, Bool.or_eq_true, Bool.and_eq_false_iff, Bool.or_eq_false_iff, Option.isNone_some, Option.isSome_some, Option.isNone_none, Option.isSome_none, Int.not_lt, Int.not_le, beq_iff_eq, beq_eq_false_iff_ne, bne_iff_ne, ne_eq, Bool.not_not, Decidable.not_not] at h92
        refine J.condF rfl rfl ?_
        refine J.skip rfl ?_
        refine J.inBlock ?_
        refine J.seq rfl ?_
        refine J.region rfl ?_
        refine JO.pur rfl rfl rfl (Pur.assign rfl) ?_
        refine JO.nil ?_
        refine J.ret rfl rfl ?_
        refine ⟨_, _, ⟨rfl, rfl⟩, ?_, SubC.out⟩
        refine congrArg Value.string ?_
        simp only [wrongS, yv, makesB, fromB, n_sBorrow_sNew, n_sBorrow_sShare, n_sBorrow_sRaw, n_sBorrow_sUse, n_sBorrow_sFree, n_sBorrow_sDrop, n_sBorrow_sMove, n_sBorrow_sCopy, n_sBorrow_sEither, n_sBorrow_sOr, n_sBorrow_sEnd, decide_true, decide_false, Bool.or_true, Bool.or_false, Bool.false_or, Bool.true_or, if_true, if_false, true_or, or_true, false_or, or_false, true_and, false_and, and_true, and_false, decide_eq_true_eq, Bool.false_eq_true, ite_true, ite_false, reduceCtorEq]
        (repeat' split) <;> (first | rfl | (exfalso; omega) | (exfalso; simp_all; done) | (exfalso; simp_all; omega))

end Go.Proofs.Ythdaopmfgmojnaa
