/-
  A part of the proof of the claim that this folder bears.
  This text: QRing1.
-/
import Derived.Test.YtnllgmfpejjcnaaQRep
import Derived.Test.YtnllgmfpejjcnaaQSlices
set_option linter.unusedVariables false
set_option linter.unusedSimpArgs false
namespace Go.Proofs.Ytnllgmfpejjcnaa
open Go Go.KK Qt

theorem none_ok {L : List Asn} {r : Nat} {a : Option Addr} {n cap : Nat} {v1 v2 v3 v4 v5 v6 v7 : Value} {T : Nat} {fz : Nat × Nat} [BlkIn L r (.cells #[.slice a n cap, v1, v2, v3, v4, v5, v6, v7] T fz)] :
    CallS Try.prog 37 [.pointer (some ⟨r, 0, none⟩)].toArray L (fun v M => v = .bool (decide ((n : Int) = 0)) ∧ M = L) := by
  refine CallS.enter Try.func37 rfl rfl rfl rfl rfl ?_
  refine J.seq rfl ?_
  refine J.region rfl ?_
  refine JO.pur rfl rfl rfl (Pur.assign rfl) ?_
  refine JO.nil ?_
  refine J.seq rfl ?_
  refine J.region rfl ?_
  refine JO.pur rfl rfl rfl (Pur.move rfl) ?_
  refine JO.pur rfl rfl rfl (Pur.eqlPtrNil rfl) ?_
  refine JO.pur rfl rfl rfl (Pur.move rfl) ?_
  refine JO.setv (u' := .bool false) 5 rfl (congrArg Value.bool (rfl)) ?_
  refine JO.pur rfl rfl rfl (Pur.move rfl) ?_
  refine JO.pur rfl rfl rfl (Pur.nilCheck rfl) ?_
  refine JO.pur rfl rfl rfl (Pur.fieldAddr rfl) ?_
  refine JO.pur rfl rfl rfl (Pur.load rfl (CellIn.blk rfl)) ?_
  refine JO.pur rfl rfl rfl (Pur.len rfl) ?_
  refine JO.pur rfl rfl rfl (Pur.eqlI rfl rfl) ?_
  refine JO.pur rfl rfl rfl (Pur.pickF rfl rfl) ?_
  refine JO.pur rfl rfl rfl (Pur.assign rfl) ?_
  refine JO.nil ?_
  refine J.ret rfl rfl ?_
  exact ⟨rfl, rfl⟩

theorem isPlace_ok {L : List Asn} {r : Nat} {a : Option Addr} {n cap : Nat} {v1 v2 v3 v4 v5 v6 v7 : Value} {T : Nat} {fz : Nat × Nat} [BlkIn L r (.cells #[.slice a n cap, v1, v2, v3, v4, v5, v6, v7] T fz)] (p : Int) :
    CallS Try.prog 47 [.pointer (some ⟨r, 0, none⟩), .int .i64 p].toArray L (fun v M => v = .bool (decide (0 ≤ p ∧ p < (n : Int))) ∧ M = L) := by
  refine CallS.enter Try.func47 rfl rfl rfl rfl rfl ?_
  refine J.seq rfl ?_
  refine J.region rfl ?_
  refine JO.pur rfl rfl rfl (Pur.assign rfl) ?_
  refine JO.nil ?_
  refine J.seq rfl ?_
  refine J.region rfl ?_
  refine JO.pur rfl rfl rfl (Pur.move rfl) ?_
  refine JO.pur rfl rfl rfl (Pur.geq rfl rfl) ?_
  refine JO.pur rfl rfl rfl (Pur.move rfl) ?_
  refine JO.splitB 7 rfl (fun h7 => ?_) (fun h7 => ?_)
  · try simp only [decide_eq_true_eq, decide_eq_false_iff_not, Bool.not_eq_true', Bool.not_eq_false', Bool.and_eq_true, Bool.or_eq_true, Bool.and_eq_false_iff, Bool.or_eq_false_iff, Option.isNone_some, Option.isSome_some, Option.isNone_none, Option.isSome_none, Int.not_lt, Int.not_le, beq_iff_eq, beq_eq_false_iff_ne, bne_iff_ne, ne_eq, Bool.not_not, Decidable.not_not] at h7
    first
    | (exfalso; omega)
    | refine JO.pur rfl rfl rfl (Pur.move rfl) ?_
      refine JO.pur rfl rfl rfl (Pur.move rfl) ?_
      refine JO.pur rfl rfl rfl (Pur.nilCheck rfl) ?_
      refine JO.pur rfl rfl rfl (Pur.fieldAddr rfl) ?_
      refine JO.pur rfl rfl rfl (Pur.load rfl (CellIn.blk rfl)) ?_
      refine JO.pur rfl rfl rfl (Pur.len rfl) ?_
      refine JO.pur rfl rfl rfl (Pur.lss rfl rfl) ?_
      refine JO.pur rfl rfl rfl (Pur.pickT rfl rfl) ?_
      refine JO.pur rfl rfl rfl (Pur.assign rfl) ?_
      refine JO.nil ?_
      refine J.ret rfl rfl ?_
      exact ⟨congrArg Value.bool (by simp [*] <;> omega), rfl⟩
  · try simp only [decide_eq_true_eq, decide_eq_false_iff_not, Bool.not_eq_true', Bool.not_eq_false', Bool.and_eq_true, Bool.or_eq_true, Bool.and_eq_false_iff, Bool.or_eq_false_iff, Option.isNone_some, Option.isSome_some, Option.isNone_none, Option.isSome_none, Int.not_lt, Int.not_le, beq_iff_eq, beq_eq_false_iff_ne, bne_iff_ne, ne_eq, Bool.not_not, Decidable.not_not] at h7
    first
    | (exfalso; omega)
    | refine JO.no rfl rfl rfl ?_
      refine JO.no rfl rfl rfl ?_
      refine JO.no rfl rfl rfl ?_
      refine JO.no rfl rfl rfl ?_
      refine JO.no rfl rfl rfl ?_
      refine JO.no rfl rfl rfl ?_
      refine JO.no rfl rfl rfl ?_
      refine JO.pur rfl rfl rfl (Pur.pickF rfl rfl) ?_
      refine JO.pur rfl rfl rfl (Pur.assign rfl) ?_
      refine JO.nil ?_
      refine J.ret rfl rfl ?_
      exact ⟨congrArg Value.bool (by simp [*] <;> omega), rfl⟩

theorem told_ok {R : List Asn} (r : Nat) (σ : St) (N : Nat) (hw : Wf σ N) :
    CallS Try.prog 16 [.pointer (some ⟨r, 0, none⟩)].toArray (ringA r σ :: R) (fun v M => v = .bool σ.told ∧ M = ringA r σ :: R) := by
  obtain ⟨w1, w2, w3, w4, w5, w55, w6, w7⟩ := hw
  refine CallS.ent ?_
  refine CallS.enter Try.func16 rfl rfl rfl rfl rfl ?_
  refine ring_open fun a b cap cap2 => ?_
  refine J.seq rfl ?_
  refine J.region rfl ?_
  refine JO.pur rfl rfl rfl (Pur.assign rfl) ?_
  refine JO.nil ?_
  refine J.seq rfl ?_
  refine J.region rfl ?_
  refine JO.pur rfl rfl rfl (Pur.move rfl) ?_
  refine JO.effR rfl rfl rfl (Eff.call rfl (none_ok)) ?_
  refine JO.pur rfl rfl rfl (Pur.not rfl) ?_
  refine JO.pur rfl rfl rfl (Pur.move rfl) ?_
  refine JO.splitB 6 rfl (fun h6 => ?_) (fun h6 => ?_)
  · try simp only [decide_eq_true_eq, decide_eq_false_iff_not, Bool.not_eq_true', Bool.not_eq_false', Bool.and_eq_true, Bool.or_eq_true, Bool.and_eq_false_iff, Bool.or_eq_false_iff, Option.isNone_some, Option.isSome_some, Option.isNone_none, Option.isSome_none, Int.not_lt, Int.not_le, beq_iff_eq, beq_eq_false_iff_ne, bne_iff_ne, ne_eq, Bool.not_not, Decidable.not_not] at h6
    first
    | (exfalso; omega)
    | refine JO.pur rfl rfl rfl (Pur.move rfl) ?_
      refine JO.pur rfl rfl rfl (Pur.nilCheck rfl) ?_
      refine JO.pur rfl rfl rfl (Pur.fieldAddr rfl) ?_
      refine JO.pur rfl rfl rfl (Pur.load rfl (CellIn.blk rfl)) ?_
      refine JO.pur rfl rfl rfl (Pur.pickT rfl rfl) ?_
      refine JO.pur rfl rfl rfl (Pur.assign rfl) ?_
      refine JO.nil ?_
      refine J.ret rfl rfl ?_
      exact ⟨_, _, ⟨rfl, rfl⟩, rfl, fun h hs => ring_shut rfl rfl hs⟩
  · try simp only [decide_eq_true_eq, decide_eq_false_iff_not, Bool.not_eq_true', Bool.not_eq_false', Bool.and_eq_true, Bool.or_eq_true, Bool.and_eq_false_iff, Bool.or_eq_false_iff, Option.isNone_some, Option.isSome_some, Option.isNone_none, Option.isSome_none, Int.not_lt, Int.not_le, beq_iff_eq, beq_eq_false_iff_ne, bne_iff_ne, ne_eq, Bool.not_not, Decidable.not_not] at h6
    first
    | (exfalso; omega)
    | refine JO.no rfl rfl rfl ?_
      refine JO.no rfl rfl rfl ?_
      refine JO.no rfl rfl rfl ?_
      refine JO.no rfl rfl rfl ?_
      refine JO.pur rfl rfl rfl (Pur.pickF rfl rfl) ?_
      refine JO.pur rfl rfl rfl (Pur.assign rfl) ?_
      refine JO.nil ?_
      refine J.ret rfl rfl ?_
      exact ⟨_, _, ⟨rfl, rfl⟩, rfl, fun h hs => ring_shut rfl rfl hs⟩

theorem passes_ok {R : List Asn} (r : Nat) (σ : St) (N : Nat) (hw : Wf σ N) :
    CallS Try.prog 27 [.pointer (some ⟨r, 0, none⟩)].toArray (ringA r σ :: R) (fun v M => v = .int .i64 σ.passes ∧ M = ringA r σ :: R) := by
  obtain ⟨w1, w2, w3, w4, w5, w55, w6, w7⟩ := hw
  refine CallS.ent ?_
  refine CallS.enter Try.func27 rfl rfl rfl rfl rfl ?_
  refine ring_open fun a b cap cap2 => ?_
  refine J.seq rfl ?_
  refine J.region rfl ?_
  refine JO.pur rfl rfl rfl (Pur.assign rfl) ?_
  refine JO.nil ?_
  refine J.seq rfl ?_
  refine J.seq rfl ?_
  refine J.region rfl ?_
  refine JO.pur rfl rfl rfl (Pur.move rfl) ?_
  refine JO.effR rfl rfl rfl (Eff.call rfl (none_ok)) ?_
  refine JO.nil ?_
  refine J.splitB 4 rfl (fun h4 => ?_) (fun h4 => ?_)
  · try simp only [decide_eq_true_eq, decide_eq_false_iff_not, Bool.not_eq_true', Bool.not_eq_false', Bool.and_eq_true, Bool.or_eq_true, Bool.and_eq_false_iff, Bool.or_eq_false_iff, Option.isNone_some, Option.isSome_some, Option.isNone_none, Option.isSome_none, Int.not_lt, Int.not_le, beq_iff_eq, beq_eq_false_iff_ne, bne_iff_ne, ne_eq, Bool.not_not, Decidable.not_not] at h4
    first
    | (exfalso; omega)
    | refine J.condT rfl rfl ?_
      refine J.seq rfl ?_
      refine J.region rfl ?_
      refine JO.pur rfl rfl rfl (Pur.assign rfl) ?_
      refine JO.nil ?_
      refine J.ret rfl rfl ?_
      exact ⟨_, _, ⟨rfl, rfl⟩, rfl, fun h hs => ring_shut rfl rfl hs⟩
  · try simp only [decide_eq_true_eq, decide_eq_false_iff_not, Bool.not_eq_true', Bool.not_eq_false', Bool.and_eq_true, Bool.or_eq_true, Bool.and_eq_false_iff, Bool.or_eq_false_iff, Option.isNone_some, Option.isSome_some, Option.isNone_none, Option.isSome_none, Int.not_lt, Int.not_le, beq_iff_eq, beq_eq_false_iff_ne, bne_iff_ne, ne_eq, Bool.not_not, Decidable.not_not] at h4
    first
    | (exfalso; omega)
    | refine J.condF rfl rfl ?_
      refine J.skip rfl ?_
      refine J.seq rfl ?_
      refine J.region rfl ?_
      refine JO.pur rfl rfl rfl (Pur.move rfl) ?_
      refine JO.pur rfl rfl rfl (Pur.nilCheck rfl) ?_
      refine JO.pur rfl rfl rfl (Pur.fieldAddr rfl) ?_
      refine JO.pur rfl rfl rfl (Pur.load rfl (CellIn.blk rfl)) ?_
      refine JO.pur rfl rfl rfl (Pur.assign rfl) ?_
      refine JO.nil ?_
      refine J.ret rfl rfl ?_
      exact ⟨_, _, ⟨rfl, rfl⟩, rfl, fun h hs => ring_shut rfl rfl hs⟩

theorem send_ok {R : List Asn} (r : Nat) (σ : St) (N : Nat) (hw : Wf σ N) (f t : Int) :
    CallS Try.prog 24 [.pointer (some ⟨r, 0, none⟩), .int .i64 f, .int .i64 t].toArray (ringA r σ :: R) (fun v M => v = .int .i64 (send σ f t).1 ∧ M = ringA r (send σ f t).2 :: R) := by
  obtain ⟨w1, w2, w3, w4, w5, w55, w6, w7⟩ := hw
  refine CallS.ent ?_
  refine CallS.enter Try.func24 rfl rfl rfl rfl rfl ?_
  refine ring_open fun a b cap cap2 => ?_
  refine J.seq rfl ?_
  refine J.region rfl ?_
  refine JO.pur rfl rfl rfl (Pur.assign rfl) ?_
  refine JO.nil ?_
  refine J.seq rfl ?_
  refine J.block rfl ?_
  refine J.seq rfl ?_
  refine J.region rfl ?_
  refine JO.pur rfl rfl rfl (Pur.move rfl) ?_
  refine JO.effR rfl rfl rfl (Eff.call rfl (none_ok)) ?_
  refine JO.pur rfl rfl rfl (Pur.assign rfl) ?_
  refine JO.nil ?_
  refine J.splitB 7 rfl (fun h7 => ?_) (fun h7 => ?_)
  · try simp only [decide_eq_true_eq, decide_eq_false_iff_not, Bool.not_eq_true', Bool.not_eq_false', Bool.and_eq_true, Bool.or_eq_true, Bool.and_eq_false_iff, Bool.or_eq_false_iff, Option.isNone_some, Option.isSome_some, Option.isNone_none, Option.isSome_none, Int.not_lt, Int.not_le, beq_iff_eq, beq_eq_false_iff_ne, bne_iff_ne, ne_eq, Bool.not_not, Decidable.not_not] at h7
    first
    | (exfalso; omega)
    | refine J.condT rfl rfl ?_
      refine J.seq rfl ?_
      refine J.region rfl ?_
      refine JO.pur rfl rfl rfl (Pur.assign rfl) ?_
      refine JO.nil ?_
      refine J.ret rfl rfl ?_
      omega
  · try simp only [decide_eq_true_eq, decide_eq_false_iff_not, Bool.not_eq_true', Bool.not_eq_false', Bool.and_eq_true, Bool.or_eq_true, Bool.and_eq_false_iff, Bool.or_eq_false_iff, Option.isNone_some, Option.isSome_some, Option.isNone_none, Option.isSome_none, Int.not_lt, Int.not_le, beq_iff_eq, beq_eq_false_iff_ne, bne_iff_ne, ne_eq, Bool.not_not, Decidable.not_not] at h7
    first
    | (exfalso; omega)
    | refine J.condF rfl rfl ?_
      refine J.seq rfl ?_
      refine J.region rfl ?_
      refine JO.pur rfl rfl rfl (Pur.move rfl) ?_
      refine JO.pur rfl rfl rfl (Pur.move rfl) ?_
      refine JO.effR rfl rfl rfl (Eff.call rfl (isPlace_ok _)) ?_
      refine JO.pur rfl rfl rfl (Pur.not rfl) ?_
      refine JO.pur rfl rfl rfl (Pur.move rfl) ?_
      refine JO.splitB 15 rfl (fun h15 => ?_) (fun h15 => ?_)
      · try simp only [decide_eq_true_eq, decide_eq_false_iff_not, Bool.not_eq_true', Bool.not_eq_false', Bool.and_eq_true, Bool.or_eq_true, Bool.and_eq_false_iff, Bool.or_eq_false_iff, Option.isNone_some, Option.isSome_some, Option.isNone_none, Option.isSome_none, Int.not_lt, Int.not_le, beq_iff_eq, beq_eq_false_iff_ne, bne_iff_ne, ne_eq, Bool.not_not, Decidable.not_not] at h15
        refine JO.no rfl rfl rfl ?_
        refine JO.no rfl rfl rfl ?_
        refine JO.no rfl rfl rfl ?_
        refine JO.no rfl rfl rfl ?_
        refine JO.pur rfl rfl rfl (Pur.pickT rfl rfl) ?_
        refine JO.pur rfl rfl rfl (Pur.assign rfl) ?_
        refine JO.nil ?_
        refine J.condT rfl rfl ?_
        refine J.seq rfl ?_
        refine J.region rfl ?_
        refine JO.pur rfl rfl rfl (Pur.assign rfl) ?_
        refine JO.nil ?_
        refine J.ret rfl rfl ?_
        have e : send σ f t = (2, σ) := if_pos (by unfold isP; omega)
        refine ⟨_, _, ⟨rfl, rfl⟩, ?_⟩
        rw [e]
        exact ⟨rfl, fun h hs => ring_shut (by simp [sendS, recvS, idleS, stepDown, newRound, tellS]) (by simp [sendS, recvS, idleS, stepDown, newRound, tellS] <;> omega) hs⟩
      · try simp only [decide_eq_true_eq, decide_eq_false_iff_not, Bool.not_eq_true', Bool.not_eq_false', Bool.and_eq_true, Bool.or_eq_true, Bool.and_eq_false_iff, Bool.or_eq_false_iff, Option.isNone_some, Option.isSome_some, Option.isNone_none, Option.isSome_none, Int.not_lt, Int.not_le, beq_iff_eq, beq_eq_false_iff_ne, bne_iff_ne, ne_eq, Bool.not_not, Decidable.not_not] at h15
        refine JO.pur rfl rfl rfl (Pur.move rfl) ?_
        refine JO.pur rfl rfl rfl (Pur.move rfl) ?_
        refine JO.effR rfl rfl rfl (Eff.call rfl (isPlace_ok _)) ?_
        refine JO.pur rfl rfl rfl (Pur.not rfl) ?_
        refine JO.pur rfl rfl rfl (Pur.pickF rfl rfl) ?_
        refine JO.pur rfl rfl rfl (Pur.assign rfl) ?_
        refine JO.nil ?_
        refine J.splitB 10 rfl (fun h10 => ?_) (fun h10 => ?_)
        · try simp only [decide_eq_true_eq, decide_eq_false_iff_not, Bool.not_eq_true', Bool.not_eq_false', Bool.and_eq_true, Bool.or_eq_true, Bool.and_eq_false_iff, Bool.or_eq_false_iff, Option.isNone_some, Option.isSome_some, Option.isNone_none, Option.isSome_none, Int.not_lt, Int.not_le, beq_iff_eq, beq_eq_false_iff_ne, bne_iff_ne, ne_eq, Bool.not_not, Decidable.not_not] at h10
          refine J.condT rfl rfl ?_
          refine J.seq rfl ?_
          refine J.region rfl ?_
          refine JO.pur rfl rfl rfl (Pur.assign rfl) ?_
          refine JO.nil ?_
          refine J.ret rfl rfl ?_
          have e : send σ f t = (2, σ) := if_pos (by unfold isP; omega)
          refine ⟨_, _, ⟨rfl, rfl⟩, ?_⟩
          rw [e]
          exact ⟨rfl, fun h hs => ring_shut (by simp [sendS, recvS, idleS, stepDown, newRound, tellS]) (by simp [sendS, recvS, idleS, stepDown, newRound, tellS] <;> omega) hs⟩
        · try simp only [decide_eq_true_eq, decide_eq_false_iff_not, Bool.not_eq_true', Bool.not_eq_false', Bool.and_eq_true, Bool.or_eq_true, Bool.and_eq_false_iff, Bool.or_eq_false_iff, Option.isNone_some, Option.isSome_some, Option.isNone_none, Option.isSome_none, Int.not_lt, Int.not_le, beq_iff_eq, beq_eq_false_iff_ne, bne_iff_ne, ne_eq, Bool.not_not, Decidable.not_not] at h10
          refine J.condF rfl rfl ?_
          refine J.seq rfl ?_
          refine J.region rfl ?_
          refine JO.pur rfl rfl rfl (Pur.move rfl) ?_
          refine JO.pur rfl rfl rfl (Pur.nilCheck rfl) ?_
          refine JO.pur rfl rfl rfl (Pur.fieldAddr rfl) ?_
          refine JO.pur rfl rfl rfl (Pur.load rfl (CellIn.blk rfl)) ?_
          refine JO.pur rfl rfl rfl (Pur.move rfl) ?_
          refine JO.pur rfl rfl rfl (Pur.idx rfl rfl rfl (by first | rfl | simp) (Int.toNat_of_nonneg (by omega)).symm (by omega)) ?_
          refine JO.pur rfl rfl rfl (Pur.fieldAddr rfl) ?_
          refine JO.pur rfl rfl rfl (Pur.load rfl (CellIn.el rfl (spot_get (by omega)) rfl)) ?_
          refine JO.pur rfl rfl rfl (Pur.not rfl) ?_
          refine JO.pur rfl rfl rfl (Pur.assign rfl) ?_
          refine JO.nil ?_
          refine J.splitB 21 rfl (fun h21 => ?_) (fun h21 => ?_)
          · try simp only [decide_eq_true_eq, decide_eq_false_iff_not, Bool.not_eq_true', Bool.not_eq_false', Bool.and_eq_true, Bool.or_eq_true, Bool.and_eq_false_iff, Bool.or_eq_false_iff, Option.isNone_some, Option.isSome_some, Option.isNone_none, Option.isSome_none, Int.not_lt, Int.not_le, beq_iff_eq, beq_eq_false_iff_ne, bne_iff_ne, ne_eq, Bool.not_not, Decidable.not_not] at h21
            refine J.condT rfl rfl ?_
            refine J.seq rfl ?_
            refine J.region rfl ?_
            refine JO.pur rfl rfl rfl (Pur.assign rfl) ?_
            refine JO.nil ?_
            refine J.ret rfl rfl ?_
            have e : send σ f t = (170, σ) := by unfold send; rw [if_neg (by unfold isP; omega), if_pos h21]
            refine ⟨_, _, ⟨rfl, rfl⟩, ?_⟩
            rw [e]
            exact ⟨rfl, fun h hs => ring_shut (by simp [sendS, recvS, idleS, stepDown, newRound, tellS]) (by simp [sendS, recvS, idleS, stepDown, newRound, tellS] <;> omega) hs⟩
          · try simp only [decide_eq_true_eq, decide_eq_false_iff_not, Bool.not_eq_true', Bool.not_eq_false', Bool.and_eq_true, Bool.or_eq_true, Bool.and_eq_false_iff, Bool.or_eq_false_iff, Option.isNone_some, Option.isSome_some, Option.isNone_none, Option.isSome_none, Int.not_lt, Int.not_le, beq_iff_eq, beq_eq_false_iff_ne, bne_iff_ne, ne_eq, Bool.not_not, Decidable.not_not] at h21
            refine J.condF rfl rfl ?_
            refine J.skip rfl ?_
            refine J.inBlock ?_
            refine J.seq rfl ?_
            refine J.region rfl ?_
            refine JO.pur rfl rfl rfl (Pur.move rfl) ?_
            refine JO.pur rfl rfl rfl (Pur.nilCheck rfl) ?_
            refine JO.pur rfl rfl rfl (Pur.fieldAddr rfl) ?_
            refine JO.pur rfl rfl rfl (Pur.load rfl (CellIn.blk rfl)) ?_
            refine JO.pur rfl rfl rfl (Pur.move rfl) ?_
            refine JO.pur rfl rfl rfl (Pur.idx rfl rfl rfl (by first | rfl | simp) (Int.toNat_of_nonneg (by omega)).symm (by omega)) ?_
            refine JO.pur rfl rfl rfl (Pur.fieldAddr rfl) ?_
            refine JO.pur rfl rfl rfl (Pur.load rfl (CellIn.el rfl (spot_get (by omega)) rfl)) ?_
            refine JO.pur rfl rfl rfl (Pur.add rfl rfl (wr64 (by have := w4 _ (spot_mem (σ := σ) (i := f.toNat) (by omega)); omega))) ?_
            refine JO.pur rfl rfl rfl (Pur.idx rfl rfl rfl (by first | rfl | simp) (Int.toNat_of_nonneg (by omega)).symm (by omega)) ?_
            refine JO.pur rfl rfl rfl (Pur.fieldAddr rfl) ?_
            refine JO.effN rfl rfl (Eff.storeS (z' := { spot σ f.toNat with count := (spot σ f.toNat).count + 1 }) rfl rfl rfl rfl (spot_get (by omega)) (.tail (.tail .head))) ?_
            rintro _ _ ⟨rfl, rfl⟩
            refine JO.nil ?_
            refine J.seq rfl ?_
            refine J.region rfl ?_
            refine JO.pur rfl rfl rfl (Pur.move rfl) ?_
            refine JO.pur rfl rfl rfl (Pur.move rfl) ?_
            refine JO.pur rfl rfl rfl (Pur.nilCheck rfl) ?_
            refine JO.pur rfl rfl rfl (Pur.fieldAddr rfl) ?_
            refine JO.pur rfl rfl rfl (Pur.load rfl (CellIn.blk rfl)) ?_
            refine JO.pur rfl rfl rfl (Pur.move rfl) ?_
            refine JO.pur rfl rfl rfl (Pur.move rfl) ?_
            refine JO.pur rfl rfl rfl (Pur.build (cs := [_, _]) rfl rfl) ?_
            refine JO.eff rfl rfl rfl (Eff.buildSlice pairE [(f, t)] rfl rfl rfl rfl rfl rfl rfl) ?_
            rintro _ _ ⟨b50, rfl, -, rfl⟩
            refine JO.eff rfl rfl rfl (Eff.append rfl rfl rfl rfl rfl rfl (by decide) (by simp; omega) (by simp; omega) (fun h => by cases h)) ?_
            rintro _ _ ⟨a51, c51, rfl, rfl⟩
            refine JO.pur rfl rfl rfl (Pur.nilCheck rfl) ?_
            refine JO.pur rfl rfl rfl (Pur.fieldAddr rfl) ?_
            refine JO.effN rfl rfl (Eff.storeB rfl rfl rfl (.tail .head)) ?_
            rintro _ _ ⟨rfl, rfl⟩
            refine JO.nil ?_
            refine J.seq rfl ?_
            refine J.region rfl ?_
            refine JO.pur rfl rfl rfl (Pur.assign rfl) ?_
            refine JO.nil ?_
            refine J.ret rfl rfl ?_
            have e : send σ f t = (0, sendS σ f t) := by unfold send; rw [if_neg (by unfold isP; omega), if_neg (by simp [h21])]
            refine ⟨_, _, ⟨rfl, rfl⟩, ?_⟩
            rw [e]
            exact ⟨rfl, fun h hs => ring_shut (by simp [sendS, recvS, idleS, stepDown, newRound, tellS]) (by simp [sendS, recvS, idleS, stepDown, newRound, tellS] <;> omega) hs.tail⟩

theorem idle_ok {R : List Asn} (r : Nat) (σ : St) (N : Nat) (hw : Wf σ N) (p : Int) :
    CallS Try.prog 26 [.pointer (some ⟨r, 0, none⟩), .int .i64 p].toArray (ringA r σ :: R) (fun v M => v = .int .i64 (idle σ p).1 ∧ M = ringA r (idle σ p).2 :: R) := by
  obtain ⟨w1, w2, w3, w4, w5, w55, w6, w7⟩ := hw
  refine CallS.ent ?_
  refine CallS.enter Try.func26 rfl rfl rfl rfl rfl ?_
  refine ring_open fun a b cap cap2 => ?_
  refine J.seq rfl ?_
  refine J.region rfl ?_
  refine JO.pur rfl rfl rfl (Pur.assign rfl) ?_
  refine JO.nil ?_
  refine J.seq rfl ?_
  refine J.block rfl ?_
  refine J.seq rfl ?_
  refine J.region rfl ?_
  refine JO.pur rfl rfl rfl (Pur.move rfl) ?_
  refine JO.effR rfl rfl rfl (Eff.call rfl (none_ok)) ?_
  refine JO.pur rfl rfl rfl (Pur.assign rfl) ?_
  refine JO.nil ?_
  refine J.splitB 5 rfl (fun h5 => ?_) (fun h5 => ?_)
  · try simp only [decide_eq_true_eq, decide_eq_false_iff_not, Bool.not_eq_true', Bool.not_eq_false', Bool.and_eq_true, Bool.or_eq_true, Bool.and_eq_false_iff, Bool.or_eq_false_iff, Option.isNone_some, Option.isSome_some, Option.isNone_none, Option.isSome_none, Int.not_lt, Int.not_le, beq_iff_eq, beq_eq_false_iff_ne, bne_iff_ne, ne_eq, Bool.not_not, Decidable.not_not] at h5
    first
    | (exfalso; omega)
    | refine J.condT rfl rfl ?_
      refine J.seq rfl ?_
      refine J.region rfl ?_
      refine JO.pur rfl rfl rfl (Pur.assign rfl) ?_
      refine JO.nil ?_
      refine J.ret rfl rfl ?_
      omega
  · try simp only [decide_eq_true_eq, decide_eq_false_iff_not, Bool.not_eq_true', Bool.not_eq_false', Bool.and_eq_true, Bool.or_eq_true, Bool.and_eq_false_iff, Bool.or_eq_false_iff, Option.isNone_some, Option.isSome_some, Option.isNone_none, Option.isSome_none, Int.not_lt, Int.not_le, beq_iff_eq, beq_eq_false_iff_ne, bne_iff_ne, ne_eq, Bool.not_not, Decidable.not_not] at h5
    first
    | (exfalso; omega)
    | refine J.condF rfl rfl ?_
      refine J.seq rfl ?_
      refine J.region rfl ?_
      refine JO.pur rfl rfl rfl (Pur.move rfl) ?_
      refine JO.pur rfl rfl rfl (Pur.move rfl) ?_
      refine JO.effR rfl rfl rfl (Eff.call rfl (isPlace_ok _)) ?_
      refine JO.pur rfl rfl rfl (Pur.not rfl) ?_
      refine JO.pur rfl rfl rfl (Pur.assign rfl) ?_
      refine JO.nil ?_
      refine J.splitB 8 rfl (fun h8 => ?_) (fun h8 => ?_)
      · try simp only [decide_eq_true_eq, decide_eq_false_iff_not, Bool.not_eq_true', Bool.not_eq_false', Bool.and_eq_true, Bool.or_eq_true, Bool.and_eq_false_iff, Bool.or_eq_false_iff, Option.isNone_some, Option.isSome_some, Option.isNone_none, Option.isSome_none, Int.not_lt, Int.not_le, beq_iff_eq, beq_eq_false_iff_ne, bne_iff_ne, ne_eq, Bool.not_not, Decidable.not_not] at h8
        refine J.condT rfl rfl ?_
        refine J.seq rfl ?_
        refine J.region rfl ?_
        refine JO.pur rfl rfl rfl (Pur.assign rfl) ?_
        refine JO.nil ?_
        refine J.ret rfl rfl ?_
        have e : idle σ p = (2, σ) := if_pos (by unfold isP; omega)
        refine ⟨_, _, ⟨rfl, rfl⟩, ?_⟩
        rw [e]
        exact ⟨rfl, fun h hs => ring_shut (by simp [sendS, recvS, idleS, stepDown, newRound, tellS]) (by simp [sendS, recvS, idleS, stepDown, newRound, tellS] <;> omega) hs⟩
      · try simp only [decide_eq_true_eq, decide_eq_false_iff_not, Bool.not_eq_true', Bool.not_eq_false', Bool.and_eq_true, Bool.or_eq_true, Bool.and_eq_false_iff, Bool.or_eq_false_iff, Option.isNone_some, Option.isSome_some, Option.isNone_none, Option.isSome_none, Int.not_lt, Int.not_le, beq_iff_eq, beq_eq_false_iff_ne, bne_iff_ne, ne_eq, Bool.not_not, Decidable.not_not] at h8
        refine J.condF rfl rfl ?_
        refine J.seq rfl ?_
        refine J.region rfl ?_
        refine JO.pur rfl rfl rfl (Pur.move rfl) ?_
        refine JO.pur rfl rfl rfl (Pur.nilCheck rfl) ?_
        refine JO.pur rfl rfl rfl (Pur.fieldAddr rfl) ?_
        refine JO.pur rfl rfl rfl (Pur.load rfl (CellIn.blk rfl)) ?_
        refine JO.pur rfl rfl rfl (Pur.move rfl) ?_
        refine JO.pur rfl rfl rfl (Pur.idx rfl rfl rfl (by first | rfl | simp) (by first | rfl | exact (Int.toNat_of_nonneg (by omega)).symm) (by first | omega | (simp only [List.length_map]; omega) | (simp; omega))) ?_
        refine JO.pur rfl rfl rfl (Pur.fieldAddr rfl) ?_
        refine JO.pur rfl rfl rfl (Pur.load rfl (CellIn.el rfl (spot_get (by omega)) rfl)) ?_
        refine JO.pur rfl rfl rfl (Pur.not rfl) ?_
        refine JO.pur rfl rfl rfl (Pur.assign rfl) ?_
        refine JO.nil ?_
        refine J.splitB 13 rfl (fun h13 => ?_) (fun h13 => ?_)
        · try simp only [decide_eq_true_eq, decide_eq_false_iff_not, Bool.not_eq_true', Bool.not_eq_false', Bool.and_eq_true, Bool.or_eq_true, Bool.and_eq_false_iff, Bool.or_eq_false_iff, Option.isNone_some, Option.isSome_some, Option.isNone_none, Option.isSome_none, Int.not_lt, Int.not_le, beq_iff_eq, beq_eq_false_iff_ne, bne_iff_ne, ne_eq, Bool.not_not, Decidable.not_not] at h13
          refine J.condT rfl rfl ?_
          refine J.seq rfl ?_
          refine J.region rfl ?_
          refine JO.pur rfl rfl rfl (Pur.assign rfl) ?_
          refine JO.nil ?_
          refine J.ret rfl rfl ?_
          have e : idle σ p = (170, σ) := by unfold idle; rw [if_neg (by unfold isP; omega), if_pos h13]
          refine ⟨_, _, ⟨rfl, rfl⟩, ?_⟩
          rw [e]
          exact ⟨rfl, fun h hs => ring_shut (by simp [sendS, recvS, idleS, stepDown, newRound, tellS]) (by simp [sendS, recvS, idleS, stepDown, newRound, tellS] <;> omega) hs⟩
        · try simp only [decide_eq_true_eq, decide_eq_false_iff_not, Bool.not_eq_true', Bool.not_eq_false', Bool.and_eq_true, Bool.or_eq_true, Bool.and_eq_false_iff, Bool.or_eq_false_iff, Option.isNone_some, Option.isSome_some, Option.isNone_none, Option.isSome_none, Int.not_lt, Int.not_le, beq_iff_eq, beq_eq_false_iff_ne, bne_iff_ne, ne_eq, Bool.not_not, Decidable.not_not] at h13
          refine J.condF rfl rfl ?_
          refine J.skip rfl ?_
          refine J.inBlock ?_
          refine J.seq rfl ?_
          refine J.region rfl ?_
          refine JO.pur rfl rfl rfl (Pur.move rfl) ?_
          refine JO.pur rfl rfl rfl (Pur.nilCheck rfl) ?_
          refine JO.pur rfl rfl rfl (Pur.fieldAddr rfl) ?_
          refine JO.pur rfl rfl rfl (Pur.load rfl (CellIn.blk rfl)) ?_
          refine JO.pur rfl rfl rfl (Pur.move rfl) ?_
          refine JO.pur rfl rfl rfl (Pur.idx rfl rfl rfl (by first | rfl | simp) (by first | rfl | exact (Int.toNat_of_nonneg (by omega)).symm) (by first | omega | (simp only [List.length_map]; omega) | (simp; omega))) ?_
          refine JO.pur rfl rfl rfl (Pur.fieldAddr rfl) ?_
          refine JO.effN rfl rfl (Eff.storeS (z' := { spot σ p.toNat with active := false }) rfl rfl rfl rfl (spot_get (by omega)) .head) ?_
          rintro _ _ ⟨rfl, rfl⟩
          refine JO.nil ?_
          refine J.seq rfl ?_
          refine J.region rfl ?_
          refine JO.pur rfl rfl rfl (Pur.assign rfl) ?_
          refine JO.nil ?_
          refine J.ret rfl rfl ?_
          have e : idle σ p = (0, idleS σ p) := by unfold idle; rw [if_neg (by unfold isP; omega), if_neg (by simp [h13])]
          refine ⟨_, _, ⟨rfl, rfl⟩, ?_⟩
          rw [e]
          exact ⟨rfl, fun h hs => ring_shut (by simp [sendS, recvS, idleS, stepDown, newRound, tellS]) (by simp [sendS, recvS, idleS, stepDown, newRound, tellS] <;> omega) hs⟩

end Go.Proofs.Ytnllgmfpejjcnaa
