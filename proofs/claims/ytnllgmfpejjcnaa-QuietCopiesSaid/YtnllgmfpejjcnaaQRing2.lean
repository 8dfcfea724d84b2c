/-
  A part of the proof of the claim that this folder bears.
  This text: QRing2.
-/
import Derived.Test.YtnllgmfpejjcnaaQRing1
set_option linter.unusedVariables false
set_option linter.unusedSimpArgs false
namespace Go.Proofs.Ytnllgmfpejjcnaa
open Go Go.KK Qt

theorem send_at {L : List Asn} {r : Nat} {σ : St} {f : Asn → List Asn} [hh : RingAt L r σ f] {N : Nat} (hw : Wf σ N) (p q : Int) :
    CallS Try.prog 24 [.pointer (some ⟨r, 0, none⟩), .int .i64 p, .int .i64 q].toArray L (fun v M => v = .int .i64 (Qt.send σ p q).1 ∧ M = f (ringA r (Qt.send σ p q).2)) :=
  CallS.atM (fun R => send_ok r σ N hw p q) hh.out

theorem idle_at {L : List Asn} {r : Nat} {σ : St} {f : Asn → List Asn} [hh : RingAt L r σ f] {N : Nat} (hw : Wf σ N) (p : Int) :
    CallS Try.prog 26 [.pointer (some ⟨r, 0, none⟩), .int .i64 p].toArray L (fun v M => v = .int .i64 (Qt.idle σ p).1 ∧ M = f (ringA r (Qt.idle σ p).2)) :=
  CallS.atM (fun R => idle_ok r σ N hw p) hh.out

theorem told_at {L : List Asn} {r : Nat} {σ : St} {f : Asn → List Asn} [hh : RingAt L r σ f] {N : Nat} (hw : Wf σ N) :
    CallS Try.prog 16 [.pointer (some ⟨r, 0, none⟩)].toArray L (fun v M => v = .bool σ.told ∧ M = L) :=
  CallS.atR (fun R => told_ok r σ N hw) hh.out

theorem passes_at {L : List Asn} {r : Nat} {σ : St} {f : Asn → List Asn} [hh : RingAt L r σ f] {N : Nat} (hw : Wf σ N) :
    CallS Try.prog 27 [.pointer (some ⟨r, 0, none⟩)].toArray L (fun v M => v = .int .i64 σ.passes ∧ M = L) :=
  CallS.atR (fun R => passes_ok r σ N hw) hh.out

theorem recv_ok {R : List Asn} (r : Nat) (σ : St) (N : Nat) (hw : Wf σ N) (k : Int) :
    CallS Try.prog 25 [.pointer (some ⟨r, 0, none⟩), .int .i64 k].toArray (ringA r σ :: R) (fun v M => v = .int .i64 (Qt.recv σ k).1 ∧ M = ringA r (Qt.recv σ k).2 :: R) := by
  obtain ⟨w1, w2, w3, w4, w5, w55, w6, w7⟩ := hw
  refine CallS.ent ?_
  refine CallS.enter Try.func25 rfl rfl rfl rfl rfl ?_
  refine ring_open fun a b cap cap2 => ?_
  refine J.seq rfl ?_
  refine J.region rfl ?_
  refine JO.pur rfl rfl rfl (Pur.assign rfl) ?_
  refine JO.nil ?_
  refine J.seq rfl ?_
  refine J.block rfl ?_
  refine J.seq rfl ?_
  refine J.region rfl ?_
  refine JO.pur rfl rfl rfl (Pur.move rfl) ?_
  refine JO.effR rfl rfl rfl (Eff.call rfl (none_ok)) ?_
  refine JO.pur rfl rfl rfl (Pur.assign rfl) ?_
  refine JO.nil ?_
  refine J.splitB 6 rfl (fun h6 => ?_) (fun h6 => ?_)
  · try simp only [decide_eq_true_eq, decide_eq_false_iff_not, Bool.not_eq_true', Bool.not_eq_false', Bool.and_eq_true, Bool.or_eq_true, Bool.and_eq_false_iff, Bool.or_eq_false_iff, Option.isNone_some, Option.isSome_some, Option.isNone_none, Option.isSome_none, Int.not_lt, Int.not_le, beq_iff_eq, beq_eq_false_iff_ne, bne_iff_ne, ne_eq, Bool.not_not, Decidable.not_not] at h6
    first
    | (exfalso; omega)
    | refine J.condT rfl rfl ?_
      refine J.seq rfl ?_
      refine J.region rfl ?_
      refine JO.pur rfl rfl rfl (Pur.assign rfl) ?_
      refine JO.nil ?_
      refine J.ret rfl rfl ?_
      omega
  · try simp only [decide_eq_true_eq, decide_eq_false_iff_not, Bool.not_eq_true', Bool.not_eq_false', Bool.and_eq_true, Bool.or_eq_true, Bool.and_eq_false_iff, Bool.or_eq_false_iff, Option.isNone_some, Option.isSome_some, Option.isNone_none, Option.isSome_none, Int.not_lt, Int.not_le, beq_iff_eq, beq_eq_false_iff_ne, bne_iff_ne, ne_eq, Bool.not_not, Decidable.not_not] at h6
    first
    | (exfalso; omega)
    | refine J.condF rfl rfl ?_
      refine J.seq rfl ?_
      refine J.region rfl ?_
      refine JO.pur rfl rfl rfl (Pur.move rfl) ?_
      refine JO.pur rfl rfl rfl (Pur.lss rfl rfl) ?_
      refine JO.pur rfl rfl rfl (Pur.move rfl) ?_
      refine JO.splitB 12 rfl (fun h12 => ?_) (fun h12 => ?_)
      · try simp only [decide_eq_true_eq, decide_eq_false_iff_not, Bool.not_eq_true', Bool.not_eq_false', Bool.and_eq_true, Bool.or_eq_true, Bool.and_eq_false_iff, Bool.or_eq_false_iff, Option.isNone_some, Option.isSome_some, Option.isNone_none, Option.isSome_none, Int.not_lt, Int.not_le, beq_iff_eq, beq_eq_false_iff_ne, bne_iff_ne, ne_eq, Bool.not_not, Decidable.not_not] at h12
        refine JO.no rfl rfl rfl ?_
        refine JO.no rfl rfl rfl ?_
        refine JO.no rfl rfl rfl ?_
        refine JO.no rfl rfl rfl ?_
        refine JO.no rfl rfl rfl ?_
        refine JO.no rfl rfl rfl ?_
        refine JO.no rfl rfl rfl ?_
        refine JO.pur rfl rfl rfl (Pur.pickT rfl rfl) ?_
        refine JO.pur rfl rfl rfl (Pur.assign rfl) ?_
        refine JO.nil ?_
        refine J.condT rfl rfl ?_
        refine J.seq rfl ?_
        refine J.region rfl ?_
        refine JO.pur rfl rfl rfl (Pur.assign rfl) ?_
        refine JO.nil ?_
        refine J.ret rfl rfl ?_
        have e : Qt.recv σ k = (2, σ) := if_pos (by omega)
        refine ⟨_, _, ⟨rfl, rfl⟩, ?_⟩
        rw [e]
        exact ⟨rfl, fun h hs => ring_shut (by simp [sendS, recvS, idleS, stepDown, newRound, tellS]) (by simp [sendS, recvS, idleS, stepDown, newRound, tellS] <;> omega) hs⟩
      · try simp only [decide_eq_true_eq, decide_eq_false_iff_not, Bool.not_eq_true', Bool.not_eq_false', Bool.and_eq_true, Bool.or_eq_true, Bool.and_eq_false_iff, Bool.or_eq_false_iff, Option.isNone_some, Option.isSome_some, Option.isNone_none, Option.isSome_none, Int.not_lt, Int.not_le, beq_iff_eq, beq_eq_false_iff_ne, bne_iff_ne, ne_eq, Bool.not_not, Decidable.not_not] at h12
        refine JO.pur rfl rfl rfl (Pur.move rfl) ?_
        refine JO.pur rfl rfl rfl (Pur.move rfl) ?_
        refine JO.pur rfl rfl rfl (Pur.nilCheck rfl) ?_
        refine JO.pur rfl rfl rfl (Pur.fieldAddr rfl) ?_
        refine JO.pur rfl rfl rfl (Pur.load rfl (CellIn.blk rfl)) ?_
        refine JO.pur rfl rfl rfl (Pur.len rfl) ?_
        refine JO.pur rfl rfl rfl (Pur.geq rfl rfl) ?_
        refine JO.pur rfl rfl rfl (Pur.pickF rfl rfl) ?_
        refine JO.pur rfl rfl rfl (Pur.assign rfl) ?_
        refine JO.nil ?_
        refine J.splitB 9 rfl (fun h9 => ?_) (fun h9 => ?_)
        · try simp only [decide_eq_true_eq, decide_eq_false_iff_not, Bool.not_eq_true', Bool.not_eq_false', Bool.and_eq_true, Bool.or_eq_true, Bool.and_eq_false_iff, Bool.or_eq_false_iff, Option.isNone_some, Option.isSome_some, Option.isNone_none, Option.isSome_none, Int.not_lt, Int.not_le, beq_iff_eq, beq_eq_false_iff_ne, bne_iff_ne, ne_eq, Bool.not_not, Decidable.not_not] at h9
          refine J.condT rfl rfl ?_
          refine J.seq rfl ?_
          refine J.region rfl ?_
          refine JO.pur rfl rfl rfl (Pur.assign rfl) ?_
          refine JO.nil ?_
          refine J.ret rfl rfl ?_
          have e : Qt.recv σ k = (2, σ) := if_pos (by omega)
          refine ⟨_, _, ⟨rfl, rfl⟩, ?_⟩
          rw [e]
          exact ⟨rfl, fun h hs => ring_shut (by simp [sendS, recvS, idleS, stepDown, newRound, tellS]) (by simp [sendS, recvS, idleS, stepDown, newRound, tellS] <;> omega) hs⟩
        · try simp only [decide_eq_true_eq, decide_eq_false_iff_not, Bool.not_eq_true', Bool.not_eq_false', Bool.and_eq_true, Bool.or_eq_true, Bool.and_eq_false_iff, Bool.or_eq_false_iff, Option.isNone_some, Option.isSome_some, Option.isNone_none, Option.isSome_none, Int.not_lt, Int.not_le, beq_iff_eq, beq_eq_false_iff_ne, bne_iff_ne, ne_eq, Bool.not_not, Decidable.not_not] at h9
          have hk : 0 ≤ k ∧ k < (σ.fly.length : Int) := by omega
          have hp := fly_get (σ := σ) (k := k.toNat) (by omega)
          have hd := (w3 _ (List.mem_of_getElem? hp)).2
          have hcn := w4 _ (spot_mem (σ := σ) (i := (σ.fly.getD k.toNat (0, 0)).2.toNat) (by omega))
          have g1 : (σ.spots.set (σ.fly.getD k.toNat (0, 0)).2.toNat (⟨true, (spot σ (σ.fly.getD k.toNat (0, 0)).2.toNat).black, (spot σ (σ.fly.getD k.toNat (0, 0)).2.toNat).count⟩ : Spot))[(σ.fly.getD k.toNat (0, 0)).2.toNat]? = some ⟨true, (spot σ (σ.fly.getD k.toNat (0, 0)).2.toNat).black, (spot σ (σ.fly.getD k.toNat (0, 0)).2.toNat).count⟩ := List.getElem?_set_self (by omega)
          have g2 : ((σ.spots.set (σ.fly.getD k.toNat (0, 0)).2.toNat (⟨true, (spot σ (σ.fly.getD k.toNat (0, 0)).2.toNat).black, (spot σ (σ.fly.getD k.toNat (0, 0)).2.toNat).count⟩ : Spot)).set (σ.fly.getD k.toNat (0, 0)).2.toNat ⟨true, true, (spot σ (σ.fly.getD k.toNat (0, 0)).2.toNat).count⟩)[(σ.fly.getD k.toNat (0, 0)).2.toNat]? = some ⟨true, true, (spot σ (σ.fly.getD k.toNat (0, 0)).2.toNat).count⟩ := List.getElem?_set_self (by simp only [List.length_set]; omega)
          refine J.condF rfl rfl ?_
          refine J.skip rfl ?_
          refine J.inBlock ?_
          refine J.seq rfl ?_
          refine J.quiet rfl Try.mixed (by kernel_rfl) ?_
          refine JQ.pur rfl rfl rfl (Pur.move rfl) ?_
          refine JQ.pur rfl rfl rfl (Pur.nilCheck rfl) ?_
          refine JQ.pur rfl rfl rfl (Pur.fieldAddr rfl) ?_
          refine JQ.pur rfl rfl rfl (Pur.load rfl (CellIn.blk rfl)) ?_
          refine JQ.pur rfl rfl rfl (Pur.move rfl) ?_
          refine JQ.pur rfl rfl rfl (Pur.nilCheck rfl) ?_
          refine JQ.pur rfl rfl rfl (Pur.fieldAddr rfl) ?_
          refine JQ.pur rfl rfl rfl (Pur.load rfl (CellIn.blk rfl)) ?_
          refine JQ.pur rfl rfl rfl (Pur.move rfl) ?_
          refine JQ.pur rfl rfl rfl (Pur.idx rfl rfl rfl (by first | rfl | simp) (by first | rfl | exact (Int.toNat_of_nonneg (by omega)).symm) (by first | omega | (simp only [List.length_map]; omega) | (simp; omega))) ?_
          refine JQ.pur rfl rfl rfl (Pur.idxA (k := 1) rfl rfl rfl (by decide)) ?_
          refine JQ.pur rfl rfl rfl (Pur.load rfl (CellIn.el rfl hp rfl)) ?_
          refine JQ.pur rfl rfl rfl (Pur.idx rfl rfl rfl (by first | rfl | simp) (by first | rfl | exact (Int.toNat_of_nonneg (by omega)).symm) (by first | omega | (simp only [List.length_map]; omega) | (simp; omega))) ?_
          refine JQ.pur rfl rfl rfl (Pur.assign rfl) ?_
          refine JQ.nil ?_
          refine J.seq rfl ?_
          refine J.region rfl ?_
          refine JO.pur rfl rfl rfl (Pur.move rfl) ?_
          refine JO.pur rfl rfl rfl (Pur.move rfl) ?_
          refine JO.pur rfl rfl rfl (Pur.nilCheck rfl) ?_
          refine JO.pur rfl rfl rfl (Pur.fieldAddr rfl) ?_
          refine JO.effN rfl rfl (Eff.storeS (z' := (⟨true, (spot σ (σ.fly.getD k.toNat (0, 0)).2.toNat).black, (spot σ (σ.fly.getD k.toNat (0, 0)).2.toNat).count⟩ : Spot)) rfl rfl rfl rfl (spot_get (by omega)) .head) ?_
          rintro _ _ ⟨rfl, rfl⟩
          refine JO.pur rfl rfl rfl (Pur.nilCheck rfl) ?_
          refine JO.pur rfl rfl rfl (Pur.fieldAddr rfl) ?_
          refine JO.effN rfl rfl (Eff.storeS (z' := (⟨true, true, (spot σ (σ.fly.getD k.toNat (0, 0)).2.toNat).count⟩ : Spot)) rfl rfl rfl rfl g1 (.tail .head)) ?_
          rintro _ _ ⟨rfl, rfl⟩
          refine JO.nil ?_
          refine J.seq rfl ?_
          refine J.region rfl ?_
          refine JO.pur rfl rfl rfl (Pur.move rfl) ?_
          refine JO.pur rfl rfl rfl (Pur.nilCheck rfl) ?_
          refine JO.pur rfl rfl rfl (Pur.fieldAddr rfl) ?_
          refine JO.pur rfl rfl rfl (Pur.load rfl (CellIn.el rfl g2 rfl)) ?_
          refine JO.pur rfl rfl rfl (Pur.sub rfl rfl (wr64 (by dsimp only; omega))) ?_
          refine JO.pur rfl rfl rfl (Pur.nilCheck rfl) ?_
          refine JO.pur rfl rfl rfl (Pur.fieldAddr rfl) ?_
          refine JO.effN rfl rfl (Eff.storeS (z' := (⟨true, true, (spot σ (σ.fly.getD k.toNat (0, 0)).2.toNat).count - 1⟩ : Spot)) rfl rfl rfl rfl g2 (.tail (.tail .head))) ?_
          rintro _ _ ⟨rfl, rfl⟩
          refine JO.nil ?_
          refine J.seq rfl ?_
          refine J.region rfl ?_
          refine JO.pur rfl rfl rfl (Pur.move rfl) ?_
          refine JO.pur rfl rfl rfl (Pur.move rfl) ?_
          refine JO.pur rfl rfl rfl (Pur.nilCheck rfl) ?_
          refine JO.pur rfl rfl rfl (Pur.fieldAddr rfl) ?_
          refine JO.pur rfl rfl rfl (Pur.load rfl (CellIn.blk rfl)) ?_
          refine JO.pur rfl rfl rfl (Pur.move rfl) ?_
          refine JO.pur rfl rfl rfl (Pur.move rfl) ?_
          refine JO.pur rfl rfl rfl (Pur.add rfl rfl (wr64 (by omega))) ?_
          refine JO.eff rfl rfl rfl (Eff.call rfl (deletePairs k.toNat (k.toNat + 1) (by omega) (by omega) rfl (by omega) (by omega) (by omega))) ?_
          rintro _ _ ⟨_, ⟨rfl, rfl⟩, rfl⟩
          refine JO.pur rfl rfl rfl (Pur.nilCheck rfl) ?_
          refine JO.pur rfl rfl rfl (Pur.fieldAddr rfl) ?_
          refine JO.effN rfl rfl (Eff.storeB rfl rfl rfl (.tail .head)) ?_
          rintro _ _ ⟨rfl, rfl⟩
          refine JO.nil ?_
          refine J.seq rfl ?_
          refine J.region rfl ?_
          refine JO.pur rfl rfl rfl (Pur.assign rfl) ?_
          refine JO.nil ?_
          refine J.ret rfl rfl ?_
          have e : Qt.recv σ k = (0, recvS σ k) := if_neg (by omega)
          refine ⟨_, _, ⟨rfl, rfl⟩, ?_⟩
          rw [e]
          refine ⟨rfl, fun h hs => ?_⟩
          rw [List.set_set, List.set_set] at hs
          exact ring_shut (n := σ.spots.length) (m := k.toNat + (σ.fly.length - (k.toNat + 1))) (by simp [recvS]) (by simp [recvS]; omega) hs

theorem recv_at {L : List Asn} {r : Nat} {σ : St} {f : Asn → List Asn} [hh : RingAt L r σ f] {N : Nat} (hw : Wf σ N) (p : Int) :
    CallS Try.prog 25 [.pointer (some ⟨r, 0, none⟩), .int .i64 p].toArray L (fun v M => v = .int .i64 (Qt.recv σ p).1 ∧ M = f (ringA r (Qt.recv σ p).2)) :=
  CallS.atM (fun R => recv_ok r σ N hw p) hh.out

theorem pass_ok {R : List Asn} (r : Nat) (σ : St) (N : Nat) (hw : Wf σ N) :
    CallS Try.prog 17 [.pointer (some ⟨r, 0, none⟩)].toArray (ringA r σ :: R) (fun v M => v = .tuple #[.bool (Qt.pass σ).1, .int .i64 (Qt.pass σ).2.1] ∧ M = ringA r (Qt.pass σ).2.2 :: R) := by
  obtain ⟨w1, w2, w3, w4, w5, w55, w6, w7⟩ := hw
  refine CallS.ent ?_
  refine CallS.enter Try.func17 rfl rfl rfl rfl rfl ?_
  refine ring_open fun a b cap cap2 => ?_
  refine J.seq rfl ?_
  refine J.region rfl ?_
  refine JO.pur rfl rfl rfl (Pur.assign rfl) ?_
  refine JO.pur rfl rfl rfl (Pur.assign rfl) ?_
  refine JO.nil ?_
  refine J.seq rfl ?_
  refine J.block rfl ?_
  refine J.seq rfl ?_
  refine J.region rfl ?_
  refine JO.pur rfl rfl rfl (Pur.move rfl) ?_
  refine JO.effR rfl rfl rfl (Eff.call rfl (none_ok)) ?_
  refine JO.pur rfl rfl rfl (Pur.assign rfl) ?_
  refine JO.nil ?_
  refine J.splitB 5 rfl (fun h5 => ?_) (fun h5 => ?_)
  · try simp only [decide_eq_true_eq, decide_eq_false_iff_not, Bool.not_eq_true', Bool.not_eq_false', Bool.and_eq_true, Bool.or_eq_true, Bool.and_eq_false_iff, Bool.or_eq_false_iff, Option.isNone_some, Option.isSome_some, Option.isNone_none, Option.isSome_none, Int.not_lt, Int.not_le, beq_iff_eq, beq_eq_false_iff_ne, bne_iff_ne, ne_eq, Bool.not_not, Decidable.not_not] at h5
    first
    | (exfalso; omega)
    | refine J.condT rfl rfl ?_
      refine J.seq rfl ?_
      refine J.region rfl ?_
      refine JO.pur rfl rfl rfl (Pur.assign rfl) ?_
      refine JO.pur rfl rfl rfl (Pur.assign rfl) ?_
      refine JO.nil ?_
      refine J.ret rfl rfl ?_
      omega
  · try simp only [decide_eq_true_eq, decide_eq_false_iff_not, Bool.not_eq_true', Bool.not_eq_false', Bool.and_eq_true, Bool.or_eq_true, Bool.and_eq_false_iff, Bool.or_eq_false_iff, Option.isNone_some, Option.isSome_some, Option.isNone_none, Option.isSome_none, Int.not_lt, Int.not_le, beq_iff_eq, beq_eq_false_iff_ne, bne_iff_ne, ne_eq, Bool.not_not, Decidable.not_not] at h5
    first
    | (exfalso; omega)
    | refine J.condF rfl rfl ?_
      refine J.seq rfl ?_
      refine J.region rfl ?_
      refine JO.pur rfl rfl rfl (Pur.move rfl) ?_
      refine JO.pur rfl rfl rfl (Pur.nilCheck rfl) ?_
      refine JO.pur rfl rfl rfl (Pur.fieldAddr rfl) ?_
      refine JO.pur rfl rfl rfl (Pur.load rfl (CellIn.blk rfl)) ?_
      refine JO.pur rfl rfl rfl (Pur.assign rfl) ?_
      refine JO.nil ?_
      refine J.splitB 8 rfl (fun h8 => ?_) (fun h8 => ?_)
      · try simp only [decide_eq_true_eq, decide_eq_false_iff_not, Bool.not_eq_true', Bool.not_eq_false', Bool.and_eq_true, Bool.or_eq_true, Bool.and_eq_false_iff, Bool.or_eq_false_iff, Option.isNone_some, Option.isSome_some, Option.isNone_none, Option.isSome_none, Int.not_lt, Int.not_le, beq_iff_eq, beq_eq_false_iff_ne, bne_iff_ne, ne_eq, Bool.not_not, Decidable.not_not] at h8
        refine J.condT rfl rfl ?_
        refine J.seq rfl ?_
        refine J.region rfl ?_
        refine JO.pur rfl rfl rfl (Pur.assign rfl) ?_
        refine JO.pur rfl rfl rfl (Pur.assign rfl) ?_
        refine JO.nil ?_
        refine J.ret rfl rfl ?_
        have e : Qt.pass σ = (true, 0, σ) := by unfold Qt.pass; rw [if_pos h8]
        refine ⟨_, _, ⟨rfl, rfl⟩, ?_⟩
        rw [e]
        exact ⟨rfl, fun h hs => ring_shut (by simp [sendS, recvS, idleS, stepDown, newRound, tellS]) (by simp [sendS, recvS, idleS, stepDown, newRound, tellS] <;> omega) hs⟩
      · try simp only [decide_eq_true_eq, decide_eq_false_iff_not, Bool.not_eq_true', Bool.not_eq_false', Bool.and_eq_true, Bool.or_eq_true, Bool.and_eq_false_iff, Bool.or_eq_false_iff, Option.isNone_some, Option.isSome_some, Option.isNone_none, Option.isSome_none, Int.not_lt, Int.not_le, beq_iff_eq, beq_eq_false_iff_ne, bne_iff_ne, ne_eq, Bool.not_not, Decidable.not_not] at h8
        refine J.condF rfl rfl ?_
        refine J.seq rfl ?_
        refine J.quiet rfl Try.mixed (by kernel_rfl) ?_
        refine JQ.pur rfl rfl rfl (Pur.move rfl) ?_
        refine JQ.pur rfl rfl rfl (Pur.nilCheck rfl) ?_
        refine JQ.pur rfl rfl rfl (Pur.fieldAddr rfl) ?_
        refine JQ.pur rfl rfl rfl (Pur.load rfl (CellIn.blk rfl)) ?_
        refine JQ.pur rfl rfl rfl (Pur.move rfl) ?_
        refine JQ.pur rfl rfl rfl (Pur.nilCheck rfl) ?_
        refine JQ.pur rfl rfl rfl (Pur.fieldAddr rfl) ?_
        refine JQ.pur rfl rfl rfl (Pur.load rfl (CellIn.blk rfl)) ?_
        refine JQ.pur rfl rfl rfl (Pur.idx rfl rfl rfl (by first | rfl | simp) (by first | rfl | exact (Int.toNat_of_nonneg (by omega)).symm) (by first | omega | (simp only [List.length_map]; omega) | (simp; omega))) ?_
        refine JQ.pur rfl rfl rfl (Pur.fieldAddr rfl) ?_
        refine JQ.pur rfl rfl rfl (Pur.load rfl (CellIn.el rfl (spot_get (by omega)) rfl)) ?_
        refine JQ.pur rfl rfl rfl (Pur.assign rfl) ?_
        refine JQ.nil ?_
        refine J.splitB 13 rfl (fun h13 => ?_) (fun h13 => ?_)
        · try simp only [decide_eq_true_eq, decide_eq_false_iff_not, Bool.not_eq_true', Bool.not_eq_false', Bool.and_eq_true, Bool.or_eq_true, Bool.and_eq_false_iff, Bool.or_eq_false_iff, Option.isNone_some, Option.isSome_some, Option.isNone_none, Option.isSome_none, Int.not_lt, Int.not_le, beq_iff_eq, beq_eq_false_iff_ne, bne_iff_ne, ne_eq, Bool.not_not, Decidable.not_not] at h13
          refine J.condT rfl rfl ?_
          refine J.seq rfl ?_
          refine J.region rfl ?_
          refine JO.pur rfl rfl rfl (Pur.assign rfl) ?_
          refine JO.pur rfl rfl rfl (Pur.assign rfl) ?_
          refine JO.nil ?_
          refine J.ret rfl rfl ?_
          have e : Qt.pass σ = (false, 171, σ) := by unfold Qt.pass; rw [if_neg (by simp [h8]), if_pos h13]
          refine ⟨_, _, ⟨rfl, rfl⟩, ?_⟩
          rw [e]
          exact ⟨rfl, fun h hs => ring_shut (by simp [sendS, recvS, idleS, stepDown, newRound, tellS]) (by simp [sendS, recvS, idleS, stepDown, newRound, tellS] <;> omega) hs⟩
        · try simp only [decide_eq_true_eq, decide_eq_false_iff_not, Bool.not_eq_true', Bool.not_eq_false', Bool.and_eq_true, Bool.or_eq_true, Bool.and_eq_false_iff, Bool.or_eq_false_iff, Option.isNone_some, Option.isSome_some, Option.isNone_none, Option.isSome_none, Int.not_lt, Int.not_le, beq_iff_eq, beq_eq_false_iff_ne, bne_iff_ne, ne_eq, Bool.not_not, Decidable.not_not] at h13
          have hcn := w4 _ (spot_mem (σ := σ) (i := σ.pos) (by omega))
          refine J.condF rfl rfl ?_
          refine J.skip rfl ?_
          refine J.inBlock ?_
          refine J.seq rfl ?_
          refine J.region rfl ?_
          refine JO.pur rfl rfl rfl (Pur.move rfl) ?_
          refine JO.pur rfl rfl rfl (Pur.nilCheck rfl) ?_
          refine JO.pur rfl rfl rfl (Pur.fieldAddr rfl) ?_
          refine JO.pur rfl rfl rfl (Pur.load rfl (CellIn.blk rfl)) ?_
          refine JO.pur rfl rfl rfl (Pur.add rfl rfl (wr64 (by omega))) ?_
          refine JO.pur rfl rfl rfl (Pur.nilCheck rfl) ?_
          refine JO.pur rfl rfl rfl (Pur.fieldAddr rfl) ?_
          refine JO.effN rfl rfl (Eff.storeB rfl rfl rfl (.tail (.tail (.tail (.tail (.tail (.tail (.tail .head)))))))) ?_
          rintro _ _ ⟨rfl, rfl⟩
          refine JO.nil ?_
          refine J.seq rfl ?_
          refine J.quiet rfl Try.mixed (by kernel_rfl) ?_
          refine JQ.pur rfl rfl rfl (Pur.move rfl) ?_
          refine JQ.pur rfl rfl rfl (Pur.nilCheck rfl) ?_
          refine JQ.pur rfl rfl rfl (Pur.fieldAddr rfl) ?_
          refine JQ.pur rfl rfl rfl (Pur.load rfl (CellIn.blk rfl)) ?_
          refine JQ.pur rfl rfl rfl (Pur.move rfl) ?_
          refine JQ.pur rfl rfl rfl (Pur.nilCheck rfl) ?_
          refine JQ.pur rfl rfl rfl (Pur.fieldAddr rfl) ?_
          refine JQ.pur rfl rfl rfl (Pur.load rfl (CellIn.blk rfl)) ?_
          refine JQ.pur rfl rfl rfl (Pur.idx rfl rfl rfl (by first | rfl | simp) (by first | rfl | exact (Int.toNat_of_nonneg (by omega)).symm) (by first | omega | (simp only [List.length_map]; omega) | (simp; omega))) ?_
          refine JQ.pur rfl rfl rfl (Pur.assign rfl) ?_
          refine JQ.nil ?_
          refine J.seq rfl ?_
          refine J.seq rfl ?_
          refine J.region rfl ?_
          refine JO.pur rfl rfl rfl (Pur.move rfl) ?_
          refine JO.pur rfl rfl rfl (Pur.nilCheck rfl) ?_
          refine JO.pur rfl rfl rfl (Pur.fieldAddr rfl) ?_
          refine JO.pur rfl rfl rfl (Pur.load rfl (CellIn.blk rfl)) ?_
          refine JO.pur rfl rfl rfl (Pur.gtr rfl rfl) ?_
          refine JO.nil ?_
          refine J.splitB 45 rfl (fun h45 => ?_) (fun h45 => ?_)
          · try simp only [decide_eq_true_eq, decide_eq_false_iff_not, Bool.not_eq_true', Bool.not_eq_false', Bool.and_eq_true, Bool.or_eq_true, Bool.and_eq_false_iff, Bool.or_eq_false_iff, Option.isNone_some, Option.isSome_some, Option.isNone_none, Option.isSome_none, Int.not_lt, Int.not_le, beq_iff_eq, beq_eq_false_iff_ne, bne_iff_ne, ne_eq, Bool.not_not, Decidable.not_not] at h45
            have hp0 : 0 < σ.pos := by omega
            refine J.condT rfl rfl ?_
            refine J.seq rfl ?_
            refine J.mask0 (n := 12) [11] rfl Try.mixed rfl (by kernel_rfl) ?_
            refine JM.take 0 (fun _ h => h) rfl (by kernel_rfl) rfl rfl rfl (m' := 1) rfl (Pur.move rfl) ?_
            refine JM.take 1 (fun _ h => h) rfl (by kernel_rfl) rfl rfl rfl (m' := 3) rfl (Pur.nilCheck rfl) ?_
            refine JM.take 2 (fun _ h => h) rfl (by kernel_rfl) rfl rfl rfl (m' := 7) rfl (Pur.fieldAddr rfl) ?_
            refine JM.take 3 (fun _ h => h) rfl (by kernel_rfl) rfl rfl rfl (m' := 15) rfl (Pur.load rfl (CellIn.blk rfl)) ?_
            refine JM.take 4 (fun _ h => h) rfl (by kernel_rfl) rfl rfl rfl (m' := 31) rfl (Pur.move rfl) ?_
            refine JM.take 5 (fun _ h => h) rfl (by kernel_rfl) rfl rfl rfl (m' := 63) rfl (Pur.nilCheck rfl) ?_
            refine JM.take 6 (fun _ h => h) rfl (by kernel_rfl) rfl rfl rfl (m' := 127) rfl (Pur.fieldAddr rfl) ?_
            refine JM.take 7 (fun _ h => h) rfl (by kernel_rfl) rfl rfl rfl (m' := 255) rfl (Pur.load rfl (CellIn.el rfl (spot_get (by omega)) rfl)) ?_
            refine JM.take 8 (fun _ h => h) rfl (by kernel_rfl) rfl rfl rfl (m' := 511) rfl (Pur.add rfl rfl (wr64 (by omega))) ?_
            refine JM.take 9 (fun _ h => h) rfl (by kernel_rfl) rfl rfl rfl (m' := 1023) rfl (Pur.nilCheck rfl) ?_
            refine JM.take 10 (fun _ h => h) rfl (by kernel_rfl) rfl rfl rfl (m' := 2047) rfl (Pur.fieldAddr rfl) ?_
            refine JM.one (i := 11) (by kernel_rfl) ?_
            refine JMi.effN rfl rfl rfl (m' := 4095) rfl (Eff.storeB rfl rfl rfl (.tail (.tail (.tail .head)))) ?_
            rintro _ _ ⟨rfl, rfl⟩
            refine ⟨.inl (by simp), ?_⟩
            refine JM.done rfl ?_
            refine J.seq rfl ?_
            refine J.region rfl ?_
            refine JO.pur rfl rfl rfl (Pur.move rfl) ?_
            refine JO.pur rfl rfl rfl (Pur.move rfl) ?_
            refine JO.pur rfl rfl rfl (Pur.nilCheck rfl) ?_
            refine JO.pur rfl rfl rfl (Pur.fieldAddr rfl) ?_
            refine JO.pur rfl rfl rfl (Pur.load rfl (CellIn.blk rfl)) ?_
            refine JO.pur rfl rfl rfl (Pur.move rfl) ?_
            refine JO.splitB 62 rfl (fun h62 => ?_) (fun h62 => ?_)
            · try simp only [decide_eq_true_eq, decide_eq_false_iff_not, Bool.not_eq_true', Bool.not_eq_false', Bool.and_eq_true, Bool.or_eq_true, Bool.and_eq_false_iff, Bool.or_eq_false_iff, Option.isNone_some, Option.isSome_some, Option.isNone_none, Option.isSome_none, Int.not_lt, Int.not_le, beq_iff_eq, beq_eq_false_iff_ne, bne_iff_ne, ne_eq, Bool.not_not, Decidable.not_not] at h62
              refine JO.no rfl rfl rfl ?_
              refine JO.no rfl rfl rfl ?_
              refine JO.no rfl rfl rfl ?_
              refine JO.no rfl rfl rfl ?_
              refine JO.pur rfl rfl rfl (Pur.pickT rfl rfl) ?_
              refine JO.pur rfl rfl rfl (Pur.nilCheck rfl) ?_
              refine JO.pur rfl rfl rfl (Pur.fieldAddr rfl) ?_
              refine JO.effN rfl rfl (Eff.storeB rfl rfl rfl (.tail (.tail (.tail (.tail .head))))) ?_
              rintro _ _ ⟨rfl, rfl⟩
              refine JO.nil ?_
              refine J.seq rfl ?_
              refine J.region rfl ?_
              refine JO.pur rfl rfl rfl (Pur.move rfl) ?_
              refine JO.pur rfl rfl rfl (Pur.nilCheck rfl) ?_
              refine JO.pur rfl rfl rfl (Pur.fieldAddr rfl) ?_
              refine JO.effN rfl rfl (Eff.storeS (z' := { spot σ σ.pos with black := false }) rfl rfl rfl rfl (spot_get (by omega)) (.tail .head)) ?_
              rintro _ _ ⟨rfl, rfl⟩
              refine JO.nil ?_
              refine J.seq rfl ?_
              refine J.region rfl ?_
              refine JO.pur rfl rfl rfl (Pur.move rfl) ?_
              refine JO.pur rfl rfl rfl (Pur.nilCheck rfl) ?_
              refine JO.pur rfl rfl rfl (Pur.fieldAddr rfl) ?_
              refine JO.pur rfl rfl rfl (Pur.load rfl (CellIn.blk rfl)) ?_
              refine JO.pur rfl rfl rfl (Pur.sub rfl rfl (wr64 (by omega))) ?_
              refine JO.pur rfl rfl rfl (Pur.nilCheck rfl) ?_
              refine JO.pur rfl rfl rfl (Pur.fieldAddr rfl) ?_
              refine JO.effN rfl rfl (Eff.storeB rfl rfl rfl (.tail (.tail .head))) ?_
              rintro _ _ ⟨rfl, rfl⟩
              refine JO.nil ?_
              refine J.seq rfl ?_
              refine J.region rfl ?_
              refine JO.pur rfl rfl rfl (Pur.assign rfl) ?_
              refine JO.pur rfl rfl rfl (Pur.assign rfl) ?_
              refine JO.nil ?_
              refine J.ret rfl rfl ?_
              have e : Qt.pass σ = (false, 0, stepDown σ) := by unfold Qt.pass; rw [if_neg (by simp [h8]), if_neg (by simp [h13]), if_pos hp0]
              refine ⟨_, _, ⟨rfl, rfl⟩, ?_⟩
              rw [e]
              refine ⟨rfl, fun h hs => ?_⟩
              refine ring_shut (n := σ.spots.length) (m := σ.fly.length) (a := a) (b := b) (cap := cap) (cap2 := cap2) (σ := stepDown σ) (by simp [stepDown]) rfl ?_
              have e2 : ((stepDown σ).pos : Int) = (σ.pos : Int) - 1 := by simp [stepDown]; omega
              have e3 : (stepDown σ).dark = true := by simp [stepDown, h62]
              rw [e2, e3]
              exact hs
            · try simp only [decide_eq_true_eq, decide_eq_false_iff_not, Bool.not_eq_true', Bool.not_eq_false', Bool.and_eq_true, Bool.or_eq_true, Bool.and_eq_false_iff, Bool.or_eq_false_iff, Option.isNone_some, Option.isSome_some, Option.isNone_none, Option.isSome_none, Int.not_lt, Int.not_le, beq_iff_eq, beq_eq_false_iff_ne, bne_iff_ne, ne_eq, Bool.not_not, Decidable.not_not] at h62
              refine JO.pur rfl rfl rfl (Pur.move rfl) ?_
              refine JO.pur rfl rfl rfl (Pur.nilCheck rfl) ?_
              refine JO.pur rfl rfl rfl (Pur.fieldAddr rfl) ?_
              refine JO.pur rfl rfl rfl (Pur.load rfl (CellIn.el rfl (spot_get (by omega)) rfl)) ?_
              refine JO.pur rfl rfl rfl (Pur.pickF rfl rfl) ?_
              refine JO.pur rfl rfl rfl (Pur.nilCheck rfl) ?_
              refine JO.pur rfl rfl rfl (Pur.fieldAddr rfl) ?_
              refine JO.effN rfl rfl (Eff.storeB rfl rfl rfl (.tail (.tail (.tail (.tail .head))))) ?_
              rintro _ _ ⟨rfl, rfl⟩
              refine JO.nil ?_
              refine J.seq rfl ?_
              refine J.region rfl ?_
              refine JO.pur rfl rfl rfl (Pur.move rfl) ?_
              refine JO.pur rfl rfl rfl (Pur.nilCheck rfl) ?_
              refine JO.pur rfl rfl rfl (Pur.fieldAddr rfl) ?_
              refine JO.effN rfl rfl (Eff.storeS (z' := { spot σ σ.pos with black := false }) rfl rfl rfl rfl (spot_get (by omega)) (.tail .head)) ?_
              rintro _ _ ⟨rfl, rfl⟩
              refine JO.nil ?_
              refine J.seq rfl ?_
              refine J.region rfl ?_
              refine JO.pur rfl rfl rfl (Pur.move rfl) ?_
              refine JO.pur rfl rfl rfl (Pur.nilCheck rfl) ?_
              refine JO.pur rfl rfl rfl (Pur.fieldAddr rfl) ?_
              refine JO.pur rfl rfl rfl (Pur.load rfl (CellIn.blk rfl)) ?_
              refine JO.pur rfl rfl rfl (Pur.sub rfl rfl (wr64 (by omega))) ?_
              refine JO.pur rfl rfl rfl (Pur.nilCheck rfl) ?_
              refine JO.pur rfl rfl rfl (Pur.fieldAddr rfl) ?_
              refine JO.effN rfl rfl (Eff.storeB rfl rfl rfl (.tail (.tail .head))) ?_
              rintro _ _ ⟨rfl, rfl⟩
              refine JO.nil ?_
              refine J.seq rfl ?_
              refine J.region rfl ?_
              refine JO.pur rfl rfl rfl (Pur.assign rfl) ?_
              refine JO.pur rfl rfl rfl (Pur.assign rfl) ?_
              refine JO.nil ?_
              refine J.ret rfl rfl ?_
              have e : Qt.pass σ = (false, 0, stepDown σ) := by unfold Qt.pass; rw [if_neg (by simp [h8]), if_neg (by simp [h13]), if_pos hp0]
              refine ⟨_, _, ⟨rfl, rfl⟩, ?_⟩
              rw [e]
              refine ⟨rfl, fun h hs => ?_⟩
              refine ring_shut (n := σ.spots.length) (m := σ.fly.length) (a := a) (b := b) (cap := cap) (cap2 := cap2) (σ := stepDown σ) (by simp [stepDown]) rfl ?_
              have e2 : ((stepDown σ).pos : Int) = (σ.pos : Int) - 1 := by simp [stepDown]; omega
              have e3 : (stepDown σ).dark = (spot σ σ.pos).black := by simp [stepDown, h62]
              rw [e2, e3]
              exact hs
          · try simp only [decide_eq_true_eq, decide_eq_false_iff_not, Bool.not_eq_true', Bool.not_eq_false', Bool.and_eq_true, Bool.or_eq_true, Bool.and_eq_false_iff, Bool.or_eq_false_iff, Option.isNone_some, Option.isSome_some, Option.isNone_none, Option.isSome_none, Int.not_lt, Int.not_le, beq_iff_eq, beq_eq_false_iff_ne, bne_iff_ne, ne_eq, Bool.not_not, Decidable.not_not] at h45
            have hp0 : σ.pos = 0 := by omega
            refine J.condF rfl rfl ?_
            refine J.skip rfl ?_
            refine J.seq rfl ?_
            refine J.seq rfl ?_
            refine J.quiet rfl Try.mixed (by kernel_rfl) ?_
            refine JQ.pur rfl rfl rfl (Pur.move rfl) ?_
            refine JQ.pur rfl rfl rfl (Pur.nilCheck rfl) ?_
            refine JQ.pur rfl rfl rfl (Pur.fieldAddr rfl) ?_
            refine JQ.pur rfl rfl rfl (Pur.load rfl (CellIn.blk rfl)) ?_
            refine JQ.pur rfl rfl rfl (Pur.not rfl) ?_
            refine JQ.pur rfl rfl rfl (Pur.move rfl) ?_
            refine JQ.splitB 85 rfl (fun h85 => ?_) (fun h85 => ?_)
            · try simp only [decide_eq_true_eq, decide_eq_false_iff_not, Bool.not_eq_true', Bool.not_eq_false', Bool.and_eq_true, Bool.or_eq_true, Bool.and_eq_false_iff, Bool.or_eq_false_iff, Option.isNone_some, Option.isSome_some, Option.isNone_none, Option.isSome_none, Int.not_lt, Int.not_le, beq_iff_eq, beq_eq_false_iff_ne, bne_iff_ne, ne_eq, Bool.not_not, Decidable.not_not] at h85
              refine JQ.pur rfl rfl rfl (Pur.move rfl) ?_
              refine JQ.pur rfl rfl rfl (Pur.nilCheck rfl) ?_
              refine JQ.pur rfl rfl rfl (Pur.fieldAddr rfl) ?_
              refine JQ.pur rfl rfl rfl (Pur.load rfl (CellIn.blk rfl)) ?_
              refine JQ.pur rfl rfl rfl (Pur.not rfl) ?_
              refine JQ.pur rfl rfl rfl (Pur.pickT rfl rfl) ?_
              refine JQ.pur rfl rfl rfl (Pur.move rfl) ?_
              refine JQ.splitB 92 rfl (fun h92 => ?_) (fun h92 => ?_)
              · try simp only [decide_eq_true_eq, decide_eq_false_iff_not, Bool.not_eq_true', Bool.not_eq_false', Bool.and_eq_true, Bool.or_eq_true, Bool.and_eq_false_iff, Bool.or_eq_false_iff, Option.isNone_some, Option.isSome_some, Option.isNone_none, Option.isSome_none, Int.not_lt, Int.not_le, beq_iff_eq, beq_eq_false_iff_ne, bne_iff_ne, ne_eq, Bool.not_not, Decidable.not_not] at h92
                refine JQ.pur rfl rfl rfl (Pur.move rfl) ?_
                refine JQ.pur rfl rfl rfl (Pur.nilCheck rfl) ?_
                refine JQ.pur rfl rfl rfl (Pur.fieldAddr rfl) ?_
                refine JQ.pur rfl rfl rfl (Pur.load rfl (CellIn.el rfl (spot_get (by omega)) rfl)) ?_
                refine JQ.pur rfl rfl rfl (Pur.not rfl) ?_
                refine JQ.pur rfl rfl rfl (Pur.pickT rfl rfl) ?_
                refine JQ.pur rfl rfl rfl (Pur.move rfl) ?_
                refine JQ.splitB 99 rfl (fun h99 => ?_) (fun h99 => ?_)
                · try simp only [decide_eq_true_eq, decide_eq_false_iff_not, Bool.not_eq_true', Bool.not_eq_false', Bool.and_eq_true, Bool.or_eq_true, Bool.and_eq_false_iff, Bool.or_eq_false_iff, Option.isNone_some, Option.isSome_some, Option.isNone_none, Option.isSome_none, Int.not_lt, Int.not_le, beq_iff_eq, beq_eq_false_iff_ne, bne_iff_ne, ne_eq, Bool.not_not, Decidable.not_not] at h99
                  refine JQ.pur rfl rfl rfl (Pur.move rfl) ?_
                  refine JQ.pur rfl rfl rfl (Pur.nilCheck rfl) ?_
                  refine JQ.pur rfl rfl rfl (Pur.fieldAddr rfl) ?_
                  refine JQ.pur rfl rfl rfl (Pur.load rfl (CellIn.blk rfl)) ?_
                  refine JQ.pur rfl rfl rfl (Pur.move rfl) ?_
                  refine JQ.pur rfl rfl rfl (Pur.nilCheck rfl) ?_
                  refine JQ.pur rfl rfl rfl (Pur.fieldAddr rfl) ?_
                  refine JQ.pur rfl rfl rfl (Pur.load rfl (CellIn.el rfl (spot_get (by omega)) rfl)) ?_
                  refine JQ.pur rfl rfl rfl (Pur.add rfl rfl (wr64 (by omega))) ?_
                  refine JQ.pur rfl rfl rfl (Pur.eqlI rfl rfl) ?_
                  refine JQ.pur rfl rfl rfl (Pur.pickT rfl rfl) ?_
                  refine JQ.nil ?_
                  refine J.splitB 110 rfl (fun h110 => ?_) (fun h110 => ?_)
                  · try simp only [decide_eq_true_eq, decide_eq_false_iff_not, Bool.not_eq_true', Bool.not_eq_false', Bool.and_eq_true, Bool.or_eq_true, Bool.and_eq_false_iff, Bool.or_eq_false_iff, Option.isNone_some, Option.isSome_some, Option.isNone_none, Option.isSome_none, Int.not_lt, Int.not_le, beq_iff_eq, beq_eq_false_iff_ne, bne_iff_ne, ne_eq, Bool.not_not, Decidable.not_not] at h110
                    refine J.condT rfl rfl ?_
                    refine J.seq rfl ?_
                    refine J.region rfl ?_
                    refine JO.pur rfl rfl rfl (Pur.move rfl) ?_
                    refine JO.pur rfl rfl rfl (Pur.nilCheck rfl) ?_
                    refine JO.pur rfl rfl rfl (Pur.fieldAddr rfl) ?_
                    refine JO.effN rfl rfl (Eff.storeB rfl rfl rfl (.tail (.tail (.tail (.tail (.tail (.tail .head))))))) ?_
                    rintro _ _ ⟨rfl, rfl⟩
                    refine JO.nil ?_
                    refine J.seq rfl ?_
                    refine J.region rfl ?_
                    refine JO.pur rfl rfl rfl (Pur.assign rfl) ?_
                    refine JO.pur rfl rfl rfl (Pur.assign rfl) ?_
                    refine JO.nil ?_
                    refine J.ret rfl rfl ?_
                    have e : Qt.pass σ = (true, 0, tellS σ) := by unfold Qt.pass; rw [if_neg (by simp [h8]), if_neg (by simp [h13]), if_neg (by omega), if_pos (by rw [← hp0]; exact ⟨h85, h92, h99, h110⟩)]
                    refine ⟨_, _, ⟨rfl, rfl⟩, ?_⟩
                    rw [e]
                    exact ⟨rfl, fun h hs => ring_shut rfl rfl hs⟩
                  · try simp only [decide_eq_true_eq, decide_eq_false_iff_not, Bool.not_eq_true', Bool.not_eq_false', Bool.and_eq_true, Bool.or_eq_true, Bool.and_eq_false_iff, Bool.or_eq_false_iff, Option.isNone_some, Option.isSome_some, Option.isNone_none, Option.isSome_none, Int.not_lt, Int.not_le, beq_iff_eq, beq_eq_false_iff_ne, bne_iff_ne, ne_eq, Bool.not_not, Decidable.not_not] at h110
                    refine J.condF rfl rfl ?_
                    refine J.skip rfl ?_
                    refine J.seq rfl ?_
                    refine J.region rfl ?_
                    refine JO.pur rfl rfl rfl (Pur.move rfl) ?_
                    refine JO.pur rfl rfl rfl (Pur.move rfl) ?_
                    refine JO.pur rfl rfl rfl (Pur.move rfl) ?_
                    refine JO.pur rfl rfl rfl (Pur.nilCheck rfl) ?_
                    refine JO.pur rfl rfl rfl (Pur.fieldAddr rfl) ?_
                    refine JO.effN rfl rfl (Eff.storeS (z' := { spot σ σ.pos with black := false }) rfl rfl rfl rfl (spot_get (by omega)) (.tail .head)) ?_
                    rintro _ _ ⟨rfl, rfl⟩
                    refine JO.pur rfl rfl rfl (Pur.nilCheck rfl) ?_
                    refine JO.pur rfl rfl rfl (Pur.fieldAddr rfl) ?_
                    refine JO.effN rfl rfl (Eff.storeB rfl rfl rfl (.tail (.tail (.tail (.tail .head))))) ?_
                    rintro _ _ ⟨rfl, rfl⟩
                    refine JO.pur rfl rfl rfl (Pur.nilCheck rfl) ?_
                    refine JO.pur rfl rfl rfl (Pur.fieldAddr rfl) ?_
                    refine JO.effN rfl rfl (Eff.storeB rfl rfl rfl (.tail (.tail (.tail (.tail (.tail .head)))))) ?_
                    rintro _ _ ⟨rfl, rfl⟩
                    refine JO.nil ?_
                    refine J.seq rfl ?_
                    refine J.region rfl ?_
                    refine JO.pur rfl rfl rfl (Pur.move rfl) ?_
                    refine JO.pur rfl rfl rfl (Pur.move rfl) ?_
                    refine JO.pur rfl rfl rfl (Pur.move rfl) ?_
                    refine JO.pur rfl rfl rfl (Pur.nilCheck rfl) ?_
                    refine JO.pur rfl rfl rfl (Pur.fieldAddr rfl) ?_
                    refine JO.pur rfl rfl rfl (Pur.load rfl (CellIn.blk rfl)) ?_
                    refine JO.pur rfl rfl rfl (Pur.len rfl) ?_
                    refine JO.pur rfl rfl rfl (Pur.sub rfl rfl (wr64 (by omega))) ?_
                    refine JO.pur rfl rfl rfl (Pur.nilCheck rfl) ?_
                    refine JO.pur rfl rfl rfl (Pur.fieldAddr rfl) ?_
                    refine JO.effN rfl rfl (Eff.storeB rfl rfl rfl (.tail (.tail (.tail .head)))) ?_
                    rintro _ _ ⟨rfl, rfl⟩
                    refine JO.pur rfl rfl rfl (Pur.nilCheck rfl) ?_
                    refine JO.pur rfl rfl rfl (Pur.fieldAddr rfl) ?_
                    refine JO.effN rfl rfl (Eff.storeB rfl rfl rfl (.tail (.tail .head))) ?_
                    rintro _ _ ⟨rfl, rfl⟩
                    refine JO.nil ?_
                    refine J.seq rfl ?_
                    refine J.region rfl ?_
                    refine JO.pur rfl rfl rfl (Pur.assign rfl) ?_
                    refine JO.pur rfl rfl rfl (Pur.assign rfl) ?_
                    refine JO.nil ?_
                    refine J.ret rfl rfl ?_
                    have e : Qt.pass σ = (false, 0, newRound σ) := by unfold Qt.pass; rw [if_neg (by simp [h8]), if_neg (by simp [h13]), if_neg (by omega), if_neg (by rintro ⟨q1, q2, q3, q4⟩; rw [← hp0] at q3 q4; first | exact h110 q4 | (rw [q3] at h99; cases h99) | (rw [q2] at h92; cases h92) | (rw [q1] at h85; cases h85))]
                    refine ⟨_, _, ⟨rfl, rfl⟩, ?_⟩
                    rw [e]
                    refine ⟨rfl, fun h hs => ?_⟩
                    refine ring_shut (n := σ.spots.length) (m := σ.fly.length) (a := a) (b := b) (cap := cap) (cap2 := cap2) (σ := newRound σ) (by simp [newRound]) rfl ?_
                    have e2 : ((newRound σ).pos : Int) = (σ.spots.length : Int) - 1 := by simp [newRound]; omega
                    rw [e2]
                    rw [hp0] at hs
                    exact hs
                · try simp only [decide_eq_true_eq, decide_eq_false_iff_not, Bool.not_eq_true', Bool.not_eq_false', Bool.and_eq_true, Bool.or_eq_true, Bool.and_eq_false_iff, Bool.or_eq_false_iff, Option.isNone_some, Option.isSome_some, Option.isNone_none, Option.isSome_none, Int.not_lt, Int.not_le, beq_iff_eq, beq_eq_false_iff_ne, bne_iff_ne, ne_eq, Bool.not_not, Decidable.not_not] at h99
                  refine JQ.no rfl rfl rfl ?_
                  refine JQ.no rfl rfl rfl ?_
                  refine JQ.no rfl rfl rfl ?_
                  refine JQ.no rfl rfl rfl ?_
                  refine JQ.no rfl rfl rfl ?_
                  refine JQ.no rfl rfl rfl ?_
                  refine JQ.no rfl rfl rfl ?_
                  refine JQ.no rfl rfl rfl ?_
                  refine JQ.no rfl rfl rfl ?_
                  refine JQ.no rfl rfl rfl ?_
                  refine JQ.pur rfl rfl rfl (Pur.pickF rfl rfl) ?_
                  refine JQ.nil ?_
                  refine J.condF rfl rfl ?_
                  refine J.skip rfl ?_
                  refine J.seq rfl ?_
                  refine J.region rfl ?_
                  refine JO.pur rfl rfl rfl (Pur.move rfl) ?_
                  refine JO.pur rfl rfl rfl (Pur.move rfl) ?_
                  refine JO.pur rfl rfl rfl (Pur.move rfl) ?_
                  refine JO.pur rfl rfl rfl (Pur.nilCheck rfl) ?_
                  refine JO.pur rfl rfl rfl (Pur.fieldAddr rfl) ?_
                  refine JO.effN rfl rfl (Eff.storeS (z' := { spot σ σ.pos with black := false }) rfl rfl rfl rfl (spot_get (by omega)) (.tail .head)) ?_
                  rintro _ _ ⟨rfl, rfl⟩
                  refine JO.pur rfl rfl rfl (Pur.nilCheck rfl) ?_
                  refine JO.pur rfl rfl rfl (Pur.fieldAddr rfl) ?_
                  refine JO.effN rfl rfl (Eff.storeB rfl rfl rfl (.tail (.tail (.tail (.tail .head))))) ?_
                  rintro _ _ ⟨rfl, rfl⟩
                  refine JO.pur rfl rfl rfl (Pur.nilCheck rfl) ?_
                  refine JO.pur rfl rfl rfl (Pur.fieldAddr rfl) ?_
                  refine JO.effN rfl rfl (Eff.storeB rfl rfl rfl (.tail (.tail (.tail (.tail (.tail .head)))))) ?_
                  rintro _ _ ⟨rfl, rfl⟩
                  refine JO.nil ?_
                  refine J.seq rfl ?_
                  refine J.region rfl ?_
                  refine JO.pur rfl rfl rfl (Pur.move rfl) ?_
                  refine JO.pur rfl rfl rfl (Pur.move rfl) ?_
                  refine JO.pur rfl rfl rfl (Pur.move rfl) ?_
                  refine JO.pur rfl rfl rfl (Pur.nilCheck rfl) ?_
                  refine JO.pur rfl rfl rfl (Pur.fieldAddr rfl) ?_
                  refine JO.pur rfl rfl rfl (Pur.load rfl (CellIn.blk rfl)) ?_
                  refine JO.pur rfl rfl rfl (Pur.len rfl) ?_
                  refine JO.pur rfl rfl rfl (Pur.sub rfl rfl (wr64 (by omega))) ?_
                  refine JO.pur rfl rfl rfl (Pur.nilCheck rfl) ?_
                  refine JO.pur rfl rfl rfl (Pur.fieldAddr rfl) ?_
                  refine JO.effN rfl rfl (Eff.storeB rfl rfl rfl (.tail (.tail (.tail .head)))) ?_
                  rintro _ _ ⟨rfl, rfl⟩
                  refine JO.pur rfl rfl rfl (Pur.nilCheck rfl) ?_
                  refine JO.pur rfl rfl rfl (Pur.fieldAddr rfl) ?_
                  refine JO.effN rfl rfl (Eff.storeB rfl rfl rfl (.tail (.tail .head))) ?_
                  rintro _ _ ⟨rfl, rfl⟩
                  refine JO.nil ?_
                  refine J.seq rfl ?_
                  refine J.region rfl ?_
                  refine JO.pur rfl rfl rfl (Pur.assign rfl) ?_
                  refine JO.pur rfl rfl rfl (Pur.assign rfl) ?_
                  refine JO.nil ?_
                  refine J.ret rfl rfl ?_
                  have e : Qt.pass σ = (false, 0, newRound σ) := by unfold Qt.pass; rw [if_neg (by simp [h8]), if_neg (by simp [h13]), if_neg (by omega), if_neg (by rintro ⟨q1, q2, q3, q4⟩; rw [← hp0] at q3 q4; first | exact h110 q4 | (rw [q3] at h99; cases h99) | (rw [q2] at h92; cases h92) | (rw [q1] at h85; cases h85))]
                  refine ⟨_, _, ⟨rfl, rfl⟩, ?_⟩
                  rw [e]
                  refine ⟨rfl, fun h hs => ?_⟩
                  refine ring_shut (n := σ.spots.length) (m := σ.fly.length) (a := a) (b := b) (cap := cap) (cap2 := cap2) (σ := newRound σ) (by simp [newRound]) rfl ?_
                  have e2 : ((newRound σ).pos : Int) = (σ.spots.length : Int) - 1 := by simp [newRound]; omega
                  rw [e2]
                  rw [hp0] at hs
                  exact hs
              · try simp only [decide_eq_true_eq, decide_eq_false_iff_not, Bool.not_eq_true', Bool.not_eq_false', Bool.and_eq_true, Bool.or_eq_true, Bool.and_eq_false_iff, Bool.or_eq_false_iff, Option.isNone_some, Option.isSome_some, Option.isNone_none, Option.isSome_none, Int.not_lt, Int.not_le, beq_iff_eq, beq_eq_false_iff_ne, bne_iff_ne, ne_eq, Bool.not_not, Decidable.not_not] at h92
                refine JQ.no rfl rfl rfl ?_
                refine JQ.no rfl rfl rfl ?_
                refine JQ.no rfl rfl rfl ?_
                refine JQ.no rfl rfl rfl ?_
                refine JQ.no rfl rfl rfl ?_
                refine JQ.pur rfl rfl rfl (Pur.pickF rfl rfl) ?_
                refine JQ.pur rfl rfl rfl (Pur.move rfl) ?_
                refine JQ.no rfl rfl rfl ?_
                refine JQ.no rfl rfl rfl ?_
                refine JQ.no rfl rfl rfl ?_
                refine JQ.no rfl rfl rfl ?_
                refine JQ.no rfl rfl rfl ?_
                refine JQ.no rfl rfl rfl ?_
                refine JQ.no rfl rfl rfl ?_
                refine JQ.no rfl rfl rfl ?_
                refine JQ.no rfl rfl rfl ?_
                refine JQ.no rfl rfl rfl ?_
                refine JQ.pur rfl rfl rfl (Pur.pickF rfl rfl) ?_
                refine JQ.nil ?_
                refine J.condF rfl rfl ?_
                refine J.skip rfl ?_
                refine J.seq rfl ?_
                refine J.region rfl ?_
                refine JO.pur rfl rfl rfl (Pur.move rfl) ?_
                refine JO.pur rfl rfl rfl (Pur.move rfl) ?_
                refine JO.pur rfl rfl rfl (Pur.move rfl) ?_
                refine JO.pur rfl rfl rfl (Pur.nilCheck rfl) ?_
                refine JO.pur rfl rfl rfl (Pur.fieldAddr rfl) ?_
                refine JO.effN rfl rfl (Eff.storeS (z' := { spot σ σ.pos with black := false }) rfl rfl rfl rfl (spot_get (by omega)) (.tail .head)) ?_
                rintro _ _ ⟨rfl, rfl⟩
                refine JO.pur rfl rfl rfl (Pur.nilCheck rfl) ?_
                refine JO.pur rfl rfl rfl (Pur.fieldAddr rfl) ?_
                refine JO.effN rfl rfl (Eff.storeB rfl rfl rfl (.tail (.tail (.tail (.tail .head))))) ?_
                rintro _ _ ⟨rfl, rfl⟩
                refine JO.pur rfl rfl rfl (Pur.nilCheck rfl) ?_
                refine JO.pur rfl rfl rfl (Pur.fieldAddr rfl) ?_
                refine JO.effN rfl rfl (Eff.storeB rfl rfl rfl (.tail (.tail (.tail (.tail (.tail .head)))))) ?_
                rintro _ _ ⟨rfl, rfl⟩
                refine JO.nil ?_
                refine J.seq rfl ?_
                refine J.region rfl ?_
                refine JO.pur rfl rfl rfl (Pur.move rfl) ?_
                refine JO.pur rfl rfl rfl (Pur.move rfl) ?_
                refine JO.pur rfl rfl rfl (Pur.move rfl) ?_
                refine JO.pur rfl rfl rfl (Pur.nilCheck rfl) ?_
                refine JO.pur rfl rfl rfl (Pur.fieldAddr rfl) ?_
                refine JO.pur rfl rfl rfl (Pur.load rfl (CellIn.blk rfl)) ?_
                refine JO.pur rfl rfl rfl (Pur.len rfl) ?_
                refine JO.pur rfl rfl rfl (Pur.sub rfl rfl (wr64 (by omega))) ?_
                refine JO.pur rfl rfl rfl (Pur.nilCheck rfl) ?_
                refine JO.pur rfl rfl rfl (Pur.fieldAddr rfl) ?_
                refine JO.effN rfl rfl (Eff.storeB rfl rfl rfl (.tail (.tail (.tail .head)))) ?_
                rintro _ _ ⟨rfl, rfl⟩
                refine JO.pur rfl rfl rfl (Pur.nilCheck rfl) ?_
                refine JO.pur rfl rfl rfl (Pur.fieldAddr rfl) ?_
                refine JO.effN rfl rfl (Eff.storeB rfl rfl rfl (.tail (.tail .head))) ?_
                rintro _ _ ⟨rfl, rfl⟩
                refine JO.nil ?_
                refine J.seq rfl ?_
                refine J.region rfl ?_
                refine JO.pur rfl rfl rfl (Pur.assign rfl) ?_
                refine JO.pur rfl rfl rfl (Pur.assign rfl) ?_
                refine JO.nil ?_
                refine J.ret rfl rfl ?_
                have e : Qt.pass σ = (false, 0, newRound σ) := by unfold Qt.pass; rw [if_neg (by simp [h8]), if_neg (by simp [h13]), if_neg (by omega), if_neg (by rintro ⟨q1, q2, q3, q4⟩; rw [← hp0] at q3 q4; first | exact h110 q4 | (rw [q3] at h99; cases h99) | (rw [q2] at h92; cases h92) | (rw [q1] at h85; cases h85))]
                refine ⟨_, _, ⟨rfl, rfl⟩, ?_⟩
                rw [e]
                refine ⟨rfl, fun h hs => ?_⟩
                refine ring_shut (n := σ.spots.length) (m := σ.fly.length) (a := a) (b := b) (cap := cap) (cap2 := cap2) (σ := newRound σ) (by simp [newRound]) rfl ?_
                have e2 : ((newRound σ).pos : Int) = (σ.spots.length : Int) - 1 := by simp [newRound]; omega
                rw [e2]
                rw [hp0] at hs
                exact hs
            · try simp only [decide_eq_true_eq, decide_eq_false_iff_not, Bool.not_eq_true', Bool.not_eq_false', Bool.and_eq_true, Bool.or_eq_true, Bool.and_eq_false_iff, Bool.or_eq_false_iff, Option.isNone_some, Option.isSome_some, Option.isNone_none, Option.isSome_none, Int.not_lt, Int.not_le, beq_iff_eq, beq_eq_false_iff_ne, bne_iff_ne, ne_eq, Bool.not_not, Decidable.not_not] at h85
              refine JQ.no rfl rfl rfl ?_
              refine JQ.no rfl rfl rfl ?_
              refine JQ.no rfl rfl rfl ?_
              refine JQ.no rfl rfl rfl ?_
              refine JQ.no rfl rfl rfl ?_
              refine JQ.pur rfl rfl rfl (Pur.pickF rfl rfl) ?_
              refine JQ.pur rfl rfl rfl (Pur.move rfl) ?_
              refine JQ.no rfl rfl rfl ?_
              refine JQ.no rfl rfl rfl ?_
              refine JQ.no rfl rfl rfl ?_
              refine JQ.no rfl rfl rfl ?_
              refine JQ.no rfl rfl rfl ?_
              refine JQ.pur rfl rfl rfl (Pur.pickF rfl rfl) ?_
              refine JQ.pur rfl rfl rfl (Pur.move rfl) ?_
              refine JQ.no rfl rfl rfl ?_
              refine JQ.no rfl rfl rfl ?_
              refine JQ.no rfl rfl rfl ?_
              refine JQ.no rfl rfl rfl ?_
              refine JQ.no rfl rfl rfl ?_
              refine JQ.no rfl rfl rfl ?_
              refine JQ.no rfl rfl rfl ?_
              refine JQ.no rfl rfl rfl ?_
              refine JQ.no rfl rfl rfl ?_
              refine JQ.no rfl rfl rfl ?_
              refine JQ.pur rfl rfl rfl (Pur.pickF rfl rfl) ?_
              refine JQ.nil ?_
              refine J.condF rfl rfl ?_
              refine J.skip rfl ?_
              refine J.seq rfl ?_
              refine J.region rfl ?_
              refine JO.pur rfl rfl rfl (Pur.move rfl) ?_
              refine JO.pur rfl rfl rfl (Pur.move rfl) ?_
              refine JO.pur rfl rfl rfl (Pur.move rfl) ?_
              refine JO.pur rfl rfl rfl (Pur.nilCheck rfl) ?_
              refine JO.pur rfl rfl rfl (Pur.fieldAddr rfl) ?_
              refine JO.effN rfl rfl (Eff.storeS (z' := { spot σ σ.pos with black := false }) rfl rfl rfl rfl (spot_get (by omega)) (.tail .head)) ?_
              rintro _ _ ⟨rfl, rfl⟩
              refine JO.pur rfl rfl rfl (Pur.nilCheck rfl) ?_
              refine JO.pur rfl rfl rfl (Pur.fieldAddr rfl) ?_
              refine JO.effN rfl rfl (Eff.storeB rfl rfl rfl (.tail (.tail (.tail (.tail .head))))) ?_
              rintro _ _ ⟨rfl, rfl⟩
              refine JO.pur rfl rfl rfl (Pur.nilCheck rfl) ?_
              refine JO.pur rfl rfl rfl (Pur.fieldAddr rfl) ?_
              refine JO.effN rfl rfl (Eff.storeB rfl rfl rfl (.tail (.tail (.tail (.tail (.tail .head)))))) ?_
              rintro _ _ ⟨rfl, rfl⟩
              refine JO.nil ?_
              refine J.seq rfl ?_
              refine J.region rfl ?_
              refine JO.pur rfl rfl rfl (Pur.move rfl) ?_
              refine JO.pur rfl rfl rfl (Pur.move rfl) ?_
              refine JO.pur rfl rfl rfl (Pur.move rfl) ?_
              refine JO.pur rfl rfl rfl (Pur.nilCheck rfl) ?_
              refine JO.pur rfl rfl rfl (Pur.fieldAddr rfl) ?_
              refine JO.pur rfl rfl rfl (Pur.load rfl (CellIn.blk rfl)) ?_
              refine JO.pur rfl rfl rfl (Pur.len rfl) ?_
              refine JO.pur rfl rfl rfl (Pur.sub rfl rfl (wr64 (by omega))) ?_
              refine JO.pur rfl rfl rfl (Pur.nilCheck rfl) ?_
              refine JO.pur rfl rfl rfl (Pur.fieldAddr rfl) ?_
              refine JO.effN rfl rfl (Eff.storeB rfl rfl rfl (.tail (.tail (.tail .head)))) ?_
              rintro _ _ ⟨rfl, rfl⟩
              refine JO.pur rfl rfl rfl (Pur.nilCheck rfl) ?_
              refine JO.pur rfl rfl rfl (Pur.fieldAddr rfl) ?_
              refine JO.effN rfl rfl (Eff.storeB rfl rfl rfl (.tail (.tail .head))) ?_
              rintro _ _ ⟨rfl, rfl⟩
              refine JO.nil ?_
              refine J.seq rfl ?_
              refine J.region rfl ?_
              refine JO.pur rfl rfl rfl (Pur.assign rfl) ?_
              refine JO.pur rfl rfl rfl (Pur.assign rfl) ?_
              refine JO.nil ?_
              refine J.ret rfl rfl ?_
              have e : Qt.pass σ = (false, 0, newRound σ) := by unfold Qt.pass; rw [if_neg (by simp [h8]), if_neg (by simp [h13]), if_neg (by omega), if_neg (by rintro ⟨q1, q2, q3, q4⟩; rw [← hp0] at q3 q4; first | exact h110 q4 | (rw [q3] at h99; cases h99) | (rw [q2] at h92; cases h92) | (rw [q1] at h85; cases h85))]
              refine ⟨_, _, ⟨rfl, rfl⟩, ?_⟩
              rw [e]
              refine ⟨rfl, fun h hs => ?_⟩
              refine ring_shut (n := σ.spots.length) (m := σ.fly.length) (a := a) (b := b) (cap := cap) (cap2 := cap2) (σ := newRound σ) (by simp [newRound]) rfl ?_
              have e2 : ((newRound σ).pos : Int) = (σ.spots.length : Int) - 1 := by simp [newRound]; omega
              rw [e2]
              rw [hp0] at hs
              exact hs

theorem pass_at {L : List Asn} {r : Nat} {σ : St} {f : Asn → List Asn} [hh : RingAt L r σ f] {N : Nat} (hw : Wf σ N) :
    CallS Try.prog 17 [.pointer (some ⟨r, 0, none⟩)].toArray L (fun v M => v = .tuple #[.bool (Qt.pass σ).1, .int .i64 (Qt.pass σ).2.1] ∧ M = f (ringA r (Qt.pass σ).2.2)) :=
  CallS.atM (fun R => pass_ok r σ N hw) hh.out

end Go.Proofs.Ytnllgmfpejjcnaa
