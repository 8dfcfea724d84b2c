/-
  A part of the proof of the claim that this folder bears.
  This text: QLaw1.
-/
import Derived.Test.YtnllgmfpejjcnaaQNew
set_option linter.unusedVariables false
set_option linter.unusedSimpArgs false
namespace Go.Proofs.Ytnllgmfpejjcnaa
open Go Go.KK Qt

theorem newBad {L : List Asn} (n : Int) (h : n < 1 ∨ 8 < n) : CallS Try.prog 32 [.int .i64 n].toArray L (fun v M => v = .tuple #[.pointer none, .int .i64 2] ∧ M = L) :=
  (new_ok n).mono fun v M q => by
    rcases q with ⟨_, e1, e2⟩ | ⟨r, h2, _, _⟩
    · exact ⟨M, ⟨e1, e2⟩, fun _ h => h⟩
    · omega
theorem newGood {L : List Asn} (n : Int) (h : 1 ≤ n ∧ n ≤ 8) : CallS Try.prog 32 [.int .i64 n].toArray L (fun v M => ∃ r, v = .tuple #[.pointer (some ⟨r, 0, none⟩), .int .i64 0] ∧ M = ringA r (init n.toNat) :: L) :=
  (new_ok n).mono fun v M q => by
    rcases q with ⟨h1, _, _⟩ | ⟨r, h2, e1, e2⟩
    · omega
    · exact ⟨M, ⟨r, e1, e2⟩, fun _ h => h⟩

theorem rnewBad {L : List Asn} (n : Int) (h : n < 1 ∨ 8 < n) : CallS Try.prog 33 [.int .i64 n].toArray L (fun v M => v = .tuple #[.pointer none, .int .i64 2] ∧ M = L) :=
  (rnew_ok n).mono fun v M q => by
    rcases q with ⟨_, e1, e2⟩ | ⟨r, h2, _, _⟩
    · exact ⟨M, ⟨e1, e2⟩, fun _ h => h⟩
    · omega
theorem rnewGood {L : List Asn} (n : Int) (h : 1 ≤ n ∧ n ≤ 8) : CallS Try.prog 33 [.int .i64 n].toArray L (fun v M => ∃ r, v = .tuple #[.pointer (some ⟨r, 0, none⟩), .int .i64 0] ∧ M = refA r (init n.toNat) :: L) :=
  (rnew_ok n).mono fun v M q => by
    rcases q with ⟨h1, _, _⟩ | ⟨r, h2, e1, e2⟩
    · omega
    · exact ⟨M, ⟨r, e1, e2⟩, fun _ h => h⟩

theorem beginBad {L : List Asn} (n : Int) (h : n < 1 ∨ 8 < n) :
    CallS Try.prog 10 [.int .i64 n].toArray L (fun v M => v = .tuple #[.pointer none, .bool true] ∧ M = L) := by
  refine CallS.enter Try.func10 rfl rfl rfl rfl rfl ?_
  refine J.seq rfl ?_
  refine J.region rfl ?_
  refine JO.pur rfl rfl rfl (Pur.assign rfl) ?_
  refine JO.pur rfl rfl rfl (Pur.assign rfl) ?_
  refine JO.nil ?_
  refine J.seq rfl ?_
  refine J.region rfl ?_
  refine JO.pur rfl rfl rfl (Pur.move rfl) ?_
  refine JO.effR rfl rfl rfl (Eff.call rfl (newBad n h)) ?_
  refine JO.pur rfl rfl rfl (Pur.move rfl) ?_
  refine JO.pur rfl rfl rfl (Pur.extract rfl rfl) ?_
  refine JO.pur rfl rfl rfl (Pur.extract rfl rfl) ?_
  refine JO.pur rfl rfl rfl (Pur.assign rfl) ?_
  refine JO.pur rfl rfl rfl (Pur.assign rfl) ?_
  refine JO.nil ?_
  refine J.seq rfl ?_
  refine J.region rfl ?_
  refine JO.pur rfl rfl rfl (Pur.move rfl) ?_
  refine JO.effR rfl rfl rfl (Eff.call rfl (rnewBad n h)) ?_
  refine JO.pur rfl rfl rfl (Pur.move rfl) ?_
  refine JO.pur rfl rfl rfl (Pur.extract rfl rfl) ?_
  refine JO.pur rfl rfl rfl (Pur.extract rfl rfl) ?_
  refine JO.pur rfl rfl rfl (Pur.assign rfl) ?_
  refine JO.pur rfl rfl rfl (Pur.assign rfl) ?_
  refine JO.nil ?_
  refine J.seq rfl ?_
  refine J.seq rfl ?_
  refine J.region rfl ?_
  refine JO.pur rfl rfl rfl (Pur.move rfl) ?_
  refine JO.pur rfl rfl rfl (Pur.move rfl) ?_
  refine JO.pur rfl rfl rfl (Pur.neqI rfl rfl) ?_
  refine JO.pur rfl rfl rfl (Pur.move rfl) ?_
  refine JO.setv (u' := .bool false) 21 rfl (congrArg Value.bool ((by simp))) ?_
  refine JO.pur rfl rfl rfl (Pur.move rfl) ?_
  refine JO.pur rfl rfl rfl (Pur.eqlPtrNil rfl) ?_
  refine JO.pur rfl rfl rfl (Pur.move rfl) ?_
  refine JO.pur rfl rfl rfl (Pur.eqlPtrNil rfl) ?_
  refine JO.pur rfl rfl rfl (Pur.neqB rfl rfl) ?_
  refine JO.pur rfl rfl rfl (Pur.pickF rfl rfl) ?_
  refine JO.nil ?_
  refine J.setv (u' := .bool false) 27 rfl (congrArg Value.bool ((by simp))) ?_
  refine J.condF rfl rfl ?_
  refine J.skip rfl ?_
  refine J.seq rfl ?_
  refine J.seq rfl ?_
  refine J.region rfl ?_
  refine JO.pur rfl rfl rfl (Pur.move rfl) ?_
  refine JO.pur rfl rfl rfl (Pur.eqlPtrNil rfl) ?_
  refine JO.nil ?_
  refine J.setv (u' := .bool true) 29 rfl (congrArg Value.bool ((by simp))) ?_
  refine J.condT rfl rfl ?_
  refine J.seq rfl ?_
  refine J.region rfl ?_
  refine JO.pur rfl rfl rfl (Pur.assign rfl) ?_
  refine JO.pur rfl rfl rfl (Pur.assign rfl) ?_
  refine JO.nil ?_
  refine J.ret rfl rfl ?_
  exact ⟨rfl, rfl⟩

theorem beginGood {L : List Asn} (n : Int) (h : 1 ≤ n ∧ n ≤ 8) :
    CallS Try.prog 10 [.int .i64 n].toArray L (fun v M => ∃ p r s, v = .tuple #[.pointer (some ⟨p, 0, none⟩), .bool true] ∧ M = blk p (.cells #[.pointer (some ⟨r, 0, none⟩), .pointer (some ⟨s, 0, none⟩)] 35 (0, 0)) :: refA s (init n.toNat) :: ringA r (init n.toNat) :: L) := by
  refine CallS.enter Try.func10 rfl rfl rfl rfl rfl ?_
  refine J.seq rfl ?_
  refine J.region rfl ?_
  refine JO.pur rfl rfl rfl (Pur.assign rfl) ?_
  refine JO.pur rfl rfl rfl (Pur.assign rfl) ?_
  refine JO.nil ?_
  refine J.seq rfl ?_
  refine J.region rfl ?_
  refine JO.pur rfl rfl rfl (Pur.move rfl) ?_
  refine JO.eff rfl rfl rfl (Eff.call rfl (newGood n h)) ?_
  rintro _ _ ⟨r, rfl, rfl⟩
  refine JO.pur rfl rfl rfl (Pur.move rfl) ?_
  refine JO.pur rfl rfl rfl (Pur.extract rfl rfl) ?_
  refine JO.pur rfl rfl rfl (Pur.extract rfl rfl) ?_
  refine JO.pur rfl rfl rfl (Pur.assign rfl) ?_
  refine JO.pur rfl rfl rfl (Pur.assign rfl) ?_
  refine JO.nil ?_
  refine J.seq rfl ?_
  refine J.region rfl ?_
  refine JO.pur rfl rfl rfl (Pur.move rfl) ?_
  refine JO.eff rfl rfl rfl (Eff.call rfl (rnewGood n h)) ?_
  rintro _ _ ⟨s, rfl, rfl⟩
  refine JO.pur rfl rfl rfl (Pur.move rfl) ?_
  refine JO.pur rfl rfl rfl (Pur.extract rfl rfl) ?_
  refine JO.pur rfl rfl rfl (Pur.extract rfl rfl) ?_
  refine JO.pur rfl rfl rfl (Pur.assign rfl) ?_
  refine JO.pur rfl rfl rfl (Pur.assign rfl) ?_
  refine JO.nil ?_
  refine J.seq rfl ?_
  refine J.seq rfl ?_
  refine J.region rfl ?_
  refine JO.pur rfl rfl rfl (Pur.move rfl) ?_
  refine JO.pur rfl rfl rfl (Pur.move rfl) ?_
  refine JO.pur rfl rfl rfl (Pur.neqI rfl rfl) ?_
  refine JO.pur rfl rfl rfl (Pur.move rfl) ?_
  refine JO.setv (u' := .bool false) 21 rfl (congrArg Value.bool ((by simp))) ?_
  refine JO.pur rfl rfl rfl (Pur.move rfl) ?_
  refine JO.pur rfl rfl rfl (Pur.eqlPtrNil rfl) ?_
  refine JO.pur rfl rfl rfl (Pur.move rfl) ?_
  refine JO.pur rfl rfl rfl (Pur.eqlPtrNil rfl) ?_
  refine JO.pur rfl rfl rfl (Pur.neqB rfl rfl) ?_
  refine JO.pur rfl rfl rfl (Pur.pickF rfl rfl) ?_
  refine JO.nil ?_
  refine J.setv (u' := .bool false) 27 rfl (congrArg Value.bool ((by simp))) ?_
  refine J.condF rfl rfl ?_
  refine J.skip rfl ?_
  refine J.seq rfl ?_
  refine J.seq rfl ?_
  refine J.region rfl ?_
  refine JO.pur rfl rfl rfl (Pur.move rfl) ?_
  refine JO.pur rfl rfl rfl (Pur.eqlPtrNil rfl) ?_
  refine JO.nil ?_
  refine J.setv (u' := .bool false) 29 rfl (congrArg Value.bool ((by simp))) ?_
  refine J.condF rfl rfl ?_
  refine J.skip rfl ?_
  refine J.seq rfl ?_
  refine J.region rfl ?_
  refine JO.pur rfl rfl rfl (Pur.move rfl) ?_
  refine JO.pur rfl rfl rfl (Pur.move rfl) ?_
  refine JO.pur rfl rfl rfl (Pur.build (cs := [_, _]) rfl rfl) ?_
  refine JO.eff rfl rfl rfl (Eff.box (cs := [_, _]) rfl rfl) ?_
  rintro _ _ ⟨b33, rfl, rfl⟩
  refine JO.pur rfl rfl rfl (Pur.assign rfl) ?_
  refine JO.pur rfl rfl rfl (Pur.assign rfl) ?_
  refine JO.nil ?_
  refine J.ret rfl rfl ?_
  exact ⟨b33, r, s, rfl, rfl⟩

theorem many_ok {L : List Asn} (a : Option Addr) (n cap : Nat) :
    CallS Try.prog 11 [.slice a n cap].toArray L (fun v M => v = .bool (decide (200 < (n : Int))) ∧ M = L) := by
  refine CallS.enter Try.func11 rfl rfl rfl rfl rfl ?_
  refine J.seq rfl ?_
  refine J.region rfl ?_
  refine JO.pur rfl rfl rfl (Pur.assign rfl) ?_
  refine JO.nil ?_
  refine J.seq rfl ?_
  refine J.region rfl ?_
  refine JO.pur rfl rfl rfl (Pur.move rfl) ?_
  refine JO.pur rfl rfl rfl (Pur.len rfl) ?_
  refine JO.pur rfl rfl rfl (Pur.gtr rfl rfl) ?_
  refine JO.pur rfl rfl rfl (Pur.assign rfl) ?_
  refine JO.nil ?_
  refine J.ret rfl rfl ?_
  exact ⟨rfl, rfl⟩

theorem do_ok {R : List Asn} (p r s : Nat) (σ : St) (N : Nat) (hw : Wf σ N) (x y z : Int) :
    CallS Try.prog 13 [.pointer (some ⟨p, 0, none⟩), .agg #[.int .i64 x, .int .i64 y, .int .i64 z]].toArray (blk p (.cells #[.pointer (some ⟨r, 0, none⟩), .pointer (some ⟨s, 0, none⟩)] 35 (0, 0)) :: refA s σ :: ringA r σ :: R) (fun v M => v = .bool true ∧ M = blk p (.cells #[.pointer (some ⟨r, 0, none⟩), .pointer (some ⟨s, 0, none⟩)] 35 (0, 0)) :: refA s (act σ x y z) :: ringA r (act σ x y z) :: R) := by
  refine CallS.ent ?_
  refine CallS.enter Try.func13 rfl rfl rfl rfl rfl ?_
  refine J.seq rfl ?_
  refine J.region rfl ?_
  refine JO.eff rfl rfl rfl (Eff.box (cs := [_, _, _]) rfl rfl) ?_
  rintro _ _ ⟨b3, rfl, rfl⟩
  refine JO.pur rfl rfl rfl (Pur.assign rfl) ?_
  refine JO.nil ?_
  refine J.seq rfl ?_
  refine J.seq rfl ?_
  refine J.region rfl ?_
  refine JO.pur rfl rfl rfl (Pur.fieldAddr rfl) ?_
  refine JO.pur rfl rfl rfl (Pur.load rfl (CellIn.blk rfl)) ?_
  refine JO.pur rfl rfl rfl (Pur.rem rfl rfl (by decide)) ?_
  refine JO.pur rfl rfl rfl (Pur.add rfl rfl (wr64 (by have := tmod4 x; omega))) ?_
  refine JO.pur rfl rfl rfl (Pur.rem rfl rfl (by decide)) ?_
  refine JO.nil ?_
  refine J.block rfl ?_
  refine J.seq rfl ?_
  refine J.region rfl ?_
  refine JO.pur rfl rfl rfl (Pur.eqlI rfl rfl) ?_
  refine JO.pur rfl rfl rfl (Pur.assign rfl) ?_
  refine JO.nil ?_
  refine J.splitB 14 rfl (fun h14 => ?_) (fun h14 => ?_)
  · try simp only [decide_eq_true_eq, decide_eq_false_iff_not, Bool.not_eq_true', Bool.not_eq_false', Bool.and_eq_true, Bool.or_eq_true, Bool.and_eq_false_iff, Bool.or_eq_false_iff, Option.isNone_some, Option.isSome_some, Option.isNone_none, Option.isSome_none, Int.not_lt, Int.not_le, beq_iff_eq, beq_eq_false_iff_ne, bne_iff_ne, ne_eq, Bool.not_not, Decidable.not_not] at h14
    refine J.condT rfl rfl ?_
    refine J.seq rfl ?_
    refine J.pull (.tail (.tail .head)) ?_
    refine J.pull (.tail (.tail (.tail .head))) ?_
    refine J.mask2 (n := 20) [] rfl Try.mixed rfl (by kernel_rfl) ?_
    refine JM.take 0 (fun _ h => h.tail.tail) rfl (by kernel_rfl) rfl rfl rfl (m' := 1) rfl (Pur.move rfl) ?_
    refine JM.take 1 (fun _ h => h.tail.tail) rfl (by kernel_rfl) rfl rfl rfl (m' := 3) rfl (Pur.nilCheck rfl) ?_
    refine JM.take 2 (fun _ h => h.tail.tail) rfl (by kernel_rfl) rfl rfl rfl (m' := 7) rfl (Pur.fieldAddr rfl) ?_
    refine JM.take 3 (fun _ h => h.tail.tail) rfl (by kernel_rfl) rfl rfl rfl (m' := 15) rfl (Pur.load rfl (CellIn.blk rfl)) ?_
    refine JM.take 4 (fun _ h => h.tail.tail) rfl (by kernel_rfl) rfl rfl rfl (m' := 31) rfl (Pur.fieldAddr rfl) ?_
    refine JM.take 5 (fun _ h => h.tail.tail) rfl (by kernel_rfl) rfl rfl rfl (m' := 63) rfl (Pur.load rfl (CellIn.blk rfl)) ?_
    refine JM.take 6 (fun _ h => h.tail.tail) rfl (by kernel_rfl) rfl rfl rfl (m' := 127) rfl (Pur.fieldAddr rfl) ?_
    refine JM.take 7 (fun _ h => h.tail.tail) rfl (by kernel_rfl) rfl rfl rfl (m' := 255) rfl (Pur.load rfl (CellIn.blk rfl)) ?_
    refine JM.take 9 (fun _ h => h.tail.tail) rfl (by kernel_rfl) rfl rfl rfl (m' := 767) rfl (Pur.move rfl) ?_
    refine JM.take 10 (fun _ h => h.tail.tail) rfl (by kernel_rfl) rfl rfl rfl (m' := 1791) rfl (Pur.nilCheck rfl) ?_
    refine JM.take 11 (fun _ h => h.tail.tail) rfl (by kernel_rfl) rfl rfl rfl (m' := 3839) rfl (Pur.fieldAddr rfl) ?_
    refine JM.take 12 (fun _ h => h.tail.tail) rfl (by kernel_rfl) rfl rfl rfl (m' := 7935) rfl (Pur.load rfl (CellIn.blk rfl)) ?_
    refine JM.take 13 (fun _ h => h.tail.tail) rfl (by kernel_rfl) rfl rfl rfl (m' := 16127) rfl (Pur.fieldAddr rfl) ?_
    refine JM.take 14 (fun _ h => h.tail.tail) rfl (by kernel_rfl) rfl rfl rfl (m' := 32511) rfl (Pur.load rfl (CellIn.blk rfl)) ?_
    refine JM.take 15 (fun _ h => h.tail.tail) rfl (by kernel_rfl) rfl rfl rfl (m' := 65279) rfl (Pur.fieldAddr rfl) ?_
    refine JM.take 16 (fun _ h => h.tail.tail) rfl (by kernel_rfl) rfl rfl rfl (m' := 130815) rfl (Pur.load rfl (CellIn.blk rfl)) ?_
    refine JM.one (i := 8) (by kernel_rfl) ?_
    refine JMi.eff rfl rfl rfl rfl (m' := 131071) rfl (Eff.call rfl (send_at hw _ _)) ?_
    rintro _ _ ⟨rfl, rfl⟩
    refine ⟨.inr (fun _ h => h.tail.tail), ?_⟩
    refine JM.one (i := 17) (by kernel_rfl) ?_
    refine JMi.eff rfl rfl rfl rfl (m' := 262143) rfl (Eff.call rfl (rsend_at hw _ _)) ?_
    rintro _ _ ⟨rfl, rfl⟩
    refine ⟨.inr (fun _ h => h.tail.tail), ?_⟩
    refine JM.take 18 (fun _ h => h.tail.tail) rfl (by kernel_rfl) rfl rfl rfl (m' := 524287) rfl (Pur.eqlI rfl rfl) ?_
    refine JM.take 19 (fun _ h => h.tail.tail) rfl (by kernel_rfl) rfl rfl rfl (m' := 1048575) rfl (Pur.assign rfl) ?_
    refine JM.done rfl ?_
    refine J.ret rfl rfl ?_
    refine ⟨_, _, ⟨rfl, rfl⟩, congrArg Value.bool (by simp), fun h hs => ?_⟩
    have e : act σ x y z = (Qt.send σ y z).2 := by unfold act; rw [if_pos h14]
    rw [e]
    exact (Sat.pull (.tail (.tail .head)) (Sat.pull (.tail .head) (Sat.pull .head (Sat.tail (Sat.pull (.tail (.tail .head)) hs)))))
  · try simp only [decide_eq_true_eq, decide_eq_false_iff_not, Bool.not_eq_true', Bool.not_eq_false', Bool.and_eq_true, Bool.or_eq_true, Bool.and_eq_false_iff, Bool.or_eq_false_iff, Option.isNone_some, Option.isSome_some, Option.isNone_none, Option.isSome_none, Int.not_lt, Int.not_le, beq_iff_eq, beq_eq_false_iff_ne, bne_iff_ne, ne_eq, Bool.not_not, Decidable.not_not] at h14
    refine J.condF rfl rfl ?_
    refine J.seq rfl ?_
    refine J.region rfl ?_
    refine JO.pur rfl rfl rfl (Pur.eqlI rfl rfl) ?_
    refine JO.pur rfl rfl rfl (Pur.assign rfl) ?_
    refine JO.nil ?_
    refine J.splitB 35 rfl (fun h35 => ?_) (fun h35 => ?_)
    · try simp only [decide_eq_true_eq, decide_eq_false_iff_not, Bool.not_eq_true', Bool.not_eq_false', Bool.and_eq_true, Bool.or_eq_true, Bool.and_eq_false_iff, Bool.or_eq_false_iff, Option.isNone_some, Option.isSome_some, Option.isNone_none, Option.isSome_none, Int.not_lt, Int.not_le, beq_iff_eq, beq_eq_false_iff_ne, bne_iff_ne, ne_eq, Bool.not_not, Decidable.not_not] at h35
      refine J.condT rfl rfl ?_
      refine J.seq rfl ?_
      refine J.pull (.tail (.tail .head)) ?_
      refine J.pull (.tail (.tail (.tail .head))) ?_
      refine J.mask2 (n := 16) [] rfl Try.mixed rfl (by kernel_rfl) ?_
      refine JM.take 0 (fun _ h => h.tail.tail) rfl (by kernel_rfl) rfl rfl rfl (m' := 1) rfl (Pur.move rfl) ?_
      refine JM.take 1 (fun _ h => h.tail.tail) rfl (by kernel_rfl) rfl rfl rfl (m' := 3) rfl (Pur.nilCheck rfl) ?_
      refine JM.take 2 (fun _ h => h.tail.tail) rfl (by kernel_rfl) rfl rfl rfl (m' := 7) rfl (Pur.fieldAddr rfl) ?_
      refine JM.take 3 (fun _ h => h.tail.tail) rfl (by kernel_rfl) rfl rfl rfl (m' := 15) rfl (Pur.load rfl (CellIn.blk rfl)) ?_
      refine JM.take 4 (fun _ h => h.tail.tail) rfl (by kernel_rfl) rfl rfl rfl (m' := 31) rfl (Pur.fieldAddr rfl) ?_
      refine JM.take 5 (fun _ h => h.tail.tail) rfl (by kernel_rfl) rfl rfl rfl (m' := 63) rfl (Pur.load rfl (CellIn.blk rfl)) ?_
      refine JM.take 7 (fun _ h => h.tail.tail) rfl (by kernel_rfl) rfl rfl rfl (m' := 191) rfl (Pur.move rfl) ?_
      refine JM.take 8 (fun _ h => h.tail.tail) rfl (by kernel_rfl) rfl rfl rfl (m' := 447) rfl (Pur.nilCheck rfl) ?_
      refine JM.take 9 (fun _ h => h.tail.tail) rfl (by kernel_rfl) rfl rfl rfl (m' := 959) rfl (Pur.fieldAddr rfl) ?_
      refine JM.take 10 (fun _ h => h.tail.tail) rfl (by kernel_rfl) rfl rfl rfl (m' := 1983) rfl (Pur.load rfl (CellIn.blk rfl)) ?_
      refine JM.take 11 (fun _ h => h.tail.tail) rfl (by kernel_rfl) rfl rfl rfl (m' := 4031) rfl (Pur.fieldAddr rfl) ?_
      refine JM.take 12 (fun _ h => h.tail.tail) rfl (by kernel_rfl) rfl rfl rfl (m' := 8127) rfl (Pur.load rfl (CellIn.blk rfl)) ?_
      refine JM.one (i := 6) (by kernel_rfl) ?_
      refine JMi.eff rfl rfl rfl rfl (m' := 8191) rfl (Eff.call rfl (recv_at hw _)) ?_
      rintro _ _ ⟨rfl, rfl⟩
      refine ⟨.inr (fun _ h => h.tail.tail), ?_⟩
      refine JM.one (i := 13) (by kernel_rfl) ?_
      refine JMi.eff rfl rfl rfl rfl (m' := 16383) rfl (Eff.call rfl (rrecv_at hw _)) ?_
      rintro _ _ ⟨rfl, rfl⟩
      refine ⟨.inr (fun _ h => h.tail.tail), ?_⟩
      refine JM.take 14 (fun _ h => h.tail.tail) rfl (by kernel_rfl) rfl rfl rfl (m' := 32767) rfl (Pur.eqlI rfl rfl) ?_
      refine JM.take 15 (fun _ h => h.tail.tail) rfl (by kernel_rfl) rfl rfl rfl (m' := 65535) rfl (Pur.assign rfl) ?_
      refine JM.done rfl ?_
      refine J.ret rfl rfl ?_
      refine ⟨_, _, ⟨rfl, rfl⟩, congrArg Value.bool (by simp), fun h hs => ?_⟩
      have e : act σ x y z = (Qt.recv σ y).2 := by unfold act; rw [if_neg h14, if_pos h35]
      rw [e]
      exact (Sat.pull (.tail (.tail .head)) (Sat.pull (.tail .head) (Sat.pull .head (Sat.tail (Sat.pull (.tail (.tail .head)) hs)))))
    · try simp only [decide_eq_true_eq, decide_eq_false_iff_not, Bool.not_eq_true', Bool.not_eq_false', Bool.and_eq_true, Bool.or_eq_true, Bool.and_eq_false_iff, Bool.or_eq_false_iff, Option.isNone_some, Option.isSome_some, Option.isNone_none, Option.isSome_none, Int.not_lt, Int.not_le, beq_iff_eq, beq_eq_false_iff_ne, bne_iff_ne, ne_eq, Bool.not_not, Decidable.not_not] at h35
      refine J.condF rfl rfl ?_
      refine J.seq rfl ?_
      refine J.region rfl ?_
      refine JO.pur rfl rfl rfl (Pur.eqlI rfl rfl) ?_
      refine JO.pur rfl rfl rfl (Pur.assign rfl) ?_
      refine JO.nil ?_
      refine J.splitB 52 rfl (fun h52 => ?_) (fun h52 => ?_)
      · try simp only [decide_eq_true_eq, decide_eq_false_iff_not, Bool.not_eq_true', Bool.not_eq_false', Bool.and_eq_true, Bool.or_eq_true, Bool.and_eq_false_iff, Bool.or_eq_false_iff, Option.isNone_some, Option.isSome_some, Option.isNone_none, Option.isSome_none, Int.not_lt, Int.not_le, beq_iff_eq, beq_eq_false_iff_ne, bne_iff_ne, ne_eq, Bool.not_not, Decidable.not_not] at h52
        refine J.condT rfl rfl ?_
        refine J.seq rfl ?_
        refine J.pull (.tail (.tail .head)) ?_
        refine J.pull (.tail (.tail (.tail .head))) ?_
        refine J.mask2 (n := 16) [] rfl Try.mixed rfl (by kernel_rfl) ?_
        refine JM.take 0 (fun _ h => h.tail.tail) rfl (by kernel_rfl) rfl rfl rfl (m' := 1) rfl (Pur.move rfl) ?_
        refine JM.take 1 (fun _ h => h.tail.tail) rfl (by kernel_rfl) rfl rfl rfl (m' := 3) rfl (Pur.nilCheck rfl) ?_
        refine JM.take 2 (fun _ h => h.tail.tail) rfl (by kernel_rfl) rfl rfl rfl (m' := 7) rfl (Pur.fieldAddr rfl) ?_
        refine JM.take 3 (fun _ h => h.tail.tail) rfl (by kernel_rfl) rfl rfl rfl (m' := 15) rfl (Pur.load rfl (CellIn.blk rfl)) ?_
        refine JM.take 4 (fun _ h => h.tail.tail) rfl (by kernel_rfl) rfl rfl rfl (m' := 31) rfl (Pur.fieldAddr rfl) ?_
        refine JM.take 5 (fun _ h => h.tail.tail) rfl (by kernel_rfl) rfl rfl rfl (m' := 63) rfl (Pur.load rfl (CellIn.blk rfl)) ?_
        refine JM.take 7 (fun _ h => h.tail.tail) rfl (by kernel_rfl) rfl rfl rfl (m' := 191) rfl (Pur.move rfl) ?_
        refine JM.take 8 (fun _ h => h.tail.tail) rfl (by kernel_rfl) rfl rfl rfl (m' := 447) rfl (Pur.nilCheck rfl) ?_
        refine JM.take 9 (fun _ h => h.tail.tail) rfl (by kernel_rfl) rfl rfl rfl (m' := 959) rfl (Pur.fieldAddr rfl) ?_
        refine JM.take 10 (fun _ h => h.tail.tail) rfl (by kernel_rfl) rfl rfl rfl (m' := 1983) rfl (Pur.load rfl (CellIn.blk rfl)) ?_
        refine JM.take 11 (fun _ h => h.tail.tail) rfl (by kernel_rfl) rfl rfl rfl (m' := 4031) rfl (Pur.fieldAddr rfl) ?_
        refine JM.take 12 (fun _ h => h.tail.tail) rfl (by kernel_rfl) rfl rfl rfl (m' := 8127) rfl (Pur.load rfl (CellIn.blk rfl)) ?_
        refine JM.one (i := 6) (by kernel_rfl) ?_
        refine JMi.eff rfl rfl rfl rfl (m' := 8191) rfl (Eff.call rfl (idle_at hw _)) ?_
        rintro _ _ ⟨rfl, rfl⟩
        refine ⟨.inr (fun _ h => h.tail.tail), ?_⟩
        refine JM.one (i := 13) (by kernel_rfl) ?_
        refine JMi.eff rfl rfl rfl rfl (m' := 16383) rfl (Eff.call rfl (ridle_at hw _)) ?_
        rintro _ _ ⟨rfl, rfl⟩
        refine ⟨.inr (fun _ h => h.tail.tail), ?_⟩
        refine JM.take 14 (fun _ h => h.tail.tail) rfl (by kernel_rfl) rfl rfl rfl (m' := 32767) rfl (Pur.eqlI rfl rfl) ?_
        refine JM.take 15 (fun _ h => h.tail.tail) rfl (by kernel_rfl) rfl rfl rfl (m' := 65535) rfl (Pur.assign rfl) ?_
        refine JM.done rfl ?_
        refine J.ret rfl rfl ?_
        refine ⟨_, _, ⟨rfl, rfl⟩, congrArg Value.bool (by simp), fun h hs => ?_⟩
        have e : act σ x y z = (Qt.idle σ y).2 := by unfold act; rw [if_neg h14, if_neg h35, if_pos h52]
        rw [e]
        exact (Sat.pull (.tail (.tail .head)) (Sat.pull (.tail .head) (Sat.pull .head (Sat.tail (Sat.pull (.tail (.tail .head)) hs)))))
      · try simp only [decide_eq_true_eq, decide_eq_false_iff_not, Bool.not_eq_true', Bool.not_eq_false', Bool.and_eq_true, Bool.or_eq_true, Bool.and_eq_false_iff, Bool.or_eq_false_iff, Option.isNone_some, Option.isSome_some, Option.isNone_none, Option.isSome_none, Int.not_lt, Int.not_le, beq_iff_eq, beq_eq_false_iff_ne, bne_iff_ne, ne_eq, Bool.not_not, Decidable.not_not] at h52
        refine J.condF rfl rfl ?_
        refine J.skip rfl ?_
        refine J.inBlock ?_
        refine J.seq rfl ?_
        refine J.region rfl ?_
        refine JO.pur rfl rfl rfl (Pur.move rfl) ?_
        refine JO.pur rfl rfl rfl (Pur.nilCheck rfl) ?_
        refine JO.pur rfl rfl rfl (Pur.fieldAddr rfl) ?_
        refine JO.pur rfl rfl rfl (Pur.load rfl (CellIn.blk rfl)) ?_
        refine JO.eff rfl rfl rfl (Eff.call rfl (pass_at hw)) ?_
        rintro _ _ ⟨rfl, rfl⟩
        refine JO.pur rfl rfl rfl (Pur.move rfl) ?_
        refine JO.pur rfl rfl rfl (Pur.extract rfl rfl) ?_
        refine JO.pur rfl rfl rfl (Pur.extract rfl rfl) ?_
        refine JO.pur rfl rfl rfl (Pur.assign rfl) ?_
        refine JO.pur rfl rfl rfl (Pur.assign rfl) ?_
        refine JO.nil ?_
        refine J.seq rfl ?_
        refine J.region rfl ?_
        refine JO.pur rfl rfl rfl (Pur.move rfl) ?_
        refine JO.pur rfl rfl rfl (Pur.nilCheck rfl) ?_
        refine JO.pur rfl rfl rfl (Pur.fieldAddr rfl) ?_
        refine JO.pur rfl rfl rfl (Pur.load rfl (CellIn.blk rfl)) ?_
        refine JO.eff rfl rfl rfl (Eff.call rfl (rpass_at hw)) ?_
        rintro _ _ ⟨rfl, rfl⟩
        refine JO.pur rfl rfl rfl (Pur.move rfl) ?_
        refine JO.pur rfl rfl rfl (Pur.extract rfl rfl) ?_
        refine JO.pur rfl rfl rfl (Pur.extract rfl rfl) ?_
        refine JO.pur rfl rfl rfl (Pur.assign rfl) ?_
        refine JO.pur rfl rfl rfl (Pur.assign rfl) ?_
        refine JO.nil ?_
        refine J.seq rfl ?_
        refine J.region rfl ?_
        refine JO.pur rfl rfl rfl (Pur.move rfl) ?_
        refine JO.pur rfl rfl rfl (Pur.move rfl) ?_
        refine JO.pur rfl rfl rfl (Pur.eqlB rfl rfl) ?_
        refine JO.pur rfl rfl rfl (Pur.move rfl) ?_
        refine JO.setv (u' := .bool true) 88 rfl (congrArg Value.bool ((by simp))) ?_
        refine JO.pur rfl rfl rfl (Pur.move rfl) ?_
        refine JO.pur rfl rfl rfl (Pur.move rfl) ?_
        refine JO.pur rfl rfl rfl (Pur.eqlI rfl rfl) ?_
        refine JO.pur rfl rfl rfl (Pur.pickT rfl rfl) ?_
        refine JO.pur rfl rfl rfl (Pur.assign rfl) ?_
        refine JO.nil ?_
        refine J.ret rfl rfl ?_
        refine ⟨_, _, ⟨rfl, rfl⟩, congrArg Value.bool (by simp), fun h hs => ?_⟩
        have e : act σ x y z = (Qt.pass σ).2.2 := by unfold act; rw [if_neg h14, if_neg h35, if_neg h52]
        rw [e]
        exact hs.tail

end Go.Proofs.Ytnllgmfpejjcnaa
