/-
  A part of the proof of the claim that this folder bears.
-/
import Derived.Test.YtgbckamaenapeaaPAJ
/- The text HDo. -/
set_option linter.unusedVariables false
set_option linter.unusedSimpArgs false
set_option maxRecDepth 10000
namespace Go.Proofs.Ytgbckamaenapeaa
open Go Go.KK Hf

theorem tmod9 (d : Int) : -9 < Int.tmod d 9 ∧ Int.tmod d 9 < 9 := by
  have h1 := Int.tmod_lt_of_pos d (show (0 : Int) < 9 by decide)
  have h2 := Int.lt_tmod_of_pos d (show (0 : Int) < 9 by decide)
  omega
def opN (d : Int) : Int := Int.tmod (Int.tmod d 9 + 9) 9
/-- What a deed makes of a file. -/
def stepF (F : Fl) (d a b : Int) (ys : List UInt8) : Fl :=
  if opN d = 0 then (beginF F a b false).1 else if opN d = 1 then (beginF F a b true).1 else if opN d = 2 then (readF F a (if 1000 < b then 1000 else b)).1 else if opN d = 3 then (writeF F a ys).1
  else if opN d = 4 then (markF F a).1 else if opN d = 5 then (revertF F a).1 else if opN d = 6 then (acceptF F a).1 else if opN d = 7 then (commitF F a).1 else (closeF F a).1
theorem good_step {F : Fl} {k : Nat} (g : Hf.Good F k) (d a b : Int) (ys : List UInt8) : Hf.Good (stepF F d a b ys) (k + 1) := by
  unfold stepF
  repeat' split
  all_goals first | exact good_begin g _ _ _ | exact (good_read g _ _).more (Nat.le_succ k) | exact (good_write g _ _).more (Nat.le_succ k) | exact good_mark g _ | exact (good_revert g _).more (Nat.le_succ k) | exact (good_accept g _).more (Nat.le_succ k) | exact (good_commit g _).more (Nat.le_succ k) | exact (good_close g _).more (Nat.le_succ k)
theorem Do_ok {L : List Asn} {p q pr : Nat} {F : Fl} {d a b : Int} {y : Option Addr} {m cq : Nat} {ys : List UInt8} [SlIn byE L y ys] (hm : m = ys.length) (hys : ys.length ≤ 9223372036854775807) (hnil : y = none → m = 0 ∧ cq = 0) {k : Nat} (g : Hf.Good F k) (hk : k ≤ 100000) :
    CallS Try.prog 32 [.pointer (some ⟨pr, 0, none⟩), .agg #[.int .i64 d, .int .i64 a, .int .i64 b, .slice y m cq]].toArray (FA p F :: RA q F :: blk pr (.cells #[.pointer (some ⟨p, 0, none⟩), .pointer (some ⟨q, 0, none⟩)] 68) :: L) (fun v M => v = .bool true ∧ M = FA p (stepF F d a b ys) :: RA q (stepF F d a b ys) :: blk pr (.cells #[.pointer (some ⟨p, 0, none⟩), .pointer (some ⟨q, 0, none⟩)] 68) :: L) := by
  refine CallS.ent ?_
  refine CallS.enter Try.func32 rfl rfl rfl rfl rfl ?_
  refine J.seq rfl ?_
  refine J.region rfl ?_
  refine JO.eff rfl rfl rfl (Eff.box (cs := [_, _, _, _]) rfl rfl) ?_
  rintro _ _ ⟨b3, rfl, rfl⟩
  refine JO.pur rfl rfl rfl (Pur.assign rfl) ?_
  refine JO.nil ?_
  refine J.seq rfl ?_
  refine J.seq rfl ?_
  refine J.region rfl ?_
  refine JO.pur rfl rfl rfl (Pur.fieldAddr rfl) ?_
  refine JO.pur rfl rfl rfl (Pur.load rfl (CellIn.blk rfl)) ?_
  refine JO.pur rfl rfl rfl (Pur.rem rfl rfl (by decide)) ?_
  refine JO.pur rfl rfl rfl (Pur.add rfl rfl (wr64 (by have := tmod9 d; omega))) ?_
  refine JO.pur rfl rfl rfl (Pur.rem rfl rfl (by decide)) ?_
  refine JO.nil ?_
  refine J.block rfl ?_
  refine J.seq rfl ?_
  refine J.region rfl ?_
  refine JO.pur rfl rfl rfl (Pur.eqlI rfl rfl) ?_
  refine JO.pur rfl rfl rfl (Pur.assign rfl) ?_
  refine JO.nil ?_
  refine J.splitB 23 rfl (fun h23 => ?_) (fun h23 => ?_)
  · try simp only [decide_eq_true_eq, decide_eq_false_iff_not, Bool.not_eq_true', Bool.not_eq_false', Bool.and_eq_true, Bool.or_eq_true, Bool.and_eq_false_iff, Bool.or_eq_false_iff, Option.isNone_some, Option.isSome_some, Option.isNone_none, Option.isSome_none, Int.not_lt, Int.not_le, beq_iff_eq, beq_eq_false_iff_ne, bne_iff_ne, ne_eq, Bool.not_not, Decidable.not_not] at h23
    refine J.condT rfl rfl ?_
    refine J.seq rfl ?_
    refine J.imp (M := FA p F :: RA q F :: blk b3 (.cells #[.int .i64 d, .int .i64 a, .int .i64 b, .slice y m cq] 57) :: blk pr (.cells #[.pointer (some ⟨p, 0, none⟩), .pointer (some ⟨q, 0, none⟩)] 68) :: L) (fun h s => SubC.out h s) ?_
    refine J.mask1 (n := 14) [] rfl Try.mixed rfl (by kernel_rfl) ?_
    refine JM.take 0 (fun _ h => h.tail) rfl (by kernel_rfl) rfl rfl rfl (m' := 1) rfl (Pur.move rfl) ?_
    refine JM.take 1 (fun _ h => h.tail) rfl (by kernel_rfl) rfl rfl rfl (m' := 3) rfl (Pur.nilCheck rfl) ?_
    refine JM.take 2 (fun _ h => h.tail) rfl (by kernel_rfl) rfl rfl rfl (m' := 7) rfl (Pur.fieldAddr rfl) ?_
    refine JM.take 3 (fun _ h => h.tail) rfl (by kernel_rfl) rfl rfl rfl (m' := 15) rfl (Pur.load rfl (CellIn.blk rfl)) ?_
    refine JM.take 4 (fun _ h => h.tail) rfl (by kernel_rfl) rfl rfl rfl (m' := 31) rfl (Pur.fieldAddr rfl) ?_
    refine JM.take 5 (fun _ h => h.tail) rfl (by kernel_rfl) rfl rfl rfl (m' := 63) rfl (Pur.load rfl (CellIn.blk rfl)) ?_
    refine JM.take 6 (fun _ h => h.tail) rfl (by kernel_rfl) rfl rfl rfl (m' := 127) rfl (Pur.fieldAddr rfl) ?_
    refine JM.take 7 (fun _ h => h.tail) rfl (by kernel_rfl) rfl rfl rfl (m' := 255) rfl (Pur.load rfl (CellIn.blk rfl)) ?_
    refine JM.one (i := 8) (by kernel_rfl) ?_
    refine JMi.eff rfl rfl rfl rfl (m' := 511) rfl (Eff.call rfl (Reader_ok (F := F) g hk)) ?_
    rintro _ _ ⟨rfl, rfl⟩
    refine ⟨.inr (fun _ h => h.tail), ?_⟩
    refine JM.take 9 (fun _ h => h.tail) rfl (by kernel_rfl) rfl rfl rfl (m' := 1023) rfl (Pur.move rfl) ?_
    refine JM.take 10 (fun _ h => h.tail) rfl (by kernel_rfl) rfl rfl rfl (m' := 2047) rfl (Pur.extract rfl rfl) ?_
    refine JM.take 11 (fun _ h => h.tail) rfl (by kernel_rfl) rfl rfl rfl (m' := 4095) rfl (Pur.extract rfl rfl) ?_
    refine JM.take 12 (fun _ h => h.tail) rfl (by kernel_rfl) rfl rfl rfl (m' := 8191) rfl (Pur.assign rfl) ?_
    refine JM.take 13 (fun _ h => h.tail) rfl (by kernel_rfl) rfl rfl rfl (m' := 16383) rfl (Pur.assign rfl) ?_
    refine JM.done rfl ?_
    refine J.seq rfl ?_
    refine J.imp (M := RA q F :: FA p (beginF F a b false).1 :: blk b3 (.cells #[.int .i64 d, .int .i64 a, .int .i64 b, .slice y m cq] 57) :: blk pr (.cells #[.pointer (some ⟨p, 0, none⟩), .pointer (some ⟨q, 0, none⟩)] 68) :: L) (fun h s => SubC.out h s) ?_
    refine J.mask1 (n := 14) [] rfl Try.mixed rfl (by kernel_rfl) ?_
    refine JM.take 0 (fun _ h => h.tail) rfl (by kernel_rfl) rfl rfl rfl (m' := 1) rfl (Pur.move rfl) ?_
    refine JM.take 1 (fun _ h => h.tail) rfl (by kernel_rfl) rfl rfl rfl (m' := 3) rfl (Pur.nilCheck rfl) ?_
    refine JM.take 2 (fun _ h => h.tail) rfl (by kernel_rfl) rfl rfl rfl (m' := 7) rfl (Pur.fieldAddr rfl) ?_
    refine JM.take 3 (fun _ h => h.tail) rfl (by kernel_rfl) rfl rfl rfl (m' := 15) rfl (Pur.load rfl (CellIn.blk rfl)) ?_
    refine JM.take 4 (fun _ h => h.tail) rfl (by kernel_rfl) rfl rfl rfl (m' := 31) rfl (Pur.fieldAddr rfl) ?_
    refine JM.take 5 (fun _ h => h.tail) rfl (by kernel_rfl) rfl rfl rfl (m' := 63) rfl (Pur.load rfl (CellIn.blk rfl)) ?_
    refine JM.take 6 (fun _ h => h.tail) rfl (by kernel_rfl) rfl rfl rfl (m' := 127) rfl (Pur.fieldAddr rfl) ?_
    refine JM.take 7 (fun _ h => h.tail) rfl (by kernel_rfl) rfl rfl rfl (m' := 255) rfl (Pur.load rfl (CellIn.blk rfl)) ?_
    refine JM.one (i := 8) (by kernel_rfl) ?_
    refine JMi.eff rfl rfl rfl rfl (m' := 511) rfl (Eff.call rfl (rReader_ok (F := F) g hk)) ?_
    rintro _ _ ⟨rfl, rfl⟩
    refine ⟨.inr (fun _ h => h.tail), ?_⟩
    refine JM.take 9 (fun _ h => h.tail) rfl (by kernel_rfl) rfl rfl rfl (m' := 1023) rfl (Pur.move rfl) ?_
    refine JM.take 10 (fun _ h => h.tail) rfl (by kernel_rfl) rfl rfl rfl (m' := 2047) rfl (Pur.extract rfl rfl) ?_
    refine JM.take 11 (fun _ h => h.tail) rfl (by kernel_rfl) rfl rfl rfl (m' := 4095) rfl (Pur.extract rfl rfl) ?_
    refine JM.take 12 (fun _ h => h.tail) rfl (by kernel_rfl) rfl rfl rfl (m' := 8191) rfl (Pur.assign rfl) ?_
    refine JM.take 13 (fun _ h => h.tail) rfl (by kernel_rfl) rfl rfl rfl (m' := 16383) rfl (Pur.assign rfl) ?_
    refine JM.done rfl ?_
    refine J.seq rfl ?_
    refine J.region rfl ?_
    refine JO.pur rfl rfl rfl (Pur.move rfl) ?_
    refine JO.pur rfl rfl rfl (Pur.move rfl) ?_
    refine JO.pur rfl rfl rfl (Pur.eqlI rfl rfl) ?_
    refine JO.setv (u' := .bool true) 51 rfl (congrArg Value.bool (by simp)) ?_
    refine JO.pur rfl rfl rfl (Pur.move rfl) ?_
    refine JO.pur rfl rfl rfl (Pur.move rfl) ?_
    refine JO.pur rfl rfl rfl (Pur.move rfl) ?_
    refine JO.pur rfl rfl rfl (Pur.eqlI rfl rfl) ?_
    refine JO.setv (u' := .bool true) 55 rfl (congrArg Value.bool (by simp)) ?_
    refine JO.pur rfl rfl rfl (Pur.pickT rfl rfl) ?_
    refine JO.pur rfl rfl rfl (Pur.assign rfl) ?_
    refine JO.nil ?_
    refine J.ret rfl rfl ?_
    have hst : stepF F d a b ys = (beginF F a b false).1 := by unfold stepF opN; rw [if_pos (by omega)]
    refine ⟨_, _, ⟨rfl, rfl⟩, rfl, fun h s => ?_⟩
    rw [hst]
    exact SubC.out h s
  · try simp only [decide_eq_true_eq, decide_eq_false_iff_not, Bool.not_eq_true', Bool.not_eq_false', Bool.and_eq_true, Bool.or_eq_true, Bool.and_eq_false_iff, Bool.or_eq_false_iff, Option.isNone_some, Option.isSome_some, Option.isNone_none, Option.isSome_none, Int.not_lt, Int.not_le, beq_iff_eq, beq_eq_false_iff_ne, bne_iff_ne, ne_eq, Bool.not_not, Decidable.not_not] at h23
    refine J.condF rfl rfl ?_
    refine J.seq rfl ?_
    refine J.region rfl ?_
    refine JO.pur rfl rfl rfl (Pur.eqlI rfl rfl) ?_
    refine JO.pur rfl rfl rfl (Pur.assign rfl) ?_
    refine JO.nil ?_
    refine J.splitB 57 rfl (fun h57 => ?_) (fun h57 => ?_)
    · try simp only [decide_eq_true_eq, decide_eq_false_iff_not, Bool.not_eq_true', Bool.not_eq_false', Bool.and_eq_true, Bool.or_eq_true, Bool.and_eq_false_iff, Bool.or_eq_false_iff, Option.isNone_some, Option.isSome_some, Option.isNone_none, Option.isSome_none, Int.not_lt, Int.not_le, beq_iff_eq, beq_eq_false_iff_ne, bne_iff_ne, ne_eq, Bool.not_not, Decidable.not_not] at h57
      refine J.condT rfl rfl ?_
      refine J.seq rfl ?_
      refine J.imp (M := FA p F :: RA q F :: blk b3 (.cells #[.int .i64 d, .int .i64 a, .int .i64 b, .slice y m cq] 57) :: blk pr (.cells #[.pointer (some ⟨p, 0, none⟩), .pointer (some ⟨q, 0, none⟩)] 68) :: L) (fun h s => SubC.out h s) ?_
      refine J.mask1 (n := 14) [] rfl Try.mixed rfl (by kernel_rfl) ?_
      refine JM.take 0 (fun _ h => h.tail) rfl (by kernel_rfl) rfl rfl rfl (m' := 1) rfl (Pur.move rfl) ?_
      refine JM.take 1 (fun _ h => h.tail) rfl (by kernel_rfl) rfl rfl rfl (m' := 3) rfl (Pur.nilCheck rfl) ?_
      refine JM.take 2 (fun _ h => h.tail) rfl (by kernel_rfl) rfl rfl rfl (m' := 7) rfl (Pur.fieldAddr rfl) ?_
      refine JM.take 3 (fun _ h => h.tail) rfl (by kernel_rfl) rfl rfl rfl (m' := 15) rfl (Pur.load rfl (CellIn.blk rfl)) ?_
      refine JM.take 4 (fun _ h => h.tail) rfl (by kernel_rfl) rfl rfl rfl (m' := 31) rfl (Pur.fieldAddr rfl) ?_
      refine JM.take 5 (fun _ h => h.tail) rfl (by kernel_rfl) rfl rfl rfl (m' := 63) rfl (Pur.load rfl (CellIn.blk rfl)) ?_
      refine JM.take 6 (fun _ h => h.tail) rfl (by kernel_rfl) rfl rfl rfl (m' := 127) rfl (Pur.fieldAddr rfl) ?_
      refine JM.take 7 (fun _ h => h.tail) rfl (by kernel_rfl) rfl rfl rfl (m' := 255) rfl (Pur.load rfl (CellIn.blk rfl)) ?_
      refine JM.one (i := 8) (by kernel_rfl) ?_
      refine JMi.eff rfl rfl rfl rfl (m' := 511) rfl (Eff.call rfl (Writer_ok (F := F) g hk)) ?_
      rintro _ _ ⟨rfl, rfl⟩
      refine ⟨.inr (fun _ h => h.tail), ?_⟩
      refine JM.take 9 (fun _ h => h.tail) rfl (by kernel_rfl) rfl rfl rfl (m' := 1023) rfl (Pur.move rfl) ?_
      refine JM.take 10 (fun _ h => h.tail) rfl (by kernel_rfl) rfl rfl rfl (m' := 2047) rfl (Pur.extract rfl rfl) ?_
      refine JM.take 11 (fun _ h => h.tail) rfl (by kernel_rfl) rfl rfl rfl (m' := 4095) rfl (Pur.extract rfl rfl) ?_
      refine JM.take 12 (fun _ h => h.tail) rfl (by kernel_rfl) rfl rfl rfl (m' := 8191) rfl (Pur.assign rfl) ?_
      refine JM.take 13 (fun _ h => h.tail) rfl (by kernel_rfl) rfl rfl rfl (m' := 16383) rfl (Pur.assign rfl) ?_
      refine JM.done rfl ?_
      refine J.seq rfl ?_
      refine J.imp (M := RA q F :: FA p (beginF F a b true).1 :: blk b3 (.cells #[.int .i64 d, .int .i64 a, .int .i64 b, .slice y m cq] 57) :: blk pr (.cells #[.pointer (some ⟨p, 0, none⟩), .pointer (some ⟨q, 0, none⟩)] 68) :: L) (fun h s => SubC.out h s) ?_
      refine J.mask1 (n := 14) [] rfl Try.mixed rfl (by kernel_rfl) ?_
      refine JM.take 0 (fun _ h => h.tail) rfl (by kernel_rfl) rfl rfl rfl (m' := 1) rfl (Pur.move rfl) ?_
      refine JM.take 1 (fun _ h => h.tail) rfl (by kernel_rfl) rfl rfl rfl (m' := 3) rfl (Pur.nilCheck rfl) ?_
      refine JM.take 2 (fun _ h => h.tail) rfl (by kernel_rfl) rfl rfl rfl (m' := 7) rfl (Pur.fieldAddr rfl) ?_
      refine JM.take 3 (fun _ h => h.tail) rfl (by kernel_rfl) rfl rfl rfl (m' := 15) rfl (Pur.load rfl (CellIn.blk rfl)) ?_
      refine JM.take 4 (fun _ h => h.tail) rfl (by kernel_rfl) rfl rfl rfl (m' := 31) rfl (Pur.fieldAddr rfl) ?_
      refine JM.take 5 (fun _ h => h.tail) rfl (by kernel_rfl) rfl rfl rfl (m' := 63) rfl (Pur.load rfl (CellIn.blk rfl)) ?_
      refine JM.take 6 (fun _ h => h.tail) rfl (by kernel_rfl) rfl rfl rfl (m' := 127) rfl (Pur.fieldAddr rfl) ?_
      refine JM.take 7 (fun _ h => h.tail) rfl (by kernel_rfl) rfl rfl rfl (m' := 255) rfl (Pur.load rfl (CellIn.blk rfl)) ?_
      refine JM.one (i := 8) (by kernel_rfl) ?_
      refine JMi.eff rfl rfl rfl rfl (m' := 511) rfl (Eff.call rfl (rWriter_ok (F := F) g hk)) ?_
      rintro _ _ ⟨rfl, rfl⟩
      refine ⟨.inr (fun _ h => h.tail), ?_⟩
      refine JM.take 9 (fun _ h => h.tail) rfl (by kernel_rfl) rfl rfl rfl (m' := 1023) rfl (Pur.move rfl) ?_
      refine JM.take 10 (fun _ h => h.tail) rfl (by kernel_rfl) rfl rfl rfl (m' := 2047) rfl (Pur.extract rfl rfl) ?_
      refine JM.take 11 (fun _ h => h.tail) rfl (by kernel_rfl) rfl rfl rfl (m' := 4095) rfl (Pur.extract rfl rfl) ?_
      refine JM.take 12 (fun _ h => h.tail) rfl (by kernel_rfl) rfl rfl rfl (m' := 8191) rfl (Pur.assign rfl) ?_
      refine JM.take 13 (fun _ h => h.tail) rfl (by kernel_rfl) rfl rfl rfl (m' := 16383) rfl (Pur.assign rfl) ?_
      refine JM.done rfl ?_
      refine J.seq rfl ?_
      refine J.region rfl ?_
      refine JO.pur rfl rfl rfl (Pur.move rfl) ?_
      refine JO.pur rfl rfl rfl (Pur.move rfl) ?_
      refine JO.pur rfl rfl rfl (Pur.eqlI rfl rfl) ?_
      refine JO.setv (u' := .bool true) 85 rfl (congrArg Value.bool (by simp)) ?_
      refine JO.pur rfl rfl rfl (Pur.move rfl) ?_
      refine JO.pur rfl rfl rfl (Pur.move rfl) ?_
      refine JO.pur rfl rfl rfl (Pur.move rfl) ?_
      refine JO.pur rfl rfl rfl (Pur.eqlI rfl rfl) ?_
      refine JO.setv (u' := .bool true) 89 rfl (congrArg Value.bool (by simp)) ?_
      refine JO.pur rfl rfl rfl (Pur.pickT rfl rfl) ?_
      refine JO.pur rfl rfl rfl (Pur.assign rfl) ?_
      refine JO.nil ?_
      refine J.ret rfl rfl ?_
      have hst : stepF F d a b ys = (beginF F a b true).1 := by unfold stepF opN; rw [if_neg (by omega), if_pos (by omega)]
      refine ⟨_, _, ⟨rfl, rfl⟩, rfl, fun h s => ?_⟩
      rw [hst]
      exact SubC.out h s
    · try simp only [decide_eq_true_eq, decide_eq_false_iff_not, Bool.not_eq_true', Bool.not_eq_false', Bool.and_eq_true, Bool.or_eq_true, Bool.and_eq_false_iff, Bool.or_eq_false_iff, Option.isNone_some, Option.isSome_some, Option.isNone_none, Option.isSome_none, Int.not_lt, Int.not_le, beq_iff_eq, beq_eq_false_iff_ne, bne_iff_ne, ne_eq, Bool.not_not, Decidable.not_not] at h57
      refine J.condF rfl rfl ?_
      refine J.seq rfl ?_
      refine J.region rfl ?_
      refine JO.pur rfl rfl rfl (Pur.eqlI rfl rfl) ?_
      refine JO.pur rfl rfl rfl (Pur.assign rfl) ?_
      refine JO.nil ?_
      refine J.splitB 91 rfl (fun h91 => ?_) (fun h91 => ?_)
      · try simp only [decide_eq_true_eq, decide_eq_false_iff_not, Bool.not_eq_true', Bool.not_eq_false', Bool.and_eq_true, Bool.or_eq_true, Bool.and_eq_false_iff, Bool.or_eq_false_iff, Option.isNone_some, Option.isSome_some, Option.isNone_none, Option.isSome_none, Int.not_lt, Int.not_le, beq_iff_eq, beq_eq_false_iff_ne, bne_iff_ne, ne_eq, Bool.not_not, Decidable.not_not] at h91
        refine J.condT rfl rfl ?_
        refine J.seq rfl ?_
        refine J.region rfl ?_
        refine JO.pur rfl rfl rfl (Pur.fieldAddr rfl) ?_
        refine JO.pur rfl rfl rfl (Pur.load rfl (CellIn.blk rfl)) ?_
        refine JO.pur rfl rfl rfl (Pur.assign rfl) ?_
        refine JO.nil ?_
        refine J.seq rfl ?_
        refine J.seq rfl ?_
        refine J.region rfl ?_
        refine JO.pur rfl rfl rfl (Pur.move rfl) ?_
        refine JO.pur rfl rfl rfl (Pur.gtr rfl rfl) ?_
        refine JO.nil ?_
        refine J.splitB 96 rfl (fun h96 => ?_) (fun h96 => ?_)
        · try simp only [decide_eq_true_eq, decide_eq_false_iff_not, Bool.not_eq_true', Bool.not_eq_false', Bool.and_eq_true, Bool.or_eq_true, Bool.and_eq_false_iff, Bool.or_eq_false_iff, Option.isNone_some, Option.isSome_some, Option.isNone_none, Option.isSome_none, Int.not_lt, Int.not_le, beq_iff_eq, beq_eq_false_iff_ne, bne_iff_ne, ne_eq, Bool.not_not, Decidable.not_not] at h96
          obtain ⟨bb, hbb⟩ : ∃ bb : Int, bb = (if 1000 < b then 1000 else b) := ⟨_, rfl⟩
          have hb0 : (1000 : Int) = bb := by rw [hbb, if_pos (by omega)]
          refine J.condT rfl rfl ?_
          refine J.region rfl ?_
          refine JO.pur rfl rfl rfl (Pur.assign rfl) ?_
          refine JO.nil ?_
          refine J.seq rfl ?_
          refine J.setv (u' := .int .i64 bb) 13 rfl (congrArg (Value.int .i64) hb0) ?_
          refine J.imp (M := FA p F :: RA q F :: blk b3 (.cells #[.int .i64 d, .int .i64 a, .int .i64 b, .slice y m cq] 57) :: blk pr (.cells #[.pointer (some ⟨p, 0, none⟩), .pointer (some ⟨q, 0, none⟩)] 68) :: L) (fun h s => SubC.out h s) ?_
          refine J.mask1 (n := 13) [] rfl Try.mixed rfl (by kernel_rfl) ?_
          refine JM.take 0 (fun _ h => h.tail) rfl (by kernel_rfl) rfl rfl rfl (m' := 1) rfl (Pur.move rfl) ?_
          refine JM.take 1 (fun _ h => h.tail) rfl (by kernel_rfl) rfl rfl rfl (m' := 3) rfl (Pur.nilCheck rfl) ?_
          refine JM.take 2 (fun _ h => h.tail) rfl (by kernel_rfl) rfl rfl rfl (m' := 7) rfl (Pur.fieldAddr rfl) ?_
          refine JM.take 3 (fun _ h => h.tail) rfl (by kernel_rfl) rfl rfl rfl (m' := 15) rfl (Pur.load rfl (CellIn.blk rfl)) ?_
          refine JM.take 4 (fun _ h => h.tail) rfl (by kernel_rfl) rfl rfl rfl (m' := 31) rfl (Pur.fieldAddr rfl) ?_
          refine JM.take 5 (fun _ h => h.tail) rfl (by kernel_rfl) rfl rfl rfl (m' := 63) rfl (Pur.load rfl (CellIn.blk rfl)) ?_
          refine JM.take 6 (fun _ h => h.tail) rfl (by kernel_rfl) rfl rfl rfl (m' := 127) rfl (Pur.move rfl) ?_
          refine JM.one (i := 7) (by kernel_rfl) ?_
          refine JMi.eff rfl rfl rfl rfl (m' := 255) rfl (Eff.call rfl (Read_ok (F := F) g hk)) ?_
          rintro _ _ ⟨a105, c105, rfl, rfl⟩
          refine ⟨.inr (fun _ h => h.tail.tail), ?_⟩
          refine JM.take 8 (fun _ h => h.tail.tail) rfl (by kernel_rfl) rfl rfl rfl (m' := 511) rfl (Pur.move rfl) ?_
          refine JM.take 9 (fun _ h => h.tail.tail) rfl (by kernel_rfl) rfl rfl rfl (m' := 1023) rfl (Pur.extract rfl rfl) ?_
          refine JM.take 10 (fun _ h => h.tail.tail) rfl (by kernel_rfl) rfl rfl rfl (m' := 2047) rfl (Pur.extract rfl rfl) ?_
          refine JM.take 11 (fun _ h => h.tail.tail) rfl (by kernel_rfl) rfl rfl rfl (m' := 4095) rfl (Pur.assign rfl) ?_
          refine JM.take 12 (fun _ h => h.tail.tail) rfl (by kernel_rfl) rfl rfl rfl (m' := 8191) rfl (Pur.assign rfl) ?_
          refine JM.done rfl ?_
          refine J.seq rfl ?_
          refine J.imp (M := RA q F :: sl byE a105 c105 (readF F a bb).2.1 :: FA p (readF F a bb).1 :: blk b3 (.cells #[.int .i64 d, .int .i64 a, .int .i64 b, .slice y m cq] 57) :: blk pr (.cells #[.pointer (some ⟨p, 0, none⟩), .pointer (some ⟨q, 0, none⟩)] 68) :: L) (fun h s => SubC.out h s) ?_
          refine J.mask1 (n := 13) [] rfl Try.mixed rfl (by kernel_rfl) ?_
          refine JM.take 0 (fun _ h => h.tail) rfl (by kernel_rfl) rfl rfl rfl (m' := 1) rfl (Pur.move rfl) ?_
          refine JM.take 1 (fun _ h => h.tail) rfl (by kernel_rfl) rfl rfl rfl (m' := 3) rfl (Pur.nilCheck rfl) ?_
          refine JM.take 2 (fun _ h => h.tail) rfl (by kernel_rfl) rfl rfl rfl (m' := 7) rfl (Pur.fieldAddr rfl) ?_
          refine JM.take 3 (fun _ h => h.tail) rfl (by kernel_rfl) rfl rfl rfl (m' := 15) rfl (Pur.load rfl (CellIn.blk rfl)) ?_
          refine JM.take 4 (fun _ h => h.tail) rfl (by kernel_rfl) rfl rfl rfl (m' := 31) rfl (Pur.fieldAddr rfl) ?_
          refine JM.take 5 (fun _ h => h.tail) rfl (by kernel_rfl) rfl rfl rfl (m' := 63) rfl (Pur.load rfl (CellIn.blk rfl)) ?_
          refine JM.take 6 (fun _ h => h.tail) rfl (by kernel_rfl) rfl rfl rfl (m' := 127) rfl (Pur.move rfl) ?_
          refine JM.one (i := 7) (by kernel_rfl) ?_
          refine JMi.eff rfl rfl rfl rfl (m' := 255) rfl (Eff.call rfl (rRead_ok (F := F) g hk)) ?_
          rintro _ _ ⟨a116, c116, rfl, rfl⟩
          refine ⟨.inr (fun _ h => h.tail.tail), ?_⟩
          refine JM.take 8 (fun _ h => h.tail.tail) rfl (by kernel_rfl) rfl rfl rfl (m' := 511) rfl (Pur.move rfl) ?_
          refine JM.take 9 (fun _ h => h.tail.tail) rfl (by kernel_rfl) rfl rfl rfl (m' := 1023) rfl (Pur.extract rfl rfl) ?_
          refine JM.take 10 (fun _ h => h.tail.tail) rfl (by kernel_rfl) rfl rfl rfl (m' := 2047) rfl (Pur.extract rfl rfl) ?_
          refine JM.take 11 (fun _ h => h.tail.tail) rfl (by kernel_rfl) rfl rfl rfl (m' := 4095) rfl (Pur.assign rfl) ?_
          refine JM.take 12 (fun _ h => h.tail.tail) rfl (by kernel_rfl) rfl rfl rfl (m' := 8191) rfl (Pur.assign rfl) ?_
          refine JM.done rfl ?_
          refine J.seq rfl ?_
          refine J.region rfl ?_
          refine JO.pur rfl rfl rfl (Pur.move rfl) ?_
          refine JO.pur rfl rfl rfl (Pur.move rfl) ?_
          refine JO.effR rfl rfl rfl (Eff.call rfl (same_ok (xs := (readF F a bb).2.1) (ys := (readF F a bb).2.1) rfl rfl)) ?_
          refine JO.setv (u' := .bool true) 121 rfl (congrArg Value.bool (by simp)) ?_
          refine JO.pur rfl rfl rfl (Pur.move rfl) ?_
          refine JO.pur rfl rfl rfl (Pur.move rfl) ?_
          refine JO.pur rfl rfl rfl (Pur.move rfl) ?_
          refine JO.pur rfl rfl rfl (Pur.eqlI rfl rfl) ?_
          refine JO.setv (u' := .bool true) 125 rfl (congrArg Value.bool (by simp)) ?_
          refine JO.pur rfl rfl rfl (Pur.pickT rfl rfl) ?_
          refine JO.pur rfl rfl rfl (Pur.assign rfl) ?_
          refine JO.nil ?_
          refine J.ret rfl rfl ?_
          have hst : stepF F d a b ys = (readF F a bb).1 := by unfold stepF opN; rw [if_neg (by omega), if_neg (by omega), if_pos (by omega)]; rw [hbb]
          refine ⟨_, _, ⟨rfl, rfl⟩, rfl, fun h s => ?_⟩
          rw [hst]
          exact SubC.out h s
        · try simp only [decide_eq_true_eq, decide_eq_false_iff_not, Bool.not_eq_true', Bool.not_eq_false', Bool.and_eq_true, Bool.or_eq_true, Bool.and_eq_false_iff, Bool.or_eq_false_iff, Option.isNone_some, Option.isSome_some, Option.isNone_none, Option.isSome_none, Int.not_lt, Int.not_le, beq_iff_eq, beq_eq_false_iff_ne, bne_iff_ne, ne_eq, Bool.not_not, Decidable.not_not] at h96
          obtain ⟨bb, hbb⟩ : ∃ bb : Int, bb = (if 1000 < b then 1000 else b) := ⟨_, rfl⟩
          have hb0 : b = bb := by rw [hbb, if_neg (by omega)]
          refine J.condF rfl rfl ?_
          refine J.skip rfl ?_
          refine J.seq rfl ?_
          refine J.setv (u' := .int .i64 bb) 13 rfl (congrArg (Value.int .i64) hb0) ?_
          refine J.imp (M := FA p F :: RA q F :: blk b3 (.cells #[.int .i64 d, .int .i64 a, .int .i64 b, .slice y m cq] 57) :: blk pr (.cells #[.pointer (some ⟨p, 0, none⟩), .pointer (some ⟨q, 0, none⟩)] 68) :: L) (fun h s => SubC.out h s) ?_
          refine J.mask1 (n := 13) [] rfl Try.mixed rfl (by kernel_rfl) ?_
          refine JM.take 0 (fun _ h => h.tail) rfl (by kernel_rfl) rfl rfl rfl (m' := 1) rfl (Pur.move rfl) ?_
          refine JM.take 1 (fun _ h => h.tail) rfl (by kernel_rfl) rfl rfl rfl (m' := 3) rfl (Pur.nilCheck rfl) ?_
          refine JM.take 2 (fun _ h => h.tail) rfl (by kernel_rfl) rfl rfl rfl (m' := 7) rfl (Pur.fieldAddr rfl) ?_
          refine JM.take 3 (fun _ h => h.tail) rfl (by kernel_rfl) rfl rfl rfl (m' := 15) rfl (Pur.load rfl (CellIn.blk rfl)) ?_
          refine JM.take 4 (fun _ h => h.tail) rfl (by kernel_rfl) rfl rfl rfl (m' := 31) rfl (Pur.fieldAddr rfl) ?_
          refine JM.take 5 (fun _ h => h.tail) rfl (by kernel_rfl) rfl rfl rfl (m' := 63) rfl (Pur.load rfl (CellIn.blk rfl)) ?_
          refine JM.take 6 (fun _ h => h.tail) rfl (by kernel_rfl) rfl rfl rfl (m' := 127) rfl (Pur.move rfl) ?_
          refine JM.one (i := 7) (by kernel_rfl) ?_
          refine JMi.eff rfl rfl rfl rfl (m' := 255) rfl (Eff.call rfl (Read_ok (F := F) g hk)) ?_
          rintro _ _ ⟨a105, c105, rfl, rfl⟩
          refine ⟨.inr (fun _ h => h.tail.tail), ?_⟩
          refine JM.take 8 (fun _ h => h.tail.tail) rfl (by kernel_rfl) rfl rfl rfl (m' := 511) rfl (Pur.move rfl) ?_
          refine JM.take 9 (fun _ h => h.tail.tail) rfl (by kernel_rfl) rfl rfl rfl (m' := 1023) rfl (Pur.extract rfl rfl) ?_
          refine JM.take 10 (fun _ h => h.tail.tail) rfl (by kernel_rfl) rfl rfl rfl (m' := 2047) rfl (Pur.extract rfl rfl) ?_
          refine JM.take 11 (fun _ h => h.tail.tail) rfl (by kernel_rfl) rfl rfl rfl (m' := 4095) rfl (Pur.assign rfl) ?_
          refine JM.take 12 (fun _ h => h.tail.tail) rfl (by kernel_rfl) rfl rfl rfl (m' := 8191) rfl (Pur.assign rfl) ?_
          refine JM.done rfl ?_
          refine J.seq rfl ?_
          refine J.imp (M := RA q F :: sl byE a105 c105 (readF F a bb).2.1 :: FA p (readF F a bb).1 :: blk b3 (.cells #[.int .i64 d, .int .i64 a, .int .i64 b, .slice y m cq] 57) :: blk pr (.cells #[.pointer (some ⟨p, 0, none⟩), .pointer (some ⟨q, 0, none⟩)] 68) :: L) (fun h s => SubC.out h s) ?_
          refine J.mask1 (n := 13) [] rfl Try.mixed rfl (by kernel_rfl) ?_
          refine JM.take 0 (fun _ h => h.tail) rfl (by kernel_rfl) rfl rfl rfl (m' := 1) rfl (Pur.move rfl) ?_
          refine JM.take 1 (fun _ h => h.tail) rfl (by kernel_rfl) rfl rfl rfl (m' := 3) rfl (Pur.nilCheck rfl) ?_
          refine JM.take 2 (fun _ h => h.tail) rfl (by kernel_rfl) rfl rfl rfl (m' := 7) rfl (Pur.fieldAddr rfl) ?_
          refine JM.take 3 (fun _ h => h.tail) rfl (by kernel_rfl) rfl rfl rfl (m' := 15) rfl (Pur.load rfl (CellIn.blk rfl)) ?_
          refine JM.take 4 (fun _ h => h.tail) rfl (by kernel_rfl) rfl rfl rfl (m' := 31) rfl (Pur.fieldAddr rfl) ?_
          refine JM.take 5 (fun _ h => h.tail) rfl (by kernel_rfl) rfl rfl rfl (m' := 63) rfl (Pur.load rfl (CellIn.blk rfl)) ?_
          refine JM.take 6 (fun _ h => h.tail) rfl (by kernel_rfl) rfl rfl rfl (m' := 127) rfl (Pur.move rfl) ?_
          refine JM.one (i := 7) (by kernel_rfl) ?_
          refine JMi.eff rfl rfl rfl rfl (m' := 255) rfl (Eff.call rfl (rRead_ok (F := F) g hk)) ?_
          rintro _ _ ⟨a116, c116, rfl, rfl⟩
          refine ⟨.inr (fun _ h => h.tail.tail), ?_⟩
          refine JM.take 8 (fun _ h => h.tail.tail) rfl (by kernel_rfl) rfl rfl rfl (m' := 511) rfl (Pur.move rfl) ?_
          refine JM.take 9 (fun _ h => h.tail.tail) rfl (by kernel_rfl) rfl rfl rfl (m' := 1023) rfl (Pur.extract rfl rfl) ?_
          refine JM.take 10 (fun _ h => h.tail.tail) rfl (by kernel_rfl) rfl rfl rfl (m' := 2047) rfl (Pur.extract rfl rfl) ?_
          refine JM.take 11 (fun _ h => h.tail.tail) rfl (by kernel_rfl) rfl rfl rfl (m' := 4095) rfl (Pur.assign rfl) ?_
          refine JM.take 12 (fun _ h => h.tail.tail) rfl (by kernel_rfl) rfl rfl rfl (m' := 8191) rfl (Pur.assign rfl) ?_
          refine JM.done rfl ?_
          refine J.seq rfl ?_
          refine J.region rfl ?_
          refine JO.pur rfl rfl rfl (Pur.move rfl) ?_
          refine JO.pur rfl rfl rfl (Pur.move rfl) ?_
          refine JO.effR rfl rfl rfl (Eff.call rfl (same_ok (xs := (readF F a bb).2.1) (ys := (readF F a bb).2.1) rfl rfl)) ?_
          refine JO.setv (u' := .bool true) 121 rfl (congrArg Value.bool (by simp)) ?_
          refine JO.pur rfl rfl rfl (Pur.move rfl) ?_
          refine JO.pur rfl rfl rfl (Pur.move rfl) ?_
          refine JO.pur rfl rfl rfl (Pur.move rfl) ?_
          refine JO.pur rfl rfl rfl (Pur.eqlI rfl rfl) ?_
          refine JO.setv (u' := .bool true) 125 rfl (congrArg Value.bool (by simp)) ?_
          refine JO.pur rfl rfl rfl (Pur.pickT rfl rfl) ?_
          refine JO.pur rfl rfl rfl (Pur.assign rfl) ?_
          refine JO.nil ?_
          refine J.ret rfl rfl ?_
          have hst : stepF F d a b ys = (readF F a bb).1 := by unfold stepF opN; rw [if_neg (by omega), if_neg (by omega), if_pos (by omega)]; rw [hbb]
          refine ⟨_, _, ⟨rfl, rfl⟩, rfl, fun h s => ?_⟩
          rw [hst]
          exact SubC.out h s
      · try simp only [decide_eq_true_eq, decide_eq_false_iff_not, Bool.not_eq_true', Bool.not_eq_false', Bool.and_eq_true, Bool.or_eq_true, Bool.and_eq_false_iff, Bool.or_eq_false_iff, Option.isNone_some, Option.isSome_some, Option.isNone_none, Option.isSome_none, Int.not_lt, Int.not_le, beq_iff_eq, beq_eq_false_iff_ne, bne_iff_ne, ne_eq, Bool.not_not, Decidable.not_not] at h91
        refine J.condF rfl rfl ?_
        refine J.seq rfl ?_
        refine J.region rfl ?_
        refine JO.pur rfl rfl rfl (Pur.eqlI rfl rfl) ?_
        refine JO.pur rfl rfl rfl (Pur.assign rfl) ?_
        refine JO.nil ?_
        refine J.splitB 127 rfl (fun h127 => ?_) (fun h127 => ?_)
        · try simp only [decide_eq_true_eq, decide_eq_false_iff_not, Bool.not_eq_true', Bool.not_eq_false', Bool.and_eq_true, Bool.or_eq_true, Bool.and_eq_false_iff, Bool.or_eq_false_iff, Option.isNone_some, Option.isSome_some, Option.isNone_none, Option.isSome_none, Int.not_lt, Int.not_le, beq_iff_eq, beq_eq_false_iff_ne, bne_iff_ne, ne_eq, Bool.not_not, Decidable.not_not] at h127
          refine J.condT rfl rfl ?_
          refine J.seq rfl ?_
          refine J.imp (M := FA p F :: RA q F :: blk b3 (.cells #[.int .i64 d, .int .i64 a, .int .i64 b, .slice y m cq] 57) :: blk pr (.cells #[.pointer (some ⟨p, 0, none⟩), .pointer (some ⟨q, 0, none⟩)] 68) :: L) (fun h s => SubC.out h s) ?_
          refine J.mask2 (n := 20) [] rfl Try.mixed rfl (by kernel_rfl) ?_
          refine JM.take 0 (fun _ h => h.tail.tail) rfl (by kernel_rfl) rfl rfl rfl (m' := 1) rfl (Pur.move rfl) ?_
          refine JM.take 1 (fun _ h => h.tail.tail) rfl (by kernel_rfl) rfl rfl rfl (m' := 3) rfl (Pur.nilCheck rfl) ?_
          refine JM.take 2 (fun _ h => h.tail.tail) rfl (by kernel_rfl) rfl rfl rfl (m' := 7) rfl (Pur.fieldAddr rfl) ?_
          refine JM.take 3 (fun _ h => h.tail.tail) rfl (by kernel_rfl) rfl rfl rfl (m' := 15) rfl (Pur.load rfl (CellIn.blk rfl)) ?_
          refine JM.take 4 (fun _ h => h.tail.tail) rfl (by kernel_rfl) rfl rfl rfl (m' := 31) rfl (Pur.fieldAddr rfl) ?_
          refine JM.take 5 (fun _ h => h.tail.tail) rfl (by kernel_rfl) rfl rfl rfl (m' := 63) rfl (Pur.load rfl (CellIn.blk rfl)) ?_
          refine JM.take 6 (fun _ h => h.tail.tail) rfl (by kernel_rfl) rfl rfl rfl (m' := 127) rfl (Pur.fieldAddr rfl) ?_
          refine JM.take 7 (fun _ h => h.tail.tail) rfl (by kernel_rfl) rfl rfl rfl (m' := 255) rfl (Pur.load rfl (CellIn.blk rfl)) ?_
          refine JM.take 9 (fun _ h => h.tail.tail) rfl (by kernel_rfl) rfl rfl rfl (m' := 767) rfl (Pur.move rfl) ?_
          refine JM.take 10 (fun _ h => h.tail.tail) rfl (by kernel_rfl) rfl rfl rfl (m' := 1791) rfl (Pur.nilCheck rfl) ?_
          refine JM.take 11 (fun _ h => h.tail.tail) rfl (by kernel_rfl) rfl rfl rfl (m' := 3839) rfl (Pur.fieldAddr rfl) ?_
          refine JM.take 12 (fun _ h => h.tail.tail) rfl (by kernel_rfl) rfl rfl rfl (m' := 7935) rfl (Pur.load rfl (CellIn.blk rfl)) ?_
          refine JM.take 13 (fun _ h => h.tail.tail) rfl (by kernel_rfl) rfl rfl rfl (m' := 16127) rfl (Pur.fieldAddr rfl) ?_
          refine JM.take 14 (fun _ h => h.tail.tail) rfl (by kernel_rfl) rfl rfl rfl (m' := 32511) rfl (Pur.load rfl (CellIn.blk rfl)) ?_
          refine JM.take 15 (fun _ h => h.tail.tail) rfl (by kernel_rfl) rfl rfl rfl (m' := 65279) rfl (Pur.fieldAddr rfl) ?_
          refine JM.take 16 (fun _ h => h.tail.tail) rfl (by kernel_rfl) rfl rfl rfl (m' := 130815) rfl (Pur.load rfl (CellIn.blk rfl)) ?_
          refine JM.one (i := 8) (by kernel_rfl) ?_
          refine JMi.eff rfl rfl rfl rfl (m' := 131071) rfl (Eff.call rfl (Write_ok (F := F) (ys := ys) hm hys hnil g hk)) ?_
          rintro _ _ ⟨rfl, rfl⟩
          refine ⟨.inr (fun _ h => h.tail.tail), ?_⟩
          refine JM.imp (M := RA q F :: FA p (writeF F a ys).1 :: blk b3 (.cells #[.int .i64 d, .int .i64 a, .int .i64 b, .slice y m cq] 57) :: blk pr (.cells #[.pointer (some ⟨p, 0, none⟩), .pointer (some ⟨q, 0, none⟩)] 68) :: L) (fun h s => SubC.out h s) ?_
          refine JM.one (i := 17) (by kernel_rfl) ?_
          refine JMi.eff rfl rfl rfl rfl (m' := 262143) rfl (Eff.call rfl (rWrite_ok (F := F) (ys := ys) hm hys hnil g hk)) ?_
          rintro _ _ ⟨rfl, rfl⟩
          refine ⟨.inr (fun _ h => h.tail.tail), ?_⟩
          refine JM.take 18 (fun _ h => h.tail.tail) rfl (by kernel_rfl) rfl rfl rfl (m' := 524287) rfl (Pur.eqlI rfl rfl) ?_
          refine JM.setv (u' := .bool true) 147 rfl (congrArg Value.bool (by simp)) ?_
          refine JM.take 19 (fun _ h => h.tail.tail) rfl (by kernel_rfl) rfl rfl rfl (m' := 1048575) rfl (Pur.assign rfl) ?_
          refine JM.done rfl ?_
          refine J.ret rfl rfl ?_
          have hst : stepF F d a b ys = (writeF F a ys).1 := by unfold stepF opN; rw [if_neg (by omega), if_neg (by omega), if_neg (by omega), if_pos (by omega)]
          refine ⟨_, _, ⟨rfl, rfl⟩, rfl, fun h s => ?_⟩
          rw [hst]
          exact SubC.out h s
        · try simp only [decide_eq_true_eq, decide_eq_false_iff_not, Bool.not_eq_true', Bool.not_eq_false', Bool.and_eq_true, Bool.or_eq_true, Bool.and_eq_false_iff, Bool.or_eq_false_iff, Option.isNone_some, Option.isSome_some, Option.isNone_none, Option.isSome_none, Int.not_lt, Int.not_le, beq_iff_eq, beq_eq_false_iff_ne, bne_iff_ne, ne_eq, Bool.not_not, Decidable.not_not] at h127
          refine J.condF rfl rfl ?_
          refine J.seq rfl ?_
          refine J.region rfl ?_
          refine JO.pur rfl rfl rfl (Pur.eqlI rfl rfl) ?_
          refine JO.pur rfl rfl rfl (Pur.assign rfl) ?_
          refine JO.nil ?_
          refine J.splitB 148 rfl (fun h148 => ?_) (fun h148 => ?_)
          · try simp only [decide_eq_true_eq, decide_eq_false_iff_not, Bool.not_eq_true', Bool.not_eq_false', Bool.and_eq_true, Bool.or_eq_true, Bool.and_eq_false_iff, Bool.or_eq_false_iff, Option.isNone_some, Option.isSome_some, Option.isNone_none, Option.isSome_none, Int.not_lt, Int.not_le, beq_iff_eq, beq_eq_false_iff_ne, bne_iff_ne, ne_eq, Bool.not_not, Decidable.not_not] at h148
            refine J.condT rfl rfl ?_
            refine J.seq rfl ?_
            refine J.imp (M := FA p F :: RA q F :: blk b3 (.cells #[.int .i64 d, .int .i64 a, .int .i64 b, .slice y m cq] 57) :: blk pr (.cells #[.pointer (some ⟨p, 0, none⟩), .pointer (some ⟨q, 0, none⟩)] 68) :: L) (fun h s => SubC.out h s) ?_
            refine J.mask2 (n := 16) [] rfl Try.mixed rfl (by kernel_rfl) ?_
            refine JM.take 0 (fun _ h => h.tail.tail) rfl (by kernel_rfl) rfl rfl rfl (m' := 1) rfl (Pur.move rfl) ?_
            refine JM.take 1 (fun _ h => h.tail.tail) rfl (by kernel_rfl) rfl rfl rfl (m' := 3) rfl (Pur.nilCheck rfl) ?_
            refine JM.take 2 (fun _ h => h.tail.tail) rfl (by kernel_rfl) rfl rfl rfl (m' := 7) rfl (Pur.fieldAddr rfl) ?_
            refine JM.take 3 (fun _ h => h.tail.tail) rfl (by kernel_rfl) rfl rfl rfl (m' := 15) rfl (Pur.load rfl (CellIn.blk rfl)) ?_
            refine JM.take 4 (fun _ h => h.tail.tail) rfl (by kernel_rfl) rfl rfl rfl (m' := 31) rfl (Pur.fieldAddr rfl) ?_
            refine JM.take 5 (fun _ h => h.tail.tail) rfl (by kernel_rfl) rfl rfl rfl (m' := 63) rfl (Pur.load rfl (CellIn.blk rfl)) ?_
            refine JM.take 7 (fun _ h => h.tail.tail) rfl (by kernel_rfl) rfl rfl rfl (m' := 191) rfl (Pur.move rfl) ?_
            refine JM.take 8 (fun _ h => h.tail.tail) rfl (by kernel_rfl) rfl rfl rfl (m' := 447) rfl (Pur.nilCheck rfl) ?_
            refine JM.take 9 (fun _ h => h.tail.tail) rfl (by kernel_rfl) rfl rfl rfl (m' := 959) rfl (Pur.fieldAddr rfl) ?_
            refine JM.take 10 (fun _ h => h.tail.tail) rfl (by kernel_rfl) rfl rfl rfl (m' := 1983) rfl (Pur.load rfl (CellIn.blk rfl)) ?_
            refine JM.take 11 (fun _ h => h.tail.tail) rfl (by kernel_rfl) rfl rfl rfl (m' := 4031) rfl (Pur.fieldAddr rfl) ?_
            refine JM.take 12 (fun _ h => h.tail.tail) rfl (by kernel_rfl) rfl rfl rfl (m' := 8127) rfl (Pur.load rfl (CellIn.blk rfl)) ?_
            refine JM.one (i := 6) (by kernel_rfl) ?_
            refine JMi.eff rfl rfl rfl rfl (m' := 8191) rfl (Eff.call rfl (Mark_ok (F := F) g hk)) ?_
            rintro _ _ ⟨rfl, rfl⟩
            refine ⟨.inr (fun _ h => h.tail.tail), ?_⟩
            refine JM.imp (M := RA q F :: FA p (markF F a).1 :: blk b3 (.cells #[.int .i64 d, .int .i64 a, .int .i64 b, .slice y m cq] 57) :: blk pr (.cells #[.pointer (some ⟨p, 0, none⟩), .pointer (some ⟨q, 0, none⟩)] 68) :: L) (fun h s => SubC.out h s) ?_
            refine JM.one (i := 13) (by kernel_rfl) ?_
            refine JMi.eff rfl rfl rfl rfl (m' := 16383) rfl (Eff.call rfl (rMark_ok (F := F) g hk)) ?_
            rintro _ _ ⟨rfl, rfl⟩
            refine ⟨.inr (fun _ h => h.tail.tail), ?_⟩
            refine JM.take 14 (fun _ h => h.tail.tail) rfl (by kernel_rfl) rfl rfl rfl (m' := 32767) rfl (Pur.eqlI rfl rfl) ?_
            refine JM.setv (u' := .bool true) 164 rfl (congrArg Value.bool (by simp)) ?_
            refine JM.take 15 (fun _ h => h.tail.tail) rfl (by kernel_rfl) rfl rfl rfl (m' := 65535) rfl (Pur.assign rfl) ?_
            refine JM.done rfl ?_
            refine J.ret rfl rfl ?_
            have hst : stepF F d a b ys = (markF F a).1 := by unfold stepF opN; rw [if_neg (by omega), if_neg (by omega), if_neg (by omega), if_neg (by omega), if_pos (by omega)]
            refine ⟨_, _, ⟨rfl, rfl⟩, rfl, fun h s => ?_⟩
            rw [hst]
            exact SubC.out h s
          · try simp only [decide_eq_true_eq, decide_eq_false_iff_not, Bool.not_eq_true', Bool.not_eq_false', Bool.and_eq_true, Bool.or_eq_true, Bool.and_eq_false_iff, Bool.or_eq_false_iff, Option.isNone_some, Option.isSome_some, Option.isNone_none, Option.isSome_none, Int.not_lt, Int.not_le, beq_iff_eq, beq_eq_false_iff_ne, bne_iff_ne, ne_eq, Bool.not_not, Decidable.not_not] at h148
            refine J.condF rfl rfl ?_
            refine J.seq rfl ?_
            refine J.region rfl ?_
            refine JO.pur rfl rfl rfl (Pur.eqlI rfl rfl) ?_
            refine JO.pur rfl rfl rfl (Pur.assign rfl) ?_
            refine JO.nil ?_
            refine J.splitB 165 rfl (fun h165 => ?_) (fun h165 => ?_)
            · try simp only [decide_eq_true_eq, decide_eq_false_iff_not, Bool.not_eq_true', Bool.not_eq_false', Bool.and_eq_true, Bool.or_eq_true, Bool.and_eq_false_iff, Bool.or_eq_false_iff, Option.isNone_some, Option.isSome_some, Option.isNone_none, Option.isSome_none, Int.not_lt, Int.not_le, beq_iff_eq, beq_eq_false_iff_ne, bne_iff_ne, ne_eq, Bool.not_not, Decidable.not_not] at h165
              refine J.condT rfl rfl ?_
              refine J.seq rfl ?_
              refine J.imp (M := FA p F :: RA q F :: blk b3 (.cells #[.int .i64 d, .int .i64 a, .int .i64 b, .slice y m cq] 57) :: blk pr (.cells #[.pointer (some ⟨p, 0, none⟩), .pointer (some ⟨q, 0, none⟩)] 68) :: L) (fun h s => SubC.out h s) ?_
              refine J.mask2 (n := 16) [] rfl Try.mixed rfl (by kernel_rfl) ?_
              refine JM.take 0 (fun _ h => h.tail.tail) rfl (by kernel_rfl) rfl rfl rfl (m' := 1) rfl (Pur.move rfl) ?_
              refine JM.take 1 (fun _ h => h.tail.tail) rfl (by kernel_rfl) rfl rfl rfl (m' := 3) rfl (Pur.nilCheck rfl) ?_
              refine JM.take 2 (fun _ h => h.tail.tail) rfl (by kernel_rfl) rfl rfl rfl (m' := 7) rfl (Pur.fieldAddr rfl) ?_
              refine JM.take 3 (fun _ h => h.tail.tail) rfl (by kernel_rfl) rfl rfl rfl (m' := 15) rfl (Pur.load rfl (CellIn.blk rfl)) ?_
              refine JM.take 4 (fun _ h => h.tail.tail) rfl (by kernel_rfl) rfl rfl rfl (m' := 31) rfl (Pur.fieldAddr rfl) ?_
              refine JM.take 5 (fun _ h => h.tail.tail) rfl (by kernel_rfl) rfl rfl rfl (m' := 63) rfl (Pur.load rfl (CellIn.blk rfl)) ?_
              refine JM.take 7 (fun _ h => h.tail.tail) rfl (by kernel_rfl) rfl rfl rfl (m' := 191) rfl (Pur.move rfl) ?_
              refine JM.take 8 (fun _ h => h.tail.tail) rfl (by kernel_rfl) rfl rfl rfl (m' := 447) rfl (Pur.nilCheck rfl) ?_
              refine JM.take 9 (fun _ h => h.tail.tail) rfl (by kernel_rfl) rfl rfl rfl (m' := 959) rfl (Pur.fieldAddr rfl) ?_
              refine JM.take 10 (fun _ h => h.tail.tail) rfl (by kernel_rfl) rfl rfl rfl (m' := 1983) rfl (Pur.load rfl (CellIn.blk rfl)) ?_
              refine JM.take 11 (fun _ h => h.tail.tail) rfl (by kernel_rfl) rfl rfl rfl (m' := 4031) rfl (Pur.fieldAddr rfl) ?_
              refine JM.take 12 (fun _ h => h.tail.tail) rfl (by kernel_rfl) rfl rfl rfl (m' := 8127) rfl (Pur.load rfl (CellIn.blk rfl)) ?_
              refine JM.one (i := 6) (by kernel_rfl) ?_
              refine JMi.eff rfl rfl rfl rfl (m' := 8191) rfl (Eff.call rfl (Revert_ok (F := F) g hk)) ?_
              rintro _ _ ⟨rfl, rfl⟩
              refine ⟨.inr (fun _ h => h.tail.tail), ?_⟩
              refine JM.imp (M := RA q F :: FA p (revertF F a).1 :: blk b3 (.cells #[.int .i64 d, .int .i64 a, .int .i64 b, .slice y m cq] 57) :: blk pr (.cells #[.pointer (some ⟨p, 0, none⟩), .pointer (some ⟨q, 0, none⟩)] 68) :: L) (fun h s => SubC.out h s) ?_
              refine JM.one (i := 13) (by kernel_rfl) ?_
              refine JMi.eff rfl rfl rfl rfl (m' := 16383) rfl (Eff.call rfl (rRevert_ok (F := F) g hk)) ?_
              rintro _ _ ⟨rfl, rfl⟩
              refine ⟨.inr (fun _ h => h.tail.tail), ?_⟩
              refine JM.take 14 (fun _ h => h.tail.tail) rfl (by kernel_rfl) rfl rfl rfl (m' := 32767) rfl (Pur.eqlI rfl rfl) ?_
              refine JM.setv (u' := .bool true) 181 rfl (congrArg Value.bool (by simp)) ?_
              refine JM.take 15 (fun _ h => h.tail.tail) rfl (by kernel_rfl) rfl rfl rfl (m' := 65535) rfl (Pur.assign rfl) ?_
              refine JM.done rfl ?_
              refine J.ret rfl rfl ?_
              have hst : stepF F d a b ys = (revertF F a).1 := by unfold stepF opN; rw [if_neg (by omega), if_neg (by omega), if_neg (by omega), if_neg (by omega), if_neg (by omega), if_pos (by omega)]
              refine ⟨_, _, ⟨rfl, rfl⟩, rfl, fun h s => ?_⟩
              rw [hst]
              exact SubC.out h s
            · try simp only [decide_eq_true_eq, decide_eq_false_iff_not, Bool.not_eq_true', Bool.not_eq_false', Bool.and_eq_true, Bool.or_eq_true, Bool.and_eq_false_iff, Bool.or_eq_false_iff, Option.isNone_some, Option.isSome_some, Option.isNone_none, Option.isSome_none, Int.not_lt, Int.not_le, beq_iff_eq, beq_eq_false_iff_ne, bne_iff_ne, ne_eq, Bool.not_not, Decidable.not_not] at h165
              refine J.condF rfl rfl ?_
              refine J.seq rfl ?_
              refine J.region rfl ?_
              refine JO.pur rfl rfl rfl (Pur.eqlI rfl rfl) ?_
              refine JO.pur rfl rfl rfl (Pur.assign rfl) ?_
              refine JO.nil ?_
              refine J.splitB 182 rfl (fun h182 => ?_) (fun h182 => ?_)
              · try simp only [decide_eq_true_eq, decide_eq_false_iff_not, Bool.not_eq_true', Bool.not_eq_false', Bool.and_eq_true, Bool.or_eq_true, Bool.and_eq_false_iff, Bool.or_eq_false_iff, Option.isNone_some, Option.isSome_some, Option.isNone_none, Option.isSome_none, Int.not_lt, Int.not_le, beq_iff_eq, beq_eq_false_iff_ne, bne_iff_ne, ne_eq, Bool.not_not, Decidable.not_not] at h182
                refine J.condT rfl rfl ?_
                refine J.seq rfl ?_
                refine J.imp (M := FA p F :: RA q F :: blk b3 (.cells #[.int .i64 d, .int .i64 a, .int .i64 b, .slice y m cq] 57) :: blk pr (.cells #[.pointer (some ⟨p, 0, none⟩), .pointer (some ⟨q, 0, none⟩)] 68) :: L) (fun h s => SubC.out h s) ?_
                refine J.mask2 (n := 16) [] rfl Try.mixed rfl (by kernel_rfl) ?_
                refine JM.take 0 (fun _ h => h.tail.tail) rfl (by kernel_rfl) rfl rfl rfl (m' := 1) rfl (Pur.move rfl) ?_
                refine JM.take 1 (fun _ h => h.tail.tail) rfl (by kernel_rfl) rfl rfl rfl (m' := 3) rfl (Pur.nilCheck rfl) ?_
                refine JM.take 2 (fun _ h => h.tail.tail) rfl (by kernel_rfl) rfl rfl rfl (m' := 7) rfl (Pur.fieldAddr rfl) ?_
                refine JM.take 3 (fun _ h => h.tail.tail) rfl (by kernel_rfl) rfl rfl rfl (m' := 15) rfl (Pur.load rfl (CellIn.blk rfl)) ?_
                refine JM.take 4 (fun _ h => h.tail.tail) rfl (by kernel_rfl) rfl rfl rfl (m' := 31) rfl (Pur.fieldAddr rfl) ?_
                refine JM.take 5 (fun _ h => h.tail.tail) rfl (by kernel_rfl) rfl rfl rfl (m' := 63) rfl (Pur.load rfl (CellIn.blk rfl)) ?_
                refine JM.take 7 (fun _ h => h.tail.tail) rfl (by kernel_rfl) rfl rfl rfl (m' := 191) rfl (Pur.move rfl) ?_
                refine JM.take 8 (fun _ h => h.tail.tail) rfl (by kernel_rfl) rfl rfl rfl (m' := 447) rfl (Pur.nilCheck rfl) ?_
                refine JM.take 9 (fun _ h => h.tail.tail) rfl (by kernel_rfl) rfl rfl rfl (m' := 959) rfl (Pur.fieldAddr rfl) ?_
                refine JM.take 10 (fun _ h => h.tail.tail) rfl (by kernel_rfl) rfl rfl rfl (m' := 1983) rfl (Pur.load rfl (CellIn.blk rfl)) ?_
                refine JM.take 11 (fun _ h => h.tail.tail) rfl (by kernel_rfl) rfl rfl rfl (m' := 4031) rfl (Pur.fieldAddr rfl) ?_
                refine JM.take 12 (fun _ h => h.tail.tail) rfl (by kernel_rfl) rfl rfl rfl (m' := 8127) rfl (Pur.load rfl (CellIn.blk rfl)) ?_
                refine JM.one (i := 6) (by kernel_rfl) ?_
                refine JMi.eff rfl rfl rfl rfl (m' := 8191) rfl (Eff.call rfl (Accept_ok (F := F) g hk)) ?_
                rintro _ _ ⟨rfl, rfl⟩
                refine ⟨.inr (fun _ h => h.tail.tail), ?_⟩
                refine JM.imp (M := RA q F :: FA p (acceptF F a).1 :: blk b3 (.cells #[.int .i64 d, .int .i64 a, .int .i64 b, .slice y m cq] 57) :: blk pr (.cells #[.pointer (some ⟨p, 0, none⟩), .pointer (some ⟨q, 0, none⟩)] 68) :: L) (fun h s => SubC.out h s) ?_
                refine JM.one (i := 13) (by kernel_rfl) ?_
                refine JMi.eff rfl rfl rfl rfl (m' := 16383) rfl (Eff.call rfl (rAccept_ok (F := F) g hk)) ?_
                rintro _ _ ⟨rfl, rfl⟩
                refine ⟨.inr (fun _ h => h.tail.tail), ?_⟩
                refine JM.take 14 (fun _ h => h.tail.tail) rfl (by kernel_rfl) rfl rfl rfl (m' := 32767) rfl (Pur.eqlI rfl rfl) ?_
                refine JM.setv (u' := .bool true) 198 rfl (congrArg Value.bool (by simp)) ?_
                refine JM.take 15 (fun _ h => h.tail.tail) rfl (by kernel_rfl) rfl rfl rfl (m' := 65535) rfl (Pur.assign rfl) ?_
                refine JM.done rfl ?_
                refine J.ret rfl rfl ?_
                have hst : stepF F d a b ys = (acceptF F a).1 := by unfold stepF opN; rw [if_neg (by omega), if_neg (by omega), if_neg (by omega), if_neg (by omega), if_neg (by omega), if_neg (by omega), if_pos (by omega)]
                refine ⟨_, _, ⟨rfl, rfl⟩, rfl, fun h s => ?_⟩
                rw [hst]
                exact SubC.out h s
              · try simp only [decide_eq_true_eq, decide_eq_false_iff_not, Bool.not_eq_true', Bool.not_eq_false', Bool.and_eq_true, Bool.or_eq_true, Bool.and_eq_false_iff, Bool.or_eq_false_iff, Option.isNone_some, Option.isSome_some, Option.isNone_none, Option.isSome_none, Int.not_lt, Int.not_le, beq_iff_eq, beq_eq_false_iff_ne, bne_iff_ne, ne_eq, Bool.not_not, Decidable.not_not] at h182
                refine J.condF rfl rfl ?_
                refine J.seq rfl ?_
                refine J.region rfl ?_
                refine JO.pur rfl rfl rfl (Pur.eqlI rfl rfl) ?_
                refine JO.pur rfl rfl rfl (Pur.assign rfl) ?_
                refine JO.nil ?_
                refine J.splitB 199 rfl (fun h199 => ?_) (fun h199 => ?_)
                · try simp only [decide_eq_true_eq, decide_eq_false_iff_not, Bool.not_eq_true', Bool.not_eq_false', Bool.and_eq_true, Bool.or_eq_true, Bool.and_eq_false_iff, Bool.or_eq_false_iff, Option.isNone_some, Option.isSome_some, Option.isNone_none, Option.isSome_none, Int.not_lt, Int.not_le, beq_iff_eq, beq_eq_false_iff_ne, bne_iff_ne, ne_eq, Bool.not_not, Decidable.not_not] at h199
                  refine J.condT rfl rfl ?_
                  refine J.seq rfl ?_
                  refine J.imp (M := FA p F :: RA q F :: blk b3 (.cells #[.int .i64 d, .int .i64 a, .int .i64 b, .slice y m cq] 57) :: blk pr (.cells #[.pointer (some ⟨p, 0, none⟩), .pointer (some ⟨q, 0, none⟩)] 68) :: L) (fun h s => SubC.out h s) ?_
                  refine J.mask2 (n := 16) [] rfl Try.mixed rfl (by kernel_rfl) ?_
                  refine JM.take 0 (fun _ h => h.tail.tail) rfl (by kernel_rfl) rfl rfl rfl (m' := 1) rfl (Pur.move rfl) ?_
                  refine JM.take 1 (fun _ h => h.tail.tail) rfl (by kernel_rfl) rfl rfl rfl (m' := 3) rfl (Pur.nilCheck rfl) ?_
                  refine JM.take 2 (fun _ h => h.tail.tail) rfl (by kernel_rfl) rfl rfl rfl (m' := 7) rfl (Pur.fieldAddr rfl) ?_
                  refine JM.take 3 (fun _ h => h.tail.tail) rfl (by kernel_rfl) rfl rfl rfl (m' := 15) rfl (Pur.load rfl (CellIn.blk rfl)) ?_
                  refine JM.take 4 (fun _ h => h.tail.tail) rfl (by kernel_rfl) rfl rfl rfl (m' := 31) rfl (Pur.fieldAddr rfl) ?_
                  refine JM.take 5 (fun _ h => h.tail.tail) rfl (by kernel_rfl) rfl rfl rfl (m' := 63) rfl (Pur.load rfl (CellIn.blk rfl)) ?_
                  refine JM.take 7 (fun _ h => h.tail.tail) rfl (by kernel_rfl) rfl rfl rfl (m' := 191) rfl (Pur.move rfl) ?_
                  refine JM.take 8 (fun _ h => h.tail.tail) rfl (by kernel_rfl) rfl rfl rfl (m' := 447) rfl (Pur.nilCheck rfl) ?_
                  refine JM.take 9 (fun _ h => h.tail.tail) rfl (by kernel_rfl) rfl rfl rfl (m' := 959) rfl (Pur.fieldAddr rfl) ?_
                  refine JM.take 10 (fun _ h => h.tail.tail) rfl (by kernel_rfl) rfl rfl rfl (m' := 1983) rfl (Pur.load rfl (CellIn.blk rfl)) ?_
                  refine JM.take 11 (fun _ h => h.tail.tail) rfl (by kernel_rfl) rfl rfl rfl (m' := 4031) rfl (Pur.fieldAddr rfl) ?_
                  refine JM.take 12 (fun _ h => h.tail.tail) rfl (by kernel_rfl) rfl rfl rfl (m' := 8127) rfl (Pur.load rfl (CellIn.blk rfl)) ?_
                  refine JM.one (i := 6) (by kernel_rfl) ?_
                  refine JMi.eff rfl rfl rfl rfl (m' := 8191) rfl (Eff.call rfl (Commit_ok (F := F) g hk)) ?_
                  rintro _ _ ⟨rfl, rfl⟩
                  refine ⟨.inr (fun _ h => h.tail.tail), ?_⟩
                  refine JM.imp (M := RA q F :: FA p (commitF F a).1 :: blk b3 (.cells #[.int .i64 d, .int .i64 a, .int .i64 b, .slice y m cq] 57) :: blk pr (.cells #[.pointer (some ⟨p, 0, none⟩), .pointer (some ⟨q, 0, none⟩)] 68) :: L) (fun h s => SubC.out h s) ?_
                  refine JM.one (i := 13) (by kernel_rfl) ?_
                  refine JMi.eff rfl rfl rfl rfl (m' := 16383) rfl (Eff.call rfl (rCommit_ok (F := F) g hk)) ?_
                  rintro _ _ ⟨rfl, rfl⟩
                  refine ⟨.inr (fun _ h => h.tail.tail), ?_⟩
                  refine JM.take 14 (fun _ h => h.tail.tail) rfl (by kernel_rfl) rfl rfl rfl (m' := 32767) rfl (Pur.eqlI rfl rfl) ?_
                  refine JM.setv (u' := .bool true) 215 rfl (congrArg Value.bool (by simp)) ?_
                  refine JM.take 15 (fun _ h => h.tail.tail) rfl (by kernel_rfl) rfl rfl rfl (m' := 65535) rfl (Pur.assign rfl) ?_
                  refine JM.done rfl ?_
                  refine J.ret rfl rfl ?_
                  have hst : stepF F d a b ys = (commitF F a).1 := by unfold stepF opN; rw [if_neg (by omega), if_neg (by omega), if_neg (by omega), if_neg (by omega), if_neg (by omega), if_neg (by omega), if_neg (by omega), if_pos (by omega)]
                  refine ⟨_, _, ⟨rfl, rfl⟩, rfl, fun h s => ?_⟩
                  rw [hst]
                  exact SubC.out h s
                · try simp only [decide_eq_true_eq, decide_eq_false_iff_not, Bool.not_eq_true', Bool.not_eq_false', Bool.and_eq_true, Bool.or_eq_true, Bool.and_eq_false_iff, Bool.or_eq_false_iff, Option.isNone_some, Option.isSome_some, Option.isNone_none, Option.isSome_none, Int.not_lt, Int.not_le, beq_iff_eq, beq_eq_false_iff_ne, bne_iff_ne, ne_eq, Bool.not_not, Decidable.not_not] at h199
                  refine J.condF rfl rfl ?_
                  refine J.skip rfl ?_
                  refine J.inBlock ?_
                  refine J.seq rfl ?_
                  refine J.imp (M := FA p F :: RA q F :: blk b3 (.cells #[.int .i64 d, .int .i64 a, .int .i64 b, .slice y m cq] 57) :: blk pr (.cells #[.pointer (some ⟨p, 0, none⟩), .pointer (some ⟨q, 0, none⟩)] 68) :: L) (fun h s => SubC.out h s) ?_
                  refine J.mask2 (n := 16) [] rfl Try.mixed rfl (by kernel_rfl) ?_
                  refine JM.take 0 (fun _ h => h.tail.tail) rfl (by kernel_rfl) rfl rfl rfl (m' := 1) rfl (Pur.move rfl) ?_
                  refine JM.take 1 (fun _ h => h.tail.tail) rfl (by kernel_rfl) rfl rfl rfl (m' := 3) rfl (Pur.nilCheck rfl) ?_
                  refine JM.take 2 (fun _ h => h.tail.tail) rfl (by kernel_rfl) rfl rfl rfl (m' := 7) rfl (Pur.fieldAddr rfl) ?_
                  refine JM.take 3 (fun _ h => h.tail.tail) rfl (by kernel_rfl) rfl rfl rfl (m' := 15) rfl (Pur.load rfl (CellIn.blk rfl)) ?_
                  refine JM.take 4 (fun _ h => h.tail.tail) rfl (by kernel_rfl) rfl rfl rfl (m' := 31) rfl (Pur.fieldAddr rfl) ?_
                  refine JM.take 5 (fun _ h => h.tail.tail) rfl (by kernel_rfl) rfl rfl rfl (m' := 63) rfl (Pur.load rfl (CellIn.blk rfl)) ?_
                  refine JM.take 7 (fun _ h => h.tail.tail) rfl (by kernel_rfl) rfl rfl rfl (m' := 191) rfl (Pur.move rfl) ?_
                  refine JM.take 8 (fun _ h => h.tail.tail) rfl (by kernel_rfl) rfl rfl rfl (m' := 447) rfl (Pur.nilCheck rfl) ?_
                  refine JM.take 9 (fun _ h => h.tail.tail) rfl (by kernel_rfl) rfl rfl rfl (m' := 959) rfl (Pur.fieldAddr rfl) ?_
                  refine JM.take 10 (fun _ h => h.tail.tail) rfl (by kernel_rfl) rfl rfl rfl (m' := 1983) rfl (Pur.load rfl (CellIn.blk rfl)) ?_
                  refine JM.take 11 (fun _ h => h.tail.tail) rfl (by kernel_rfl) rfl rfl rfl (m' := 4031) rfl (Pur.fieldAddr rfl) ?_
                  refine JM.take 12 (fun _ h => h.tail.tail) rfl (by kernel_rfl) rfl rfl rfl (m' := 8127) rfl (Pur.load rfl (CellIn.blk rfl)) ?_
                  refine JM.one (i := 6) (by kernel_rfl) ?_
                  refine JMi.eff rfl rfl rfl rfl (m' := 8191) rfl (Eff.call rfl (Close_ok (F := F) g hk)) ?_
                  rintro _ _ ⟨rfl, rfl⟩
                  refine ⟨.inr (fun _ h => h.tail.tail), ?_⟩
                  refine JM.imp (M := RA q F :: FA p (closeF F a).1 :: blk b3 (.cells #[.int .i64 d, .int .i64 a, .int .i64 b, .slice y m cq] 57) :: blk pr (.cells #[.pointer (some ⟨p, 0, none⟩), .pointer (some ⟨q, 0, none⟩)] 68) :: L) (fun h s => SubC.out h s) ?_
                  refine JM.one (i := 13) (by kernel_rfl) ?_
                  refine JMi.eff rfl rfl rfl rfl (m' := 16383) rfl (Eff.call rfl (rClose_ok (F := F) g hk)) ?_
                  rintro _ _ ⟨rfl, rfl⟩
                  refine ⟨.inr (fun _ h => h.tail.tail), ?_⟩
                  refine JM.take 14 (fun _ h => h.tail.tail) rfl (by kernel_rfl) rfl rfl rfl (m' := 32767) rfl (Pur.eqlI rfl rfl) ?_
                  refine JM.setv (u' := .bool true) 230 rfl (congrArg Value.bool (by simp)) ?_
                  refine JM.take 15 (fun _ h => h.tail.tail) rfl (by kernel_rfl) rfl rfl rfl (m' := 65535) rfl (Pur.assign rfl) ?_
                  refine JM.done rfl ?_
                  refine J.ret rfl rfl ?_
                  have hst : stepF F d a b ys = (closeF F a).1 := by unfold stepF opN; rw [if_neg (by omega), if_neg (by omega), if_neg (by omega), if_neg (by omega), if_neg (by omega), if_neg (by omega), if_neg (by omega), if_neg (by omega)]
                  refine ⟨_, _, ⟨rfl, rfl⟩, rfl, fun h s => ?_⟩
                  rw [hst]
                  exact SubC.out h s

end Go.Proofs.Ytgbckamaenapeaa
