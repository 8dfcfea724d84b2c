/-
  A part of the proof of the claim that this folder bears.
-/
import Derived.Test.YtnhippfllgnngaaPAU
/- The text SF2. -/
set_option linter.unusedVariables false
set_option linter.unusedSimpArgs false
set_option maxRecDepth 10000
namespace Go.Proofs.Ytnhippfllgnngaa
open Go Go.KK Dm

theorem lawTurns {L : List Asn} {lay lay2 : ByteArray} {a c1 c2 c3 : Option Addr} {n cap n1 k1 n2 k2 n3 k3 : Nat} {rs : List Rg} {x xs ys : List Int} {z : Int} [SlIn rgE L a rs] [SlIn intE L c1 x] [SlIn intE L c2 xs] [SlIn intE L c3 ys] (hn : n = rs.length) (h1 : n1 = x.length) (h2 : n2 = xs.length) (h3 : n3 = ys.length) (hb1 : x.length ≤ 17592186044416) (hl1 : c1 = none → x.length = 0 ∧ k1 = 0) (hl2 : c2 = none → xs.length = 0 ∧ k2 = 0) :
    CallS Try.prog 15 [.agg #[.string lay, .string lay2, .slice c1 n1 k1, .slice c2 n2 k2, .slice c3 n3 k3, .int .i64 z], .agg #[.slice a n cap]].toArray L (fun v M => v = .bool true ∧ M = L) := by
  subst hn
  subst h1
  subst h2
  subst h3
  refine CallS.ent ?_
  refine CallS.enter Try.func15 rfl rfl rfl rfl rfl ?_
  refine J.seq rfl ?_
  refine J.region rfl ?_
  refine JO.eff rfl rfl rfl (Eff.box (cs := [_, _, _, _, _, _]) rfl rfl) ?_
  rintro _ _ ⟨b2, rfl, rfl⟩
  refine JO.eff rfl rfl rfl (Eff.box (cs := [_]) rfl rfl) ?_
  rintro _ _ ⟨b3, rfl, rfl⟩
  refine JO.pur rfl rfl rfl (Pur.assign rfl) ?_
  refine JO.nil ?_
  refine J.seq rfl ?_
  refine J.quiet rfl Try.mixed (by kernel_rfl) ?_
  refine JQ.pur rfl rfl rfl (Pur.fieldAddr rfl) ?_
  refine JQ.pur rfl rfl rfl (Pur.load rfl (CellIn.blk rfl)) ?_
  refine JQ.pur rfl rfl rfl (Pur.fieldAddr rfl) ?_
  refine JQ.pur rfl rfl rfl (Pur.load rfl (CellIn.blk rfl)) ?_
  refine JQ.pur rfl rfl rfl (Pur.fieldAddr rfl) ?_
  refine JQ.pur rfl rfl rfl (Pur.load rfl (CellIn.blk rfl)) ?_
  refine JQ.pur rfl rfl rfl (Pur.assign rfl) ?_
  refine JQ.pur rfl rfl rfl (Pur.assign rfl) ?_
  refine JQ.pur rfl rfl rfl (Pur.assign rfl) ?_
  refine JQ.nil ?_
  refine J.seq rfl ?_
  refine J.seq rfl ?_
  refine J.region rfl ?_
  refine JO.pur rfl rfl rfl (Pur.loadA rfl rfl rfl CellsIn.blk) ?_
  refine JO.effR rfl rfl rfl (Eff.call rfl (large_ok (rs := rs) rfl)) ?_
  refine JO.nil ?_
  refine J.splitB 21 rfl (fun h21 => ?_) (fun h21 => ?_)
  · try simp only [decide_eq_true_eq, decide_eq_false_iff_not, Bool.not_eq_true', Bool.not_eq_false', Bool.and_eq_true, Bool.or_eq_true, Bool.and_eq_false_iff, Bool.or_eq_false_iff, Option.isNone_some, Option.isSome_some, Option.isNone_none, Option.isSome_none, Int.not_lt, Int.not_le, beq_iff_eq, beq_eq_false_iff_ne, bne_iff_ne, ne_eq, Bool.not_not, Decidable.not_not] at h21
    refine J.condT rfl rfl ?_
    refine J.seq rfl ?_
    refine J.region rfl ?_
    refine JO.effR rfl rfl rfl (Eff.call rfl (awake_ok)) ?_
    refine JO.pur rfl rfl rfl (Pur.assign rfl) ?_
    refine JO.nil ?_
    refine J.ret rfl rfl ?_
    refine ⟨_, _, ⟨rfl, rfl⟩, rfl, SubC.out⟩
  · try simp only [decide_eq_true_eq, decide_eq_false_iff_not, Bool.not_eq_true', Bool.not_eq_false', Bool.and_eq_true, Bool.or_eq_true, Bool.and_eq_false_iff, Bool.or_eq_false_iff, Option.isNone_some, Option.isSome_some, Option.isNone_none, Option.isSome_none, Int.not_lt, Int.not_le, beq_iff_eq, beq_eq_false_iff_ne, bne_iff_ne, ne_eq, Bool.not_not, Decidable.not_not] at h21
    refine J.condF rfl rfl ?_
    refine J.skip rfl ?_
    refine J.seq rfl ?_
    refine J.region rfl ?_
    refine JO.pur rfl rfl rfl (Pur.move rfl) ?_
    refine JO.pur rfl rfl rfl (Pur.move rfl) ?_
    refine JO.pur rfl rfl rfl (Pur.loadA rfl rfl rfl CellsIn.blk) ?_
    refine JO.pur rfl rfl rfl (Pur.move rfl) ?_
    refine JO.eff rfl rfl rfl (Eff.call rfl (lTurn (rs := rs) (xs := xs) rfl rfl)) ?_
    rintro _ _ ⟨a28, c28, rfl, rfl⟩
    refine JO.pur rfl rfl rfl (Pur.move rfl) ?_
    refine JO.pur rfl rfl rfl (Pur.extract rfl rfl) ?_
    refine JO.pur rfl rfl rfl (Pur.extract rfl rfl) ?_
    refine JO.setv (u' := .int .i64 (trnV lay lay2 rs xs).2) 30 rfl rfl ?_
    refine JO.pur rfl rfl rfl (Pur.assign rfl) ?_
    refine JO.pur rfl rfl rfl (Pur.assign rfl) ?_
    refine JO.nil ?_
    refine J.seq rfl ?_
    refine J.region rfl ?_
    refine JO.pur rfl rfl rfl (Pur.move rfl) ?_
    refine JO.pur rfl rfl rfl (Pur.move rfl) ?_
    refine JO.pur rfl rfl rfl (Pur.loadA rfl rfl rfl CellsIn.blk) ?_
    refine JO.pur rfl rfl rfl (Pur.move rfl) ?_
    refine JO.eff rfl rfl rfl (Eff.call rfl (rTurn (rs := rs) (xs := xs) rfl rfl)) ?_
    rintro _ _ ⟨a36, c36, rfl, rfl⟩
    refine JO.pur rfl rfl rfl (Pur.move rfl) ?_
    refine JO.pur rfl rfl rfl (Pur.extract rfl rfl) ?_
    refine JO.pur rfl rfl rfl (Pur.extract rfl rfl) ?_
    refine JO.setv (u' := .int .i64 (trnV lay lay2 rs xs).2) 38 rfl rfl ?_
    refine JO.pur rfl rfl rfl (Pur.assign rfl) ?_
    refine JO.pur rfl rfl rfl (Pur.assign rfl) ?_
    refine JO.nil ?_
    refine J.seq rfl ?_
    refine J.seq rfl ?_
    refine J.region rfl ?_
    refine JO.pur rfl rfl rfl (Pur.move rfl) ?_
    refine JO.pur rfl rfl rfl (Pur.move rfl) ?_
    refine JO.effR rfl rfl rfl (Eff.call rfl (same2_ok (xs := (trnV lay lay2 rs xs).1) (ys := (trnV lay lay2 rs xs).1) rfl rfl (trnV_len _ _ _ _))) ?_
    refine JO.setv (u' := .bool true) 41 rfl (congrArg Value.bool (decide_eq_true rfl)) ?_
    refine JO.pur rfl rfl rfl (Pur.not rfl) ?_
    refine JO.pur rfl rfl rfl (Pur.move rfl) ?_
    refine JO.pur rfl rfl rfl (Pur.move rfl) ?_
    refine JO.pur rfl rfl rfl (Pur.move rfl) ?_
    refine JO.pur rfl rfl rfl (Pur.neqI rfl rfl) ?_
    refine JO.pur rfl rfl rfl (Pur.pickF rfl rfl) ?_
    refine JO.nil ?_
    refine J.setv (u' := .bool false) 47 rfl (congrArg Value.bool (decide_eq_false (fun e => e rfl))) ?_
    refine J.condF rfl rfl ?_
    refine J.skip rfl ?_
    refine J.seq rfl ?_
    refine J.seq rfl ?_
    refine J.region rfl ?_
    refine JO.pur rfl rfl rfl (Pur.move rfl) ?_
    refine JO.pur rfl rfl rfl (Pur.neqI rfl rfl) ?_
    refine JO.nil ?_
    refine J.splitB 49 rfl (fun h49 => ?_) (fun h49 => ?_)
    · try simp only [decide_eq_true_eq, decide_eq_false_iff_not, Bool.not_eq_true', Bool.not_eq_false', Bool.and_eq_true, Bool.or_eq_true, Bool.and_eq_false_iff, Bool.or_eq_false_iff, Option.isNone_some, Option.isSome_some, Option.isNone_none, Option.isSome_none, Int.not_lt, Int.not_le, beq_iff_eq, beq_eq_false_iff_ne, bne_iff_ne, ne_eq, Bool.not_not, Decidable.not_not] at h49
      refine J.condT rfl rfl ?_
      refine J.seq rfl ?_
      refine J.region rfl ?_
      refine JO.effR rfl rfl rfl (Eff.call rfl (awake_ok)) ?_
      refine JO.pur rfl rfl rfl (Pur.assign rfl) ?_
      refine JO.nil ?_
      refine J.ret rfl rfl ?_
      refine ⟨_, _, ⟨rfl, rfl⟩, rfl, SubC.out⟩
    · try simp only [decide_eq_true_eq, decide_eq_false_iff_not, Bool.not_eq_true', Bool.not_eq_false', Bool.and_eq_true, Bool.or_eq_true, Bool.and_eq_false_iff, Bool.or_eq_false_iff, Option.isNone_some, Option.isSome_some, Option.isNone_none, Option.isSome_none, Int.not_lt, Int.not_le, beq_iff_eq, beq_eq_false_iff_ne, bne_iff_ne, ne_eq, Bool.not_not, Decidable.not_not] at h49
      have hgd : (trnV lay lay2 rs xs).2 = 0 := by simpa using h49
      have hbk := trn_back hgd
      have hxl : xs.length ≤ 1000000 := by have := trnV_len lay2 lay rs (trnV lay lay2 rs xs).1; rw [hbk] at this; exact this
      refine J.condF rfl rfl ?_
      refine J.skip rfl ?_
      refine J.seq rfl ?_
      refine J.region rfl ?_
      refine JO.pur rfl rfl rfl (Pur.move rfl) ?_
      refine JO.pur rfl rfl rfl (Pur.move rfl) ?_
      refine JO.pur rfl rfl rfl (Pur.loadA rfl rfl rfl CellsIn.blk) ?_
      refine JO.pur rfl rfl rfl (Pur.move rfl) ?_
      refine JO.eff rfl rfl rfl (Eff.call rfl (lTurn (lay := lay2) (lay2 := lay) (rs := rs) (xs := (trnV lay lay2 rs xs).1) rfl rfl)) ?_
      rintro _ _ ⟨a56, c56, rfl, rfl⟩
      rw [hbk]
      refine JO.pur rfl rfl rfl (Pur.move rfl) ?_
      refine JO.pur rfl rfl rfl (Pur.extract rfl rfl) ?_
      refine JO.pur rfl rfl rfl (Pur.extract rfl rfl) ?_
      refine JO.pur rfl rfl rfl (Pur.assign rfl) ?_
      refine JO.pur rfl rfl rfl (Pur.assign rfl) ?_
      refine JO.nil ?_
      refine J.seq rfl ?_
      refine J.region rfl ?_
      refine JO.pur rfl rfl rfl (Pur.move rfl) ?_
      refine JO.pur rfl rfl rfl (Pur.move rfl) ?_
      refine JO.effR rfl rfl rfl (Eff.call rfl (same2_ok (xs := xs) (ys := xs) rfl rfl (hxl))) ?_
      refine JO.setv (u' := .bool true) 61 rfl (congrArg Value.bool (decide_eq_true rfl)) ?_
      refine JO.pur rfl rfl rfl (Pur.move rfl) ?_
      refine JO.pur rfl rfl rfl (Pur.move rfl) ?_
      refine JO.pur rfl rfl rfl (Pur.eqlI rfl rfl) ?_
      refine JO.pur rfl rfl rfl (Pur.pickT rfl rfl) ?_
      refine JO.pur rfl rfl rfl (Pur.move rfl) ?_
      refine JO.setv (u' := .bool true) 66 rfl (congrArg Value.bool (decide_eq_true rfl)) ?_
      refine JO.effR rfl rfl rfl (Eff.call rfl (awake_ok)) ?_
      refine JO.pur rfl rfl rfl (Pur.pickT rfl rfl) ?_
      refine JO.pur rfl rfl rfl (Pur.assign rfl) ?_
      refine JO.nil ?_
      refine J.ret rfl rfl ?_
      refine ⟨_, _, ⟨rfl, rfl⟩, rfl, SubC.out⟩

theorem lawResizes {L : List Asn} {lay lay2 : ByteArray} {a b c1 c2 c3 : Option Addr} {n cap m cq n1 k1 n2 k2 n3 k3 : Nat} {rs ss : List Rg} {x xs ys : List Int} {z : Int} [SlIn rgE L a rs] [SlIn rgE L b ss] [SlIn intE L c1 x] [SlIn intE L c2 xs] [SlIn intE L c3 ys] (hn : n = rs.length) (hm : m = ss.length) (h1 : n1 = x.length) (h2 : n2 = xs.length) (h3 : n3 = ys.length) (hb1 : x.length ≤ 17592186044416) (hl1 : c1 = none → x.length = 0 ∧ k1 = 0) (hl2 : c2 = none → xs.length = 0 ∧ k2 = 0) :
    CallS Try.prog 16 [.agg #[.string lay, .string lay2, .slice c1 n1 k1, .slice c2 n2 k2, .slice c3 n3 k3, .int .i64 z], .agg #[.slice a n cap], .agg #[.slice b m cq]].toArray L (fun v M => v = .bool true ∧ M = L) := by
  subst hn
  subst hm
  subst h1
  subst h2
  subst h3
  refine CallS.ent ?_
  refine CallS.enter Try.func16 rfl rfl rfl rfl rfl ?_
  refine J.seq rfl ?_
  refine J.region rfl ?_
  refine JO.eff rfl rfl rfl (Eff.box (cs := [_, _, _, _, _, _]) rfl rfl) ?_
  rintro _ _ ⟨b3, rfl, rfl⟩
  refine JO.eff rfl rfl rfl (Eff.box (cs := [_]) rfl rfl) ?_
  rintro _ _ ⟨b4, rfl, rfl⟩
  refine JO.eff rfl rfl rfl (Eff.box (cs := [_]) rfl rfl) ?_
  rintro _ _ ⟨b5, rfl, rfl⟩
  refine JO.pur rfl rfl rfl (Pur.assign rfl) ?_
  refine JO.nil ?_
  refine J.seq rfl ?_
  refine J.quiet rfl Try.mixed (by kernel_rfl) ?_
  refine JQ.pur rfl rfl rfl (Pur.fieldAddr rfl) ?_
  refine JQ.pur rfl rfl rfl (Pur.load rfl (CellIn.blk rfl)) ?_
  refine JQ.pur rfl rfl rfl (Pur.fieldAddr rfl) ?_
  refine JQ.pur rfl rfl rfl (Pur.load rfl (CellIn.blk rfl)) ?_
  refine JQ.pur rfl rfl rfl (Pur.assign rfl) ?_
  refine JQ.pur rfl rfl rfl (Pur.assign rfl) ?_
  refine JQ.nil ?_
  refine J.seq rfl ?_
  refine J.seq rfl ?_
  refine J.region rfl ?_
  refine JO.pur rfl rfl rfl (Pur.loadA rfl rfl rfl CellsIn.blk) ?_
  refine JO.effR rfl rfl rfl (Eff.call rfl (large_ok (rs := rs) rfl)) ?_
  refine JO.pur rfl rfl rfl (Pur.move rfl) ?_
  refine JO.splitB 23 rfl (fun h23 => ?_) (fun h23 => ?_)
  · try simp only [decide_eq_true_eq, decide_eq_false_iff_not, Bool.not_eq_true', Bool.not_eq_false', Bool.and_eq_true, Bool.or_eq_true, Bool.and_eq_false_iff, Bool.or_eq_false_iff, Option.isNone_some, Option.isSome_some, Option.isNone_none, Option.isSome_none, Int.not_lt, Int.not_le, beq_iff_eq, beq_eq_false_iff_ne, bne_iff_ne, ne_eq, Bool.not_not, Decidable.not_not] at h23
    refine JO.no rfl rfl rfl ?_
    refine JO.no rfl rfl rfl ?_
    refine JO.pur rfl rfl rfl (Pur.pickT rfl rfl) ?_
    refine JO.nil ?_
    refine J.condT rfl rfl ?_
    refine J.seq rfl ?_
    refine J.region rfl ?_
    refine JO.effR rfl rfl rfl (Eff.call rfl (awake_ok)) ?_
    refine JO.pur rfl rfl rfl (Pur.assign rfl) ?_
    refine JO.nil ?_
    refine J.ret rfl rfl ?_
    refine ⟨_, _, ⟨rfl, rfl⟩, rfl, SubC.out⟩
  · try simp only [decide_eq_true_eq, decide_eq_false_iff_not, Bool.not_eq_true', Bool.not_eq_false', Bool.and_eq_true, Bool.or_eq_true, Bool.and_eq_false_iff, Bool.or_eq_false_iff, Option.isNone_some, Option.isSome_some, Option.isNone_none, Option.isSome_none, Int.not_lt, Int.not_le, beq_iff_eq, beq_eq_false_iff_ne, bne_iff_ne, ne_eq, Bool.not_not, Decidable.not_not] at h23
    refine JO.pur rfl rfl rfl (Pur.loadA rfl rfl rfl CellsIn.blk) ?_
    refine JO.effR rfl rfl rfl (Eff.call rfl (large_ok (rs := ss) rfl)) ?_
    refine JO.pur rfl rfl rfl (Pur.pickF rfl rfl) ?_
    refine JO.nil ?_
    refine J.splitB 26 rfl (fun h26 => ?_) (fun h26 => ?_)
    · try simp only [decide_eq_true_eq, decide_eq_false_iff_not, Bool.not_eq_true', Bool.not_eq_false', Bool.and_eq_true, Bool.or_eq_true, Bool.and_eq_false_iff, Bool.or_eq_false_iff, Option.isNone_some, Option.isSome_some, Option.isNone_none, Option.isSome_none, Int.not_lt, Int.not_le, beq_iff_eq, beq_eq_false_iff_ne, bne_iff_ne, ne_eq, Bool.not_not, Decidable.not_not] at h26
      refine J.condT rfl rfl ?_
      refine J.seq rfl ?_
      refine J.region rfl ?_
      refine JO.effR rfl rfl rfl (Eff.call rfl (awake_ok)) ?_
      refine JO.pur rfl rfl rfl (Pur.assign rfl) ?_
      refine JO.nil ?_
      refine J.ret rfl rfl ?_
      refine ⟨_, _, ⟨rfl, rfl⟩, rfl, SubC.out⟩
    · try simp only [decide_eq_true_eq, decide_eq_false_iff_not, Bool.not_eq_true', Bool.not_eq_false', Bool.and_eq_true, Bool.or_eq_true, Bool.and_eq_false_iff, Bool.or_eq_false_iff, Option.isNone_some, Option.isSome_some, Option.isNone_none, Option.isSome_none, Int.not_lt, Int.not_le, beq_iff_eq, beq_eq_false_iff_ne, bne_iff_ne, ne_eq, Bool.not_not, Decidable.not_not] at h26
      refine J.condF rfl rfl ?_
      refine J.skip rfl ?_
      refine J.seq rfl ?_
      refine J.region rfl ?_
      refine JO.pur rfl rfl rfl (Pur.move rfl) ?_
      refine JO.pur rfl rfl rfl (Pur.loadA rfl rfl rfl CellsIn.blk) ?_
      refine JO.pur rfl rfl rfl (Pur.move rfl) ?_
      refine JO.pur rfl rfl rfl (Pur.loadA rfl rfl rfl CellsIn.blk) ?_
      refine JO.eff rfl rfl rfl (Eff.call rfl (lResize (rs := rs) (ss := ss) (xs := xs) rfl rfl rfl)) ?_
      rintro _ _ ⟨a33, c33, rfl, rfl⟩
      refine JO.pur rfl rfl rfl (Pur.move rfl) ?_
      refine JO.pur rfl rfl rfl (Pur.extract rfl rfl) ?_
      refine JO.pur rfl rfl rfl (Pur.extract rfl rfl) ?_
      refine JO.setv (u' := .int .i64 (rszV lay rs xs ss).2) 35 rfl rfl ?_
      refine JO.pur rfl rfl rfl (Pur.assign rfl) ?_
      refine JO.pur rfl rfl rfl (Pur.assign rfl) ?_
      refine JO.nil ?_
      refine J.seq rfl ?_
      refine J.region rfl ?_
      refine JO.pur rfl rfl rfl (Pur.move rfl) ?_
      refine JO.pur rfl rfl rfl (Pur.loadA rfl rfl rfl CellsIn.blk) ?_
      refine JO.pur rfl rfl rfl (Pur.move rfl) ?_
      refine JO.pur rfl rfl rfl (Pur.loadA rfl rfl rfl CellsIn.blk) ?_
      refine JO.eff rfl rfl rfl (Eff.call rfl (rResize (rs := rs) (ss := ss) (xs := xs) rfl rfl rfl)) ?_
      rintro _ _ ⟨a41, c41, rfl, rfl⟩
      refine JO.pur rfl rfl rfl (Pur.move rfl) ?_
      refine JO.pur rfl rfl rfl (Pur.extract rfl rfl) ?_
      refine JO.pur rfl rfl rfl (Pur.extract rfl rfl) ?_
      refine JO.setv (u' := .int .i64 (rszV lay rs xs ss).2) 43 rfl rfl ?_
      refine JO.pur rfl rfl rfl (Pur.assign rfl) ?_
      refine JO.pur rfl rfl rfl (Pur.assign rfl) ?_
      refine JO.nil ?_
      refine J.seq rfl ?_
      refine J.seq rfl ?_
      refine J.region rfl ?_
      refine JO.pur rfl rfl rfl (Pur.move rfl) ?_
      refine JO.pur rfl rfl rfl (Pur.move rfl) ?_
      refine JO.effR rfl rfl rfl (Eff.call rfl (same2_ok (xs := (rszV lay rs xs ss).1) (ys := (rszV lay rs xs ss).1) rfl rfl (rszV_len _ _ _ _))) ?_
      refine JO.setv (u' := .bool true) 46 rfl (congrArg Value.bool (decide_eq_true rfl)) ?_
      refine JO.pur rfl rfl rfl (Pur.not rfl) ?_
      refine JO.pur rfl rfl rfl (Pur.move rfl) ?_
      refine JO.pur rfl rfl rfl (Pur.move rfl) ?_
      refine JO.pur rfl rfl rfl (Pur.move rfl) ?_
      refine JO.pur rfl rfl rfl (Pur.neqI rfl rfl) ?_
      refine JO.pur rfl rfl rfl (Pur.pickF rfl rfl) ?_
      refine JO.nil ?_
      refine J.setv (u' := .bool false) 52 rfl (congrArg Value.bool (decide_eq_false (fun e => e rfl))) ?_
      refine J.condF rfl rfl ?_
      refine J.skip rfl ?_
      refine J.seq rfl ?_
      refine J.seq rfl ?_
      refine J.region rfl ?_
      refine JO.pur rfl rfl rfl (Pur.loadA rfl rfl rfl CellsIn.blk) ?_
      refine JO.pur rfl rfl rfl (Pur.loadA rfl rfl rfl CellsIn.blk) ?_
      refine JO.effR rfl rfl rfl (Eff.call rfl (r_Within (rs := rs) (ss := ss) rfl rfl)) ?_
      refine JO.pur rfl rfl rfl (Pur.move rfl) ?_
      refine JO.pur rfl rfl rfl (Pur.extract rfl rfl) ?_
      refine JO.setv (u' := .bool (witV rs ss).1) 57 rfl rfl ?_
      refine JO.pur rfl rfl rfl (Pur.extract rfl rfl) ?_
      refine JO.setv (u' := .int .i64 (witV rs ss).2) 58 rfl rfl ?_
      refine JO.pur rfl rfl rfl (Pur.assign rfl) ?_
      refine JO.pur rfl rfl rfl (Pur.assign rfl) ?_
      refine JO.nil ?_
      refine J.seq rfl ?_
      refine J.region rfl ?_
      refine JO.pur rfl rfl rfl (Pur.move rfl) ?_
      refine JO.pur rfl rfl rfl (Pur.neqI rfl rfl) ?_
      refine JO.pur rfl rfl rfl (Pur.move rfl) ?_
      refine JO.splitB 61 rfl (fun h61 => ?_) (fun h61 => ?_)
      · try simp only [decide_eq_true_eq, decide_eq_false_iff_not, Bool.not_eq_true', Bool.not_eq_false', Bool.and_eq_true, Bool.or_eq_true, Bool.and_eq_false_iff, Bool.or_eq_false_iff, Option.isNone_some, Option.isSome_some, Option.isNone_none, Option.isSome_none, Int.not_lt, Int.not_le, beq_iff_eq, beq_eq_false_iff_ne, bne_iff_ne, ne_eq, Bool.not_not, Decidable.not_not] at h61
        refine JO.no rfl rfl rfl ?_
        refine JO.no rfl rfl rfl ?_
        refine JO.pur rfl rfl rfl (Pur.pickT rfl rfl) ?_
        refine JO.pur rfl rfl rfl (Pur.move rfl) ?_
        refine JO.no rfl rfl rfl ?_
        refine JO.no rfl rfl rfl ?_
        refine JO.pur rfl rfl rfl (Pur.pickT rfl rfl) ?_
        refine JO.nil ?_
        refine J.condT rfl rfl ?_
        refine J.seq rfl ?_
        refine J.region rfl ?_
        refine JO.effR rfl rfl rfl (Eff.call rfl (awake_ok)) ?_
        refine JO.pur rfl rfl rfl (Pur.assign rfl) ?_
        refine JO.nil ?_
        refine J.ret rfl rfl ?_
        refine ⟨_, _, ⟨rfl, rfl⟩, rfl, SubC.out⟩
      · try simp only [decide_eq_true_eq, decide_eq_false_iff_not, Bool.not_eq_true', Bool.not_eq_false', Bool.and_eq_true, Bool.or_eq_true, Bool.and_eq_false_iff, Bool.or_eq_false_iff, Option.isNone_some, Option.isSome_some, Option.isNone_none, Option.isSome_none, Int.not_lt, Int.not_le, beq_iff_eq, beq_eq_false_iff_ne, bne_iff_ne, ne_eq, Bool.not_not, Decidable.not_not] at h61
        have hgd : (rszV lay rs xs ss).2 = 0 := by simpa using h61
        refine JO.pur rfl rfl rfl (Pur.move rfl) ?_
        refine JO.pur rfl rfl rfl (Pur.neqI rfl rfl) ?_
        refine JO.pur rfl rfl rfl (Pur.pickF rfl rfl) ?_
        refine JO.pur rfl rfl rfl (Pur.move rfl) ?_
        refine JO.splitB 65 rfl (fun h65 => ?_) (fun h65 => ?_)
        · try simp only [decide_eq_true_eq, decide_eq_false_iff_not, Bool.not_eq_true', Bool.not_eq_false', Bool.and_eq_true, Bool.or_eq_true, Bool.and_eq_false_iff, Bool.or_eq_false_iff, Option.isNone_some, Option.isSome_some, Option.isNone_none, Option.isSome_none, Int.not_lt, Int.not_le, beq_iff_eq, beq_eq_false_iff_ne, bne_iff_ne, ne_eq, Bool.not_not, Decidable.not_not] at h65
          refine JO.no rfl rfl rfl ?_
          refine JO.no rfl rfl rfl ?_
          refine JO.pur rfl rfl rfl (Pur.pickT rfl rfl) ?_
          refine JO.nil ?_
          refine J.condT rfl rfl ?_
          refine J.seq rfl ?_
          refine J.region rfl ?_
          refine JO.effR rfl rfl rfl (Eff.call rfl (awake_ok)) ?_
          refine JO.pur rfl rfl rfl (Pur.assign rfl) ?_
          refine JO.nil ?_
          refine J.ret rfl rfl ?_
          refine ⟨_, _, ⟨rfl, rfl⟩, rfl, SubC.out⟩
        · try simp only [decide_eq_true_eq, decide_eq_false_iff_not, Bool.not_eq_true', Bool.not_eq_false', Bool.and_eq_true, Bool.or_eq_true, Bool.and_eq_false_iff, Bool.or_eq_false_iff, Option.isNone_some, Option.isSome_some, Option.isNone_none, Option.isSome_none, Int.not_lt, Int.not_le, beq_iff_eq, beq_eq_false_iff_ne, bne_iff_ne, ne_eq, Bool.not_not, Decidable.not_not] at h65
          have hg2 : (witV rs ss).2 = 0 := by simpa using h65
          refine JO.pur rfl rfl rfl (Pur.move rfl) ?_
          refine JO.pur rfl rfl rfl (Pur.not rfl) ?_
          refine JO.pur rfl rfl rfl (Pur.pickF rfl rfl) ?_
          refine JO.nil ?_
          refine J.splitB 68 rfl (fun h68 => ?_) (fun h68 => ?_)
          · try simp only [decide_eq_true_eq, decide_eq_false_iff_not, Bool.not_eq_true', Bool.not_eq_false', Bool.and_eq_true, Bool.or_eq_true, Bool.and_eq_false_iff, Bool.or_eq_false_iff, Option.isNone_some, Option.isSome_some, Option.isNone_none, Option.isSome_none, Int.not_lt, Int.not_le, beq_iff_eq, beq_eq_false_iff_ne, bne_iff_ne, ne_eq, Bool.not_not, Decidable.not_not] at h68
            refine J.condT rfl rfl ?_
            refine J.seq rfl ?_
            refine J.region rfl ?_
            refine JO.effR rfl rfl rfl (Eff.call rfl (awake_ok)) ?_
            refine JO.pur rfl rfl rfl (Pur.assign rfl) ?_
            refine JO.nil ?_
            refine J.ret rfl rfl ?_
            refine ⟨_, _, ⟨rfl, rfl⟩, rfl, SubC.out⟩
          · try simp only [decide_eq_true_eq, decide_eq_false_iff_not, Bool.not_eq_true', Bool.not_eq_false', Bool.and_eq_true, Bool.or_eq_true, Bool.and_eq_false_iff, Bool.or_eq_false_iff, Option.isNone_some, Option.isSome_some, Option.isNone_none, Option.isSome_none, Int.not_lt, Int.not_le, beq_iff_eq, beq_eq_false_iff_ne, bne_iff_ne, ne_eq, Bool.not_not, Decidable.not_not] at h68
            have hw1 : (witV rs ss).1 = true := by simpa using h68
            have hw : wiD rs ss := by
              unfold witV at hw1
              by_cases e : twoV rs ss = 0
              · rw [if_neg (not_not_intro e)] at hw1; exact of_decide_eq_true hw1
              · rw [if_pos e] at hw1; cases hw1
            have hbk := rsz_back hgd hw
            have hxl : xs.length ≤ 1000000 := by have := rszV_len lay ss rs (rszV lay rs xs ss).1; rw [hbk] at this; exact this
            refine J.condF rfl rfl ?_
            refine J.skip rfl ?_
            refine J.seq rfl ?_
            refine J.region rfl ?_
            refine JO.pur rfl rfl rfl (Pur.move rfl) ?_
            refine JO.pur rfl rfl rfl (Pur.loadA rfl rfl rfl CellsIn.blk) ?_
            refine JO.pur rfl rfl rfl (Pur.move rfl) ?_
            refine JO.pur rfl rfl rfl (Pur.loadA rfl rfl rfl CellsIn.blk) ?_
            refine JO.eff rfl rfl rfl (Eff.call rfl (lResize (rs := ss) (ss := rs) (xs := (rszV lay rs xs ss).1) rfl rfl rfl)) ?_
            rintro _ _ ⟨a75, c75, rfl, rfl⟩
            rw [hbk]
            refine JO.pur rfl rfl rfl (Pur.move rfl) ?_
            refine JO.pur rfl rfl rfl (Pur.extract rfl rfl) ?_
            refine JO.pur rfl rfl rfl (Pur.extract rfl rfl) ?_
            refine JO.pur rfl rfl rfl (Pur.assign rfl) ?_
            refine JO.pur rfl rfl rfl (Pur.assign rfl) ?_
            refine JO.nil ?_
            refine J.seq rfl ?_
            refine J.region rfl ?_
            refine JO.pur rfl rfl rfl (Pur.move rfl) ?_
            refine JO.pur rfl rfl rfl (Pur.move rfl) ?_
            refine JO.effR rfl rfl rfl (Eff.call rfl (same2_ok (xs := xs) (ys := xs) rfl rfl (hxl))) ?_
            refine JO.setv (u' := .bool true) 80 rfl (congrArg Value.bool (decide_eq_true rfl)) ?_
            refine JO.pur rfl rfl rfl (Pur.move rfl) ?_
            refine JO.pur rfl rfl rfl (Pur.move rfl) ?_
            refine JO.pur rfl rfl rfl (Pur.eqlI rfl rfl) ?_
            refine JO.pur rfl rfl rfl (Pur.pickT rfl rfl) ?_
            refine JO.pur rfl rfl rfl (Pur.move rfl) ?_
            refine JO.setv (u' := .bool true) 85 rfl (congrArg Value.bool (decide_eq_true rfl)) ?_
            refine JO.effR rfl rfl rfl (Eff.call rfl (awake_ok)) ?_
            refine JO.pur rfl rfl rfl (Pur.pickT rfl rfl) ?_
            refine JO.pur rfl rfl rfl (Pur.assign rfl) ?_
            refine JO.nil ?_
            refine J.ret rfl rfl ?_
            refine ⟨_, _, ⟨rfl, rfl⟩, rfl, SubC.out⟩

theorem lawOffsets {L : List Asn} {lay lay2 : ByteArray} {a c1 c2 c3 : Option Addr} {n cap n1 k1 n2 k2 n3 k3 : Nat} {rs : List Rg} {x xs ys : List Int} {z : Int} [SlIn rgE L a rs] [SlIn intE L c1 x] [SlIn intE L c2 xs] [SlIn intE L c3 ys] (hn : n = rs.length) (h1 : n1 = x.length) (h2 : n2 = xs.length) (h3 : n3 = ys.length) (hb1 : x.length ≤ 17592186044416) (hl1 : c1 = none → x.length = 0 ∧ k1 = 0) (hl2 : c2 = none → xs.length = 0 ∧ k2 = 0) :
    CallS Try.prog 17 [.agg #[.string lay, .string lay2, .slice c1 n1 k1, .slice c2 n2 k2, .slice c3 n3 k3, .int .i64 z], .agg #[.slice a n cap]].toArray L (fun v M => v = .bool true ∧ M = L) := by
  subst hn
  subst h1
  subst h2
  subst h3
  refine CallS.ent ?_
  refine CallS.enter Try.func17 rfl rfl rfl rfl rfl ?_
  refine J.seq rfl ?_
  refine J.region rfl ?_
  refine JO.eff rfl rfl rfl (Eff.box (cs := [_, _, _, _, _, _]) rfl rfl) ?_
  rintro _ _ ⟨b2, rfl, rfl⟩
  refine JO.eff rfl rfl rfl (Eff.box (cs := [_]) rfl rfl) ?_
  rintro _ _ ⟨b3, rfl, rfl⟩
  refine JO.pur rfl rfl rfl (Pur.assign rfl) ?_
  refine JO.nil ?_
  refine J.seq rfl ?_
  refine J.quiet rfl Try.mixed (by kernel_rfl) ?_
  refine JQ.pur rfl rfl rfl (Pur.fieldAddr rfl) ?_
  refine JQ.pur rfl rfl rfl (Pur.load rfl (CellIn.blk rfl)) ?_
  refine JQ.pur rfl rfl rfl (Pur.fieldAddr rfl) ?_
  refine JQ.pur rfl rfl rfl (Pur.load rfl (CellIn.blk rfl)) ?_
  refine JQ.pur rfl rfl rfl (Pur.fieldAddr rfl) ?_
  refine JQ.pur rfl rfl rfl (Pur.load rfl (CellIn.blk rfl)) ?_
  refine JQ.pur rfl rfl rfl (Pur.assign rfl) ?_
  refine JQ.pur rfl rfl rfl (Pur.assign rfl) ?_
  refine JQ.pur rfl rfl rfl (Pur.assign rfl) ?_
  refine JQ.nil ?_
  refine J.seq rfl ?_
  refine J.seq rfl ?_
  refine J.region rfl ?_
  refine JO.pur rfl rfl rfl (Pur.loadA rfl rfl rfl CellsIn.blk) ?_
  refine JO.effR rfl rfl rfl (Eff.call rfl (large_ok (rs := rs) rfl)) ?_
  refine JO.nil ?_
  refine J.splitB 25 rfl (fun h25 => ?_) (fun h25 => ?_)
  · try simp only [decide_eq_true_eq, decide_eq_false_iff_not, Bool.not_eq_true', Bool.not_eq_false', Bool.and_eq_true, Bool.or_eq_true, Bool.and_eq_false_iff, Bool.or_eq_false_iff, Option.isNone_some, Option.isSome_some, Option.isNone_none, Option.isSome_none, Int.not_lt, Int.not_le, beq_iff_eq, beq_eq_false_iff_ne, bne_iff_ne, ne_eq, Bool.not_not, Decidable.not_not] at h25
    refine J.condT rfl rfl ?_
    refine J.seq rfl ?_
    refine J.region rfl ?_
    refine JO.effR rfl rfl rfl (Eff.call rfl (awake_ok)) ?_
    refine JO.pur rfl rfl rfl (Pur.assign rfl) ?_
    refine JO.nil ?_
    refine J.ret rfl rfl ?_
    refine ⟨_, _, ⟨rfl, rfl⟩, rfl, SubC.out⟩
  · try simp only [decide_eq_true_eq, decide_eq_false_iff_not, Bool.not_eq_true', Bool.not_eq_false', Bool.and_eq_true, Bool.or_eq_true, Bool.and_eq_false_iff, Bool.or_eq_false_iff, Option.isNone_some, Option.isSome_some, Option.isNone_none, Option.isSome_none, Int.not_lt, Int.not_le, beq_iff_eq, beq_eq_false_iff_ne, bne_iff_ne, ne_eq, Bool.not_not, Decidable.not_not] at h25
    refine J.condF rfl rfl ?_
    refine J.skip rfl ?_
    refine J.seq rfl ?_
    refine J.region rfl ?_
    refine JO.pur rfl rfl rfl (Pur.move rfl) ?_
    refine JO.pur rfl rfl rfl (Pur.loadA rfl rfl rfl CellsIn.blk) ?_
    refine JO.pur rfl rfl rfl (Pur.move rfl) ?_
    refine JO.effR rfl rfl rfl (Eff.call rfl (lOffset (rs := rs) (x := x) rfl rfl hb1 hl1)) ?_
    refine JO.pur rfl rfl rfl (Pur.move rfl) ?_
    refine JO.pur rfl rfl rfl (Pur.extract rfl rfl) ?_
    refine JO.pur rfl rfl rfl (Pur.extract rfl rfl) ?_
    refine JO.pur rfl rfl rfl (Pur.assign rfl) ?_
    refine JO.pur rfl rfl rfl (Pur.assign rfl) ?_
    refine JO.nil ?_
    refine J.seq rfl ?_
    refine J.region rfl ?_
    refine JO.pur rfl rfl rfl (Pur.move rfl) ?_
    refine JO.pur rfl rfl rfl (Pur.loadA rfl rfl rfl CellsIn.blk) ?_
    refine JO.pur rfl rfl rfl (Pur.move rfl) ?_
    refine JO.effR rfl rfl rfl (Eff.call rfl (rOffset (rs := rs) (x := x) rfl rfl)) ?_
    refine JO.pur rfl rfl rfl (Pur.move rfl) ?_
    refine JO.pur rfl rfl rfl (Pur.extract rfl rfl) ?_
    refine JO.pur rfl rfl rfl (Pur.extract rfl rfl) ?_
    refine JO.pur rfl rfl rfl (Pur.assign rfl) ?_
    refine JO.pur rfl rfl rfl (Pur.assign rfl) ?_
    refine JO.nil ?_
    refine J.seq rfl ?_
    refine J.region rfl ?_
    refine JO.pur rfl rfl rfl (Pur.move rfl) ?_
    refine JO.pur rfl rfl rfl (Pur.loadA rfl rfl rfl CellsIn.blk) ?_
    refine JO.pur rfl rfl rfl (Pur.move rfl) ?_
    refine JO.eff rfl rfl rfl (Eff.call rfl (lIndex (rs := rs) (i := z) rfl)) ?_
    rintro _ _ ⟨a45, c45, rfl, rfl⟩
    refine JO.pur rfl rfl rfl (Pur.move rfl) ?_
    refine JO.pur rfl rfl rfl (Pur.extract rfl rfl) ?_
    refine JO.pur rfl rfl rfl (Pur.extract rfl rfl) ?_
    refine JO.setv (u' := .int .i64 (ixV lay rs z).2) 47 rfl rfl ?_
    refine JO.pur rfl rfl rfl (Pur.assign rfl) ?_
    refine JO.pur rfl rfl rfl (Pur.assign rfl) ?_
    refine JO.nil ?_
    refine J.seq rfl ?_
    refine J.region rfl ?_
    refine JO.pur rfl rfl rfl (Pur.move rfl) ?_
    refine JO.pur rfl rfl rfl (Pur.loadA rfl rfl rfl CellsIn.blk) ?_
    refine JO.pur rfl rfl rfl (Pur.move rfl) ?_
    refine JO.eff rfl rfl rfl (Eff.call rfl (rIndex (rs := rs) (i := z) rfl)) ?_
    rintro _ _ ⟨a52, c52, rfl, rfl⟩
    refine JO.pur rfl rfl rfl (Pur.move rfl) ?_
    refine JO.pur rfl rfl rfl (Pur.extract rfl rfl) ?_
    refine JO.pur rfl rfl rfl (Pur.extract rfl rfl) ?_
    refine JO.pur rfl rfl rfl (Pur.assign rfl) ?_
    refine JO.pur rfl rfl rfl (Pur.assign rfl) ?_
    refine JO.nil ?_
    refine J.seq rfl ?_
    refine J.seq rfl ?_
    refine J.region rfl ?_
    refine JO.pur rfl rfl rfl (Pur.move rfl) ?_
    refine JO.pur rfl rfl rfl (Pur.move rfl) ?_
    refine JO.pur rfl rfl rfl (Pur.neqI rfl rfl) ?_
    refine JO.pur rfl rfl rfl (Pur.move rfl) ?_
    refine JO.setv (u' := .bool false) 58 rfl (congrArg Value.bool (decide_eq_false (fun e => e rfl))) ?_
    refine JO.pur rfl rfl rfl (Pur.move rfl) ?_
    refine JO.pur rfl rfl rfl (Pur.move rfl) ?_
    refine JO.pur rfl rfl rfl (Pur.neqI rfl rfl) ?_
    refine JO.pur rfl rfl rfl (Pur.pickF rfl rfl) ?_
    refine JO.pur rfl rfl rfl (Pur.move rfl) ?_
    refine JO.setv (u' := .bool false) 63 rfl (congrArg Value.bool (decide_eq_false (fun e => e rfl))) ?_
    refine JO.pur rfl rfl rfl (Pur.move rfl) ?_
    refine JO.pur rfl rfl rfl (Pur.move rfl) ?_
    refine JO.effR rfl rfl rfl (Eff.call rfl (same2_ok (xs := (ixV lay rs z).1) (ys := (ixV lay rs z).1) rfl rfl (ixV_len _ _ _))) ?_
    refine JO.setv (u' := .bool true) 66 rfl (congrArg Value.bool (decide_eq_true rfl)) ?_
    refine JO.pur rfl rfl rfl (Pur.not rfl) ?_
    refine JO.pur rfl rfl rfl (Pur.pickF rfl rfl) ?_
    refine JO.pur rfl rfl rfl (Pur.move rfl) ?_
    refine JO.pur rfl rfl rfl (Pur.move rfl) ?_
    refine JO.pur rfl rfl rfl (Pur.move rfl) ?_
    refine JO.pur rfl rfl rfl (Pur.neqI rfl rfl) ?_
    refine JO.pur rfl rfl rfl (Pur.pickF rfl rfl) ?_
    refine JO.pur rfl rfl rfl (Pur.move rfl) ?_
    refine JO.setv (u' := .bool false) 74 rfl (congrArg Value.bool (decide_eq_false (fun e => e rfl))) ?_
    refine JO.pur rfl rfl rfl (Pur.move rfl) ?_
    refine JO.effR rfl rfl rfl (Eff.call rfl (lValid)) ?_
    refine JO.pur rfl rfl rfl (Pur.move rfl) ?_
    refine JO.effR rfl rfl rfl (Eff.call rfl (rValid)) ?_
    refine JO.pur rfl rfl rfl (Pur.neqB rfl rfl) ?_
    refine JO.pur rfl rfl rfl (Pur.pickF rfl rfl) ?_
    refine JO.nil ?_
    refine J.setv (u' := .bool false) 80 rfl (congrArg Value.bool ((by simp))) ?_
    refine J.condF rfl rfl ?_
    refine J.skip rfl ?_
    refine J.seq rfl ?_
    refine J.seq rfl ?_
    refine J.region rfl ?_
    refine JO.pur rfl rfl rfl (Pur.move rfl) ?_
    refine JO.pur rfl rfl rfl (Pur.eqlI rfl rfl) ?_
    refine JO.nil ?_
    refine J.splitB 82 rfl (fun h82 => ?_) (fun h82 => ?_)
    · try simp only [decide_eq_true_eq, decide_eq_false_iff_not, Bool.not_eq_true', Bool.not_eq_false', Bool.and_eq_true, Bool.or_eq_true, Bool.and_eq_false_iff, Bool.or_eq_false_iff, Option.isNone_some, Option.isSome_some, Option.isNone_none, Option.isSome_none, Int.not_lt, Int.not_le, beq_iff_eq, beq_eq_false_iff_ne, bne_iff_ne, ne_eq, Bool.not_not, Decidable.not_not] at h82
      have hgd : (ixV lay rs z).2 = 0 := by simpa using h82
      have hof := ofV_ixV hgd
      have hil := ixV_len lay rs z
      refine J.condT rfl rfl ?_
      refine J.seq rfl ?_
      refine J.fact (fun h s => SlH.nil (a := a45) (cap := c45) (E := intE) (xs := (ixV lay rs z).1) s) fun hnl => ?_
      have hnl2 : a45 = none → (ixV lay rs z).1.length = 0 ∧ c45 = 0 := fun e => by obtain ⟨e1, e2⟩ := hnl e; exact ⟨by rw [e1]; rfl, e2⟩
      refine J.region rfl ?_
      refine JO.pur rfl rfl rfl (Pur.move rfl) ?_
      refine JO.pur rfl rfl rfl (Pur.loadA rfl rfl rfl CellsIn.blk) ?_
      refine JO.pur rfl rfl rfl (Pur.move rfl) ?_
      refine JO.effR rfl rfl rfl (Eff.call rfl (lOffset (rs := rs) (x := (ixV lay rs z).1) rfl rfl (by omega) hnl2)) ?_
      rw [hof]
      refine JO.pur rfl rfl rfl (Pur.move rfl) ?_
      refine JO.pur rfl rfl rfl (Pur.extract rfl rfl) ?_
      refine JO.pur rfl rfl rfl (Pur.extract rfl rfl) ?_
      refine JO.pur rfl rfl rfl (Pur.assign rfl) ?_
      refine JO.pur rfl rfl rfl (Pur.assign rfl) ?_
      refine JO.nil ?_
      refine J.seq rfl ?_
      refine J.region rfl ?_
      refine JO.pur rfl rfl rfl (Pur.move rfl) ?_
      refine JO.pur rfl rfl rfl (Pur.move rfl) ?_
      refine JO.pur rfl rfl rfl (Pur.neqI rfl rfl) ?_
      refine JO.pur rfl rfl rfl (Pur.move rfl) ?_
      refine JO.setv (u' := .bool false) 93 rfl (congrArg Value.bool (decide_eq_false (fun e => e rfl))) ?_
      refine JO.pur rfl rfl rfl (Pur.move rfl) ?_
      refine JO.pur rfl rfl rfl (Pur.neqI rfl rfl) ?_
      refine JO.pur rfl rfl rfl (Pur.pickF rfl rfl) ?_
      refine JO.nil ?_
      refine J.setv (u' := .bool false) 96 rfl (congrArg Value.bool (decide_eq_false (fun e => e rfl))) ?_
      refine J.condF rfl rfl ?_
      refine J.skip rfl ?_
      refine J.seq rfl ?_
      refine J.region rfl ?_
      refine JO.effR rfl rfl rfl (Eff.call rfl (awake_ok)) ?_
      refine JO.pur rfl rfl rfl (Pur.assign rfl) ?_
      refine JO.nil ?_
      refine J.ret rfl rfl ?_
      refine ⟨_, _, ⟨rfl, rfl⟩, rfl, SubC.out⟩
    · try simp only [decide_eq_true_eq, decide_eq_false_iff_not, Bool.not_eq_true', Bool.not_eq_false', Bool.and_eq_true, Bool.or_eq_true, Bool.and_eq_false_iff, Bool.or_eq_false_iff, Option.isNone_some, Option.isSome_some, Option.isNone_none, Option.isSome_none, Int.not_lt, Int.not_le, beq_iff_eq, beq_eq_false_iff_ne, bne_iff_ne, ne_eq, Bool.not_not, Decidable.not_not] at h82
      refine J.condF rfl rfl ?_
      refine J.skip rfl ?_
      refine J.seq rfl ?_
      refine J.region rfl ?_
      refine JO.effR rfl rfl rfl (Eff.call rfl (awake_ok)) ?_
      refine JO.pur rfl rfl rfl (Pur.assign rfl) ?_
      refine JO.nil ?_
      refine J.ret rfl rfl ?_
      refine ⟨_, _, ⟨rfl, rfl⟩, rfl, SubC.out⟩

theorem lawWrites {L : List Asn} {lay lay2 : ByteArray} {a c1 c2 c3 : Option Addr} {n cap n1 k1 n2 k2 n3 k3 : Nat} {rs : List Rg} {x xs ys : List Int} {z : Int} [SlIn rgE L a rs] [SlIn intE L c1 x] [SlIn intE L c2 xs] [SlIn intE L c3 ys] (hn : n = rs.length) (h1 : n1 = x.length) (h2 : n2 = xs.length) (h3 : n3 = ys.length) (hb1 : x.length ≤ 17592186044416) (hl1 : c1 = none → x.length = 0 ∧ k1 = 0) (hl2 : c2 = none → xs.length = 0 ∧ k2 = 0) :
    CallS Try.prog 19 [.agg #[.string lay, .string lay2, .slice c1 n1 k1, .slice c2 n2 k2, .slice c3 n3 k3, .int .i64 z], .agg #[.slice a n cap]].toArray L (fun v M => v = .bool true ∧ M = L) := by
  subst hn
  subst h1
  subst h2
  subst h3
  refine CallS.ent ?_
  refine CallS.enter Try.func19 rfl rfl rfl rfl rfl ?_
  refine J.seq rfl ?_
  refine J.region rfl ?_
  refine JO.eff rfl rfl rfl (Eff.box (cs := [_, _, _, _, _, _]) rfl rfl) ?_
  rintro _ _ ⟨b2, rfl, rfl⟩
  refine JO.eff rfl rfl rfl (Eff.box (cs := [_]) rfl rfl) ?_
  rintro _ _ ⟨b3, rfl, rfl⟩
  refine JO.pur rfl rfl rfl (Pur.assign rfl) ?_
  refine JO.nil ?_
  refine J.seq rfl ?_
  refine J.quiet rfl Try.mixed (by kernel_rfl) ?_
  refine JQ.pur rfl rfl rfl (Pur.fieldAddr rfl) ?_
  refine JQ.pur rfl rfl rfl (Pur.load rfl (CellIn.blk rfl)) ?_
  refine JQ.pur rfl rfl rfl (Pur.fieldAddr rfl) ?_
  refine JQ.pur rfl rfl rfl (Pur.load rfl (CellIn.blk rfl)) ?_
  refine JQ.pur rfl rfl rfl (Pur.fieldAddr rfl) ?_
  refine JQ.pur rfl rfl rfl (Pur.load rfl (CellIn.blk rfl)) ?_
  refine JQ.pur rfl rfl rfl (Pur.fieldAddr rfl) ?_
  refine JQ.pur rfl rfl rfl (Pur.load rfl (CellIn.blk rfl)) ?_
  refine JQ.pur rfl rfl rfl (Pur.assign rfl) ?_
  refine JQ.pur rfl rfl rfl (Pur.assign rfl) ?_
  refine JQ.pur rfl rfl rfl (Pur.assign rfl) ?_
  refine JQ.pur rfl rfl rfl (Pur.assign rfl) ?_
  refine JQ.nil ?_
  refine J.seq rfl ?_
  refine J.seq rfl ?_
  refine J.region rfl ?_
  refine JO.pur rfl rfl rfl (Pur.loadA rfl rfl rfl CellsIn.blk) ?_
  refine JO.effR rfl rfl rfl (Eff.call rfl (large_ok (rs := rs) rfl)) ?_
  refine JO.nil ?_
  refine J.splitB 26 rfl (fun h26 => ?_) (fun h26 => ?_)
  · try simp only [decide_eq_true_eq, decide_eq_false_iff_not, Bool.not_eq_true', Bool.not_eq_false', Bool.and_eq_true, Bool.or_eq_true, Bool.and_eq_false_iff, Bool.or_eq_false_iff, Option.isNone_some, Option.isSome_some, Option.isNone_none, Option.isSome_none, Int.not_lt, Int.not_le, beq_iff_eq, beq_eq_false_iff_ne, bne_iff_ne, ne_eq, Bool.not_not, Decidable.not_not] at h26
    refine J.condT rfl rfl ?_
    refine J.seq rfl ?_
    refine J.region rfl ?_
    refine JO.effR rfl rfl rfl (Eff.call rfl (awake_ok)) ?_
    refine JO.pur rfl rfl rfl (Pur.assign rfl) ?_
    refine JO.nil ?_
    refine J.ret rfl rfl ?_
    refine ⟨_, _, ⟨rfl, rfl⟩, rfl, SubC.out⟩
  · try simp only [decide_eq_true_eq, decide_eq_false_iff_not, Bool.not_eq_true', Bool.not_eq_false', Bool.and_eq_true, Bool.or_eq_true, Bool.and_eq_false_iff, Bool.or_eq_false_iff, Option.isNone_some, Option.isSome_some, Option.isNone_none, Option.isSome_none, Int.not_lt, Int.not_le, beq_iff_eq, beq_eq_false_iff_ne, bne_iff_ne, ne_eq, Bool.not_not, Decidable.not_not] at h26
    refine J.condF rfl rfl ?_
    refine J.skip rfl ?_
    refine J.seq rfl ?_
    refine J.region rfl ?_
    refine JO.pur rfl rfl rfl (Pur.move rfl) ?_
    refine JO.pur rfl rfl rfl (Pur.loadA rfl rfl rfl CellsIn.blk) ?_
    refine JO.pur rfl rfl rfl (Pur.move rfl) ?_
    refine JO.pur rfl rfl rfl (Pur.move rfl) ?_
    refine JO.effR rfl rfl rfl (Eff.call rfl (lGet (rs := rs) (x := x) (xs := xs) rfl rfl rfl hb1 hl1)) ?_
    refine JO.pur rfl rfl rfl (Pur.move rfl) ?_
    refine JO.pur rfl rfl rfl (Pur.extract rfl rfl) ?_
    refine JO.pur rfl rfl rfl (Pur.extract rfl rfl) ?_
    refine JO.pur rfl rfl rfl (Pur.assign rfl) ?_
    refine JO.pur rfl rfl rfl (Pur.assign rfl) ?_
    refine JO.nil ?_
    refine J.seq rfl ?_
    refine J.region rfl ?_
    refine JO.pur rfl rfl rfl (Pur.move rfl) ?_
    refine JO.pur rfl rfl rfl (Pur.loadA rfl rfl rfl CellsIn.blk) ?_
    refine JO.pur rfl rfl rfl (Pur.move rfl) ?_
    refine JO.pur rfl rfl rfl (Pur.move rfl) ?_
    refine JO.effR rfl rfl rfl (Eff.call rfl (rGet (rs := rs) (x := x) (xs := xs) rfl rfl rfl)) ?_
    refine JO.pur rfl rfl rfl (Pur.move rfl) ?_
    refine JO.pur rfl rfl rfl (Pur.extract rfl rfl) ?_
    refine JO.pur rfl rfl rfl (Pur.extract rfl rfl) ?_
    refine JO.pur rfl rfl rfl (Pur.assign rfl) ?_
    refine JO.pur rfl rfl rfl (Pur.assign rfl) ?_
    refine JO.nil ?_
    refine J.seq rfl ?_
    refine J.region rfl ?_
    refine JO.pur rfl rfl rfl (Pur.move rfl) ?_
    refine JO.pur rfl rfl rfl (Pur.loadA rfl rfl rfl CellsIn.blk) ?_
    refine JO.pur rfl rfl rfl (Pur.move rfl) ?_
    refine JO.pur rfl rfl rfl (Pur.move rfl) ?_
    refine JO.pur rfl rfl rfl (Pur.move rfl) ?_
    refine JO.eff rfl rfl rfl (Eff.call rfl (lPut (rs := rs) (x := x) (xs := xs) (z := z) rfl rfl rfl hb1 hl1 hl2)) ?_
    rintro _ _ ⟨a50, c50, rfl, rfl⟩
    refine JO.pur rfl rfl rfl (Pur.move rfl) ?_
    refine JO.pur rfl rfl rfl (Pur.extract rfl rfl) ?_
    refine JO.pur rfl rfl rfl (Pur.extract rfl rfl) ?_
    refine JO.pur rfl rfl rfl (Pur.assign rfl) ?_
    refine JO.pur rfl rfl rfl (Pur.assign rfl) ?_
    refine JO.nil ?_
    refine J.seq rfl ?_
    refine J.region rfl ?_
    refine JO.pur rfl rfl rfl (Pur.move rfl) ?_
    refine JO.pur rfl rfl rfl (Pur.loadA rfl rfl rfl CellsIn.blk) ?_
    refine JO.pur rfl rfl rfl (Pur.move rfl) ?_
    refine JO.pur rfl rfl rfl (Pur.move rfl) ?_
    refine JO.pur rfl rfl rfl (Pur.move rfl) ?_
    refine JO.eff rfl rfl rfl (Eff.call rfl (rPut (rs := rs) (x := x) (xs := xs) (z := z) rfl rfl rfl hl2)) ?_
    rintro _ _ ⟨a59, c59, rfl, rfl⟩
    refine JO.pur rfl rfl rfl (Pur.move rfl) ?_
    refine JO.pur rfl rfl rfl (Pur.extract rfl rfl) ?_
    refine JO.pur rfl rfl rfl (Pur.extract rfl rfl) ?_
    refine JO.pur rfl rfl rfl (Pur.assign rfl) ?_
    refine JO.pur rfl rfl rfl (Pur.assign rfl) ?_
    refine JO.nil ?_
    refine J.seq rfl ?_
    refine J.region rfl ?_
    refine JO.pur rfl rfl rfl (Pur.move rfl) ?_
    refine JO.pur rfl rfl rfl (Pur.move rfl) ?_
    refine JO.pur rfl rfl rfl (Pur.eqlI rfl rfl) ?_
    refine JO.pur rfl rfl rfl (Pur.move rfl) ?_
    refine JO.setv (u' := .bool true) 65 rfl (congrArg Value.bool (decide_eq_true rfl)) ?_
    refine JO.pur rfl rfl rfl (Pur.move rfl) ?_
    refine JO.pur rfl rfl rfl (Pur.move rfl) ?_
    refine JO.pur rfl rfl rfl (Pur.eqlI rfl rfl) ?_
    refine JO.pur rfl rfl rfl (Pur.pickT rfl rfl) ?_
    refine JO.pur rfl rfl rfl (Pur.move rfl) ?_
    refine JO.setv (u' := .bool true) 70 rfl (congrArg Value.bool (decide_eq_true rfl)) ?_
    refine JO.pur rfl rfl rfl (Pur.move rfl) ?_
    refine JO.pur rfl rfl rfl (Pur.move rfl) ?_
    refine JO.effR rfl rfl rfl (Eff.call rfl (same2_ok (xs := (putV lay rs xs x z).1) (ys := (putV lay rs xs x z).1) rfl rfl (putV_len _ _ _ _ _))) ?_
    refine JO.setv (u' := .bool true) 73 rfl (congrArg Value.bool (decide_eq_true rfl)) ?_
    refine JO.pur rfl rfl rfl (Pur.pickT rfl rfl) ?_
    refine JO.pur rfl rfl rfl (Pur.move rfl) ?_
    refine JO.pur rfl rfl rfl (Pur.move rfl) ?_
    refine JO.pur rfl rfl rfl (Pur.move rfl) ?_
    refine JO.pur rfl rfl rfl (Pur.eqlI rfl rfl) ?_
    refine JO.pur rfl rfl rfl (Pur.pickT rfl rfl) ?_
    refine JO.pur rfl rfl rfl (Pur.move rfl) ?_
    refine JO.setv (u' := .bool true) 80 rfl (congrArg Value.bool (decide_eq_true rfl)) ?_
    refine JO.effR rfl rfl rfl (Eff.call rfl (awake_ok)) ?_
    refine JO.pur rfl rfl rfl (Pur.pickT rfl rfl) ?_
    refine JO.pur rfl rfl rfl (Pur.assign rfl) ?_
    refine JO.nil ?_
    refine J.ret rfl rfl ?_
    refine ⟨_, _, ⟨rfl, rfl⟩, rfl, SubC.out⟩

theorem lawCuts {L : List Asn} {lay lay2 : ByteArray} {a b c1 c2 c3 : Option Addr} {n cap m cq n1 k1 n2 k2 n3 k3 : Nat} {rs ss : List Rg} {x xs ys : List Int} {z : Int} [SlIn rgE L a rs] [SlIn rgE L b ss] [SlIn intE L c1 x] [SlIn intE L c2 xs] [SlIn intE L c3 ys] (hn : n = rs.length) (hm : m = ss.length) (h1 : n1 = x.length) (h2 : n2 = xs.length) (h3 : n3 = ys.length) (hb1 : x.length ≤ 17592186044416) (hl1 : c1 = none → x.length = 0 ∧ k1 = 0) (hl2 : c2 = none → xs.length = 0 ∧ k2 = 0) :
    CallS Try.prog 18 [.agg #[.string lay, .string lay2, .slice c1 n1 k1, .slice c2 n2 k2, .slice c3 n3 k3, .int .i64 z], .agg #[.slice a n cap], .agg #[.slice b m cq]].toArray L (fun v M => v = .bool true ∧ M = L) := by
  subst hn
  subst hm
  subst h1
  subst h2
  subst h3
  refine CallS.ent ?_
  refine CallS.enter Try.func18 rfl rfl rfl rfl rfl ?_
  refine J.seq rfl ?_
  refine J.region rfl ?_
  refine JO.eff rfl rfl rfl (Eff.box (cs := [_, _, _, _, _, _]) rfl rfl) ?_
  rintro _ _ ⟨b3, rfl, rfl⟩
  refine JO.eff rfl rfl rfl (Eff.box (cs := [_]) rfl rfl) ?_
  rintro _ _ ⟨b4, rfl, rfl⟩
  refine JO.eff rfl rfl rfl (Eff.box (cs := [_]) rfl rfl) ?_
  rintro _ _ ⟨b5, rfl, rfl⟩
  refine JO.pur rfl rfl rfl (Pur.assign rfl) ?_
  refine JO.nil ?_
  refine J.seq rfl ?_
  refine J.quiet rfl Try.mixed (by kernel_rfl) ?_
  refine JQ.pur rfl rfl rfl (Pur.fieldAddr rfl) ?_
  refine JQ.pur rfl rfl rfl (Pur.load rfl (CellIn.blk rfl)) ?_
  refine JQ.pur rfl rfl rfl (Pur.fieldAddr rfl) ?_
  refine JQ.pur rfl rfl rfl (Pur.load rfl (CellIn.blk rfl)) ?_
  refine JQ.pur rfl rfl rfl (Pur.fieldAddr rfl) ?_
  refine JQ.pur rfl rfl rfl (Pur.load rfl (CellIn.blk rfl)) ?_
  refine JQ.pur rfl rfl rfl (Pur.assign rfl) ?_
  refine JQ.pur rfl rfl rfl (Pur.assign rfl) ?_
  refine JQ.pur rfl rfl rfl (Pur.assign rfl) ?_
  refine JQ.nil ?_
  refine J.seq rfl ?_
  refine J.seq rfl ?_
  refine J.region rfl ?_
  refine JO.pur rfl rfl rfl (Pur.loadA rfl rfl rfl CellsIn.blk) ?_
  refine JO.effR rfl rfl rfl (Eff.call rfl (large_ok (rs := rs) rfl)) ?_
  refine JO.pur rfl rfl rfl (Pur.move rfl) ?_
  refine JO.splitB 30 rfl (fun h30 => ?_) (fun h30 => ?_)
  · try simp only [decide_eq_true_eq, decide_eq_false_iff_not, Bool.not_eq_true', Bool.not_eq_false', Bool.and_eq_true, Bool.or_eq_true, Bool.and_eq_false_iff, Bool.or_eq_false_iff, Option.isNone_some, Option.isSome_some, Option.isNone_none, Option.isSome_none, Int.not_lt, Int.not_le, beq_iff_eq, beq_eq_false_iff_ne, bne_iff_ne, ne_eq, Bool.not_not, Decidable.not_not] at h30
    refine JO.no rfl rfl rfl ?_
    refine JO.no rfl rfl rfl ?_
    refine JO.pur rfl rfl rfl (Pur.pickT rfl rfl) ?_
    refine JO.nil ?_
    refine J.condT rfl rfl ?_
    refine J.seq rfl ?_
    refine J.region rfl ?_
    refine JO.effR rfl rfl rfl (Eff.call rfl (awake_ok)) ?_
    refine JO.pur rfl rfl rfl (Pur.assign rfl) ?_
    refine JO.nil ?_
    refine J.ret rfl rfl ?_
    refine ⟨_, _, ⟨rfl, rfl⟩, rfl, SubC.out⟩
  · try simp only [decide_eq_true_eq, decide_eq_false_iff_not, Bool.not_eq_true', Bool.not_eq_false', Bool.and_eq_true, Bool.or_eq_true, Bool.and_eq_false_iff, Bool.or_eq_false_iff, Option.isNone_some, Option.isSome_some, Option.isNone_none, Option.isSome_none, Int.not_lt, Int.not_le, beq_iff_eq, beq_eq_false_iff_ne, bne_iff_ne, ne_eq, Bool.not_not, Decidable.not_not] at h30
    refine JO.pur rfl rfl rfl (Pur.loadA rfl rfl rfl CellsIn.blk) ?_
    refine JO.effR rfl rfl rfl (Eff.call rfl (large_ok (rs := ss) rfl)) ?_
    refine JO.pur rfl rfl rfl (Pur.pickF rfl rfl) ?_
    refine JO.nil ?_
    refine J.splitB 33 rfl (fun h33 => ?_) (fun h33 => ?_)
    · try simp only [decide_eq_true_eq, decide_eq_false_iff_not, Bool.not_eq_true', Bool.not_eq_false', Bool.and_eq_true, Bool.or_eq_true, Bool.and_eq_false_iff, Bool.or_eq_false_iff, Option.isNone_some, Option.isSome_some, Option.isNone_none, Option.isSome_none, Int.not_lt, Int.not_le, beq_iff_eq, beq_eq_false_iff_ne, bne_iff_ne, ne_eq, Bool.not_not, Decidable.not_not] at h33
      refine J.condT rfl rfl ?_
      refine J.seq rfl ?_
      refine J.region rfl ?_
      refine JO.effR rfl rfl rfl (Eff.call rfl (awake_ok)) ?_
      refine JO.pur rfl rfl rfl (Pur.assign rfl) ?_
      refine JO.nil ?_
      refine J.ret rfl rfl ?_
      refine ⟨_, _, ⟨rfl, rfl⟩, rfl, SubC.out⟩
    · try simp only [decide_eq_true_eq, decide_eq_false_iff_not, Bool.not_eq_true', Bool.not_eq_false', Bool.and_eq_true, Bool.or_eq_true, Bool.and_eq_false_iff, Bool.or_eq_false_iff, Option.isNone_some, Option.isSome_some, Option.isNone_none, Option.isSome_none, Int.not_lt, Int.not_le, beq_iff_eq, beq_eq_false_iff_ne, bne_iff_ne, ne_eq, Bool.not_not, Decidable.not_not] at h33
      refine J.condF rfl rfl ?_
      refine J.skip rfl ?_
      refine J.seq rfl ?_
      refine J.region rfl ?_
      refine JO.pur rfl rfl rfl (Pur.move rfl) ?_
      refine JO.pur rfl rfl rfl (Pur.loadA rfl rfl rfl CellsIn.blk) ?_
      refine JO.pur rfl rfl rfl (Pur.move rfl) ?_
      refine JO.pur rfl rfl rfl (Pur.loadA rfl rfl rfl CellsIn.blk) ?_
      refine JO.eff rfl rfl rfl (Eff.call rfl (lCut (rs := rs) (ss := ss) (xs := xs) rfl rfl rfl)) ?_
      rintro _ _ ⟨a40, c40, rfl, rfl⟩
      refine JO.pur rfl rfl rfl (Pur.move rfl) ?_
      refine JO.pur rfl rfl rfl (Pur.extract rfl rfl) ?_
      refine JO.pur rfl rfl rfl (Pur.extract rfl rfl) ?_
      refine JO.setv (u' := .int .i64 (cutV lay rs xs ss).2) 42 rfl rfl ?_
      refine JO.pur rfl rfl rfl (Pur.assign rfl) ?_
      refine JO.pur rfl rfl rfl (Pur.assign rfl) ?_
      refine JO.nil ?_
      refine J.seq rfl ?_
      refine J.region rfl ?_
      refine JO.pur rfl rfl rfl (Pur.move rfl) ?_
      refine JO.pur rfl rfl rfl (Pur.loadA rfl rfl rfl CellsIn.blk) ?_
      refine JO.pur rfl rfl rfl (Pur.move rfl) ?_
      refine JO.pur rfl rfl rfl (Pur.loadA rfl rfl rfl CellsIn.blk) ?_
      refine JO.eff rfl rfl rfl (Eff.call rfl (rCut (rs := rs) (ss := ss) (xs := xs) rfl rfl rfl)) ?_
      rintro _ _ ⟨a48, c48, rfl, rfl⟩
      refine JO.pur rfl rfl rfl (Pur.move rfl) ?_
      refine JO.pur rfl rfl rfl (Pur.extract rfl rfl) ?_
      refine JO.pur rfl rfl rfl (Pur.extract rfl rfl) ?_
      refine JO.setv (u' := .int .i64 (cutV lay rs xs ss).2) 50 rfl rfl ?_
      refine JO.pur rfl rfl rfl (Pur.assign rfl) ?_
      refine JO.pur rfl rfl rfl (Pur.assign rfl) ?_
      refine JO.nil ?_
      refine J.seq rfl ?_
      refine J.region rfl ?_
      refine JO.pur rfl rfl rfl (Pur.move rfl) ?_
      refine JO.pur rfl rfl rfl (Pur.loadA rfl rfl rfl CellsIn.blk) ?_
      refine JO.pur rfl rfl rfl (Pur.move rfl) ?_
      refine JO.pur rfl rfl rfl (Pur.loadA rfl rfl rfl CellsIn.blk) ?_
      refine JO.pur rfl rfl rfl (Pur.move rfl) ?_
      refine JO.eff rfl rfl rfl (Eff.call rfl (lLay (rs := rs) (ss := ss) (xs := xs) (ys := ys) rfl rfl rfl rfl hl2)) ?_
      rintro _ _ ⟨a57, c57, rfl, rfl⟩
      refine JO.pur rfl rfl rfl (Pur.move rfl) ?_
      refine JO.pur rfl rfl rfl (Pur.extract rfl rfl) ?_
      refine JO.pur rfl rfl rfl (Pur.extract rfl rfl) ?_
      refine JO.setv (u' := .int .i64 (layV lay rs xs ss ys).2) 59 rfl rfl ?_
      refine JO.pur rfl rfl rfl (Pur.assign rfl) ?_
      refine JO.pur rfl rfl rfl (Pur.assign rfl) ?_
      refine JO.nil ?_
      refine J.seq rfl ?_
      refine J.region rfl ?_
      refine JO.pur rfl rfl rfl (Pur.move rfl) ?_
      refine JO.pur rfl rfl rfl (Pur.loadA rfl rfl rfl CellsIn.blk) ?_
      refine JO.pur rfl rfl rfl (Pur.move rfl) ?_
      refine JO.pur rfl rfl rfl (Pur.loadA rfl rfl rfl CellsIn.blk) ?_
      refine JO.pur rfl rfl rfl (Pur.move rfl) ?_
      refine JO.eff rfl rfl rfl (Eff.call rfl (rLay (rs := rs) (ss := ss) (xs := xs) (ys := ys) rfl rfl rfl rfl hl2)) ?_
      rintro _ _ ⟨a66, c66, rfl, rfl⟩
      refine JO.pur rfl rfl rfl (Pur.move rfl) ?_
      refine JO.pur rfl rfl rfl (Pur.extract rfl rfl) ?_
      refine JO.pur rfl rfl rfl (Pur.extract rfl rfl) ?_
      refine JO.setv (u' := .int .i64 (layV lay rs xs ss ys).2) 68 rfl rfl ?_
      refine JO.pur rfl rfl rfl (Pur.assign rfl) ?_
      refine JO.pur rfl rfl rfl (Pur.assign rfl) ?_
      refine JO.nil ?_
      refine J.seq rfl ?_
      refine J.seq rfl ?_
      refine J.region rfl ?_
      refine JO.pur rfl rfl rfl (Pur.move rfl) ?_
      refine JO.pur rfl rfl rfl (Pur.move rfl) ?_
      refine JO.effR rfl rfl rfl (Eff.call rfl (same2_ok (xs := (cutV lay rs xs ss).1) (ys := (cutV lay rs xs ss).1) rfl rfl (cutV_len _ _ _ _))) ?_
      refine JO.setv (u' := .bool true) 71 rfl (congrArg Value.bool (decide_eq_true rfl)) ?_
      refine JO.pur rfl rfl rfl (Pur.not rfl) ?_
      refine JO.pur rfl rfl rfl (Pur.move rfl) ?_
      refine JO.pur rfl rfl rfl (Pur.move rfl) ?_
      refine JO.pur rfl rfl rfl (Pur.move rfl) ?_
      refine JO.pur rfl rfl rfl (Pur.neqI rfl rfl) ?_
      refine JO.pur rfl rfl rfl (Pur.pickF rfl rfl) ?_
      refine JO.pur rfl rfl rfl (Pur.move rfl) ?_
      refine JO.setv (u' := .bool false) 78 rfl (congrArg Value.bool (decide_eq_false (fun e => e rfl))) ?_
      refine JO.pur rfl rfl rfl (Pur.move rfl) ?_
      refine JO.pur rfl rfl rfl (Pur.move rfl) ?_
      refine JO.effR rfl rfl rfl (Eff.call rfl (same2_ok (xs := (layV lay rs xs ss ys).1) (ys := (layV lay rs xs ss ys).1) rfl rfl (layV_len _ _ _ _ _))) ?_
      refine JO.setv (u' := .bool true) 81 rfl (congrArg Value.bool (decide_eq_true rfl)) ?_
      refine JO.pur rfl rfl rfl (Pur.not rfl) ?_
      refine JO.pur rfl rfl rfl (Pur.pickF rfl rfl) ?_
      refine JO.pur rfl rfl rfl (Pur.move rfl) ?_
      refine JO.pur rfl rfl rfl (Pur.move rfl) ?_
      refine JO.pur rfl rfl rfl (Pur.move rfl) ?_
      refine JO.pur rfl rfl rfl (Pur.neqI rfl rfl) ?_
      refine JO.pur rfl rfl rfl (Pur.pickF rfl rfl) ?_
      refine JO.nil ?_
      refine J.setv (u' := .bool false) 88 rfl (congrArg Value.bool (decide_eq_false (fun e => e rfl))) ?_
      refine J.condF rfl rfl ?_
      refine J.skip rfl ?_
      refine J.seq rfl ?_
      refine J.seq rfl ?_
      refine J.region rfl ?_
      refine JO.pur rfl rfl rfl (Pur.move rfl) ?_
      refine JO.pur rfl rfl rfl (Pur.eqlI rfl rfl) ?_
      refine JO.nil ?_
      refine J.splitB 90 rfl (fun h90 => ?_) (fun h90 => ?_)
      · try simp only [decide_eq_true_eq, decide_eq_false_iff_not, Bool.not_eq_true', Bool.not_eq_false', Bool.and_eq_true, Bool.or_eq_true, Bool.and_eq_false_iff, Bool.or_eq_false_iff, Option.isNone_some, Option.isSome_some, Option.isNone_none, Option.isSome_none, Int.not_lt, Int.not_le, beq_iff_eq, beq_eq_false_iff_ne, bne_iff_ne, ne_eq, Bool.not_not, Decidable.not_not] at h90
        have hgl : (layV lay rs xs ss ys).2 = 0 := by simpa using h90
        have hcl := cut_lay hgl
        have hyl : ys.length ≤ 1000000 := by have := cutV_len lay rs ss (layV lay rs xs ss ys).1; rw [hcl] at this; exact this
        refine J.condT rfl rfl ?_
        refine J.seq rfl ?_
        refine J.region rfl ?_
        refine JO.pur rfl rfl rfl (Pur.move rfl) ?_
        refine JO.pur rfl rfl rfl (Pur.loadA rfl rfl rfl CellsIn.blk) ?_
        refine JO.pur rfl rfl rfl (Pur.move rfl) ?_
        refine JO.pur rfl rfl rfl (Pur.loadA rfl rfl rfl CellsIn.blk) ?_
        refine JO.eff rfl rfl rfl (Eff.call rfl (lCut (rs := rs) (ss := ss) (xs := (layV lay rs xs ss ys).1) rfl rfl rfl)) ?_
        rintro _ _ ⟨a96, c96, rfl, rfl⟩
        rw [hcl]
        refine JO.pur rfl rfl rfl (Pur.move rfl) ?_
        refine JO.pur rfl rfl rfl (Pur.extract rfl rfl) ?_
        refine JO.pur rfl rfl rfl (Pur.extract rfl rfl) ?_
        refine JO.pur rfl rfl rfl (Pur.assign rfl) ?_
        refine JO.pur rfl rfl rfl (Pur.assign rfl) ?_
        refine JO.nil ?_
        refine J.seq rfl ?_
        refine J.region rfl ?_
        refine JO.pur rfl rfl rfl (Pur.move rfl) ?_
        refine JO.pur rfl rfl rfl (Pur.move rfl) ?_
        refine JO.effR rfl rfl rfl (Eff.call rfl (same2_ok (xs := ys) (ys := ys) rfl rfl (hyl))) ?_
        refine JO.setv (u' := .bool true) 101 rfl (congrArg Value.bool (decide_eq_true rfl)) ?_
        refine JO.pur rfl rfl rfl (Pur.not rfl) ?_
        refine JO.pur rfl rfl rfl (Pur.move rfl) ?_
        refine JO.pur rfl rfl rfl (Pur.move rfl) ?_
        refine JO.pur rfl rfl rfl (Pur.neqI rfl rfl) ?_
        refine JO.pur rfl rfl rfl (Pur.pickF rfl rfl) ?_
        refine JO.nil ?_
        refine J.setv (u' := .bool false) 106 rfl (congrArg Value.bool (decide_eq_false (fun e => e rfl))) ?_
        refine J.condF rfl rfl ?_
        refine J.skip rfl ?_
        refine J.seq rfl ?_
        refine J.seq rfl ?_
        refine J.region rfl ?_
        refine JO.pur rfl rfl rfl (Pur.move rfl) ?_
        refine JO.pur rfl rfl rfl (Pur.eqlI rfl rfl) ?_
        refine JO.nil ?_
        refine J.splitB 108 rfl (fun h108 => ?_) (fun h108 => ?_)
        · try simp only [decide_eq_true_eq, decide_eq_false_iff_not, Bool.not_eq_true', Bool.not_eq_false', Bool.and_eq_true, Bool.or_eq_true, Bool.and_eq_false_iff, Bool.or_eq_false_iff, Option.isNone_some, Option.isSome_some, Option.isNone_none, Option.isSome_none, Int.not_lt, Int.not_le, beq_iff_eq, beq_eq_false_iff_ne, bne_iff_ne, ne_eq, Bool.not_not, Decidable.not_not] at h108
          have hgc : (cutV lay rs xs ss).2 = 0 := by simpa using h108
          have hlc := lay_cut hgc
          have hxl : xs.length ≤ 1000000 := by have := layV_len lay rs ss xs (cutV lay rs xs ss).1; rw [hlc] at this; exact this
          refine J.condT rfl rfl ?_
          refine J.seq rfl ?_
          refine J.region rfl ?_
          refine JO.pur rfl rfl rfl (Pur.move rfl) ?_
          refine JO.pur rfl rfl rfl (Pur.loadA rfl rfl rfl CellsIn.blk) ?_
          refine JO.pur rfl rfl rfl (Pur.move rfl) ?_
          refine JO.pur rfl rfl rfl (Pur.loadA rfl rfl rfl CellsIn.blk) ?_
          refine JO.pur rfl rfl rfl (Pur.move rfl) ?_
          refine JO.eff rfl rfl rfl (Eff.call rfl (lLay (rs := rs) (ss := ss) (xs := xs) (ys := (cutV lay rs xs ss).1) rfl rfl rfl rfl hl2)) ?_
          rintro _ _ ⟨a115, c115, rfl, rfl⟩
          rw [hlc]
          refine JO.pur rfl rfl rfl (Pur.move rfl) ?_
          refine JO.pur rfl rfl rfl (Pur.extract rfl rfl) ?_
          refine JO.pur rfl rfl rfl (Pur.extract rfl rfl) ?_
          refine JO.pur rfl rfl rfl (Pur.assign rfl) ?_
          refine JO.pur rfl rfl rfl (Pur.assign rfl) ?_
          refine JO.nil ?_
          refine J.seq rfl ?_
          refine J.region rfl ?_
          refine JO.pur rfl rfl rfl (Pur.move rfl) ?_
          refine JO.pur rfl rfl rfl (Pur.move rfl) ?_
          refine JO.effR rfl rfl rfl (Eff.call rfl (same2_ok (xs := xs) (ys := xs) rfl rfl (hxl))) ?_
          refine JO.setv (u' := .bool true) 120 rfl (congrArg Value.bool (decide_eq_true rfl)) ?_
          refine JO.pur rfl rfl rfl (Pur.not rfl) ?_
          refine JO.pur rfl rfl rfl (Pur.move rfl) ?_
          refine JO.pur rfl rfl rfl (Pur.move rfl) ?_
          refine JO.pur rfl rfl rfl (Pur.neqI rfl rfl) ?_
          refine JO.pur rfl rfl rfl (Pur.pickF rfl rfl) ?_
          refine JO.nil ?_
          refine J.setv (u' := .bool false) 125 rfl (congrArg Value.bool (decide_eq_false (fun e => e rfl))) ?_
          refine J.condF rfl rfl ?_
          refine J.skip rfl ?_
          refine J.seq rfl ?_
          refine J.region rfl ?_
          refine JO.effR rfl rfl rfl (Eff.call rfl (awake_ok)) ?_
          refine JO.pur rfl rfl rfl (Pur.assign rfl) ?_
          refine JO.nil ?_
          refine J.ret rfl rfl ?_
          refine ⟨_, _, ⟨rfl, rfl⟩, rfl, SubC.out⟩
        · try simp only [decide_eq_true_eq, decide_eq_false_iff_not, Bool.not_eq_true', Bool.not_eq_false', Bool.and_eq_true, Bool.or_eq_true, Bool.and_eq_false_iff, Bool.or_eq_false_iff, Option.isNone_some, Option.isSome_some, Option.isNone_none, Option.isSome_none, Int.not_lt, Int.not_le, beq_iff_eq, beq_eq_false_iff_ne, bne_iff_ne, ne_eq, Bool.not_not, Decidable.not_not] at h108
          refine J.condF rfl rfl ?_
          refine J.skip rfl ?_
          refine J.seq rfl ?_
          refine J.region rfl ?_
          refine JO.effR rfl rfl rfl (Eff.call rfl (awake_ok)) ?_
          refine JO.pur rfl rfl rfl (Pur.assign rfl) ?_
          refine JO.nil ?_
          refine J.ret rfl rfl ?_
          refine ⟨_, _, ⟨rfl, rfl⟩, rfl, SubC.out⟩
      · try simp only [decide_eq_true_eq, decide_eq_false_iff_not, Bool.not_eq_true', Bool.not_eq_false', Bool.and_eq_true, Bool.or_eq_true, Bool.and_eq_false_iff, Bool.or_eq_false_iff, Option.isNone_some, Option.isSome_some, Option.isNone_none, Option.isSome_none, Int.not_lt, Int.not_le, beq_iff_eq, beq_eq_false_iff_ne, bne_iff_ne, ne_eq, Bool.not_not, Decidable.not_not] at h90
        refine J.condF rfl rfl ?_
        refine J.skip rfl ?_
        refine J.seq rfl ?_
        refine J.seq rfl ?_
        refine J.region rfl ?_
        refine JO.pur rfl rfl rfl (Pur.move rfl) ?_
        refine JO.pur rfl rfl rfl (Pur.eqlI rfl rfl) ?_
        refine JO.nil ?_
        refine J.splitB 108 rfl (fun h108 => ?_) (fun h108 => ?_)
        · try simp only [decide_eq_true_eq, decide_eq_false_iff_not, Bool.not_eq_true', Bool.not_eq_false', Bool.and_eq_true, Bool.or_eq_true, Bool.and_eq_false_iff, Bool.or_eq_false_iff, Option.isNone_some, Option.isSome_some, Option.isNone_none, Option.isSome_none, Int.not_lt, Int.not_le, beq_iff_eq, beq_eq_false_iff_ne, bne_iff_ne, ne_eq, Bool.not_not, Decidable.not_not] at h108
          have hgc : (cutV lay rs xs ss).2 = 0 := by simpa using h108
          have hlc := lay_cut hgc
          have hxl : xs.length ≤ 1000000 := by have := layV_len lay rs ss xs (cutV lay rs xs ss).1; rw [hlc] at this; exact this
          refine J.condT rfl rfl ?_
          refine J.seq rfl ?_
          refine J.region rfl ?_
          refine JO.pur rfl rfl rfl (Pur.move rfl) ?_
          refine JO.pur rfl rfl rfl (Pur.loadA rfl rfl rfl CellsIn.blk) ?_
          refine JO.pur rfl rfl rfl (Pur.move rfl) ?_
          refine JO.pur rfl rfl rfl (Pur.loadA rfl rfl rfl CellsIn.blk) ?_
          refine JO.pur rfl rfl rfl (Pur.move rfl) ?_
          refine JO.eff rfl rfl rfl (Eff.call rfl (lLay (rs := rs) (ss := ss) (xs := xs) (ys := (cutV lay rs xs ss).1) rfl rfl rfl rfl hl2)) ?_
          rintro _ _ ⟨a115, c115, rfl, rfl⟩
          rw [hlc]
          refine JO.pur rfl rfl rfl (Pur.move rfl) ?_
          refine JO.pur rfl rfl rfl (Pur.extract rfl rfl) ?_
          refine JO.pur rfl rfl rfl (Pur.extract rfl rfl) ?_
          refine JO.pur rfl rfl rfl (Pur.assign rfl) ?_
          refine JO.pur rfl rfl rfl (Pur.assign rfl) ?_
          refine JO.nil ?_
          refine J.seq rfl ?_
          refine J.region rfl ?_
          refine JO.pur rfl rfl rfl (Pur.move rfl) ?_
          refine JO.pur rfl rfl rfl (Pur.move rfl) ?_
          refine JO.effR rfl rfl rfl (Eff.call rfl (same2_ok (xs := xs) (ys := xs) rfl rfl (hxl))) ?_
          refine JO.setv (u' := .bool true) 120 rfl (congrArg Value.bool (decide_eq_true rfl)) ?_
          refine JO.pur rfl rfl rfl (Pur.not rfl) ?_
          refine JO.pur rfl rfl rfl (Pur.move rfl) ?_
          refine JO.pur rfl rfl rfl (Pur.move rfl) ?_
          refine JO.pur rfl rfl rfl (Pur.neqI rfl rfl) ?_
          refine JO.pur rfl rfl rfl (Pur.pickF rfl rfl) ?_
          refine JO.nil ?_
          refine J.setv (u' := .bool false) 125 rfl (congrArg Value.bool (decide_eq_false (fun e => e rfl))) ?_
          refine J.condF rfl rfl ?_
          refine J.skip rfl ?_
          refine J.seq rfl ?_
          refine J.region rfl ?_
          refine JO.effR rfl rfl rfl (Eff.call rfl (awake_ok)) ?_
          refine JO.pur rfl rfl rfl (Pur.assign rfl) ?_
          refine JO.nil ?_
          refine J.ret rfl rfl ?_
          refine ⟨_, _, ⟨rfl, rfl⟩, rfl, SubC.out⟩
        · try simp only [decide_eq_true_eq, decide_eq_false_iff_not, Bool.not_eq_true', Bool.not_eq_false', Bool.and_eq_true, Bool.or_eq_true, Bool.and_eq_false_iff, Bool.or_eq_false_iff, Option.isNone_some, Option.isSome_some, Option.isNone_none, Option.isSome_none, Int.not_lt, Int.not_le, beq_iff_eq, beq_eq_false_iff_ne, bne_iff_ne, ne_eq, Bool.not_not, Decidable.not_not] at h108
          refine J.condF rfl rfl ?_
          refine J.skip rfl ?_
          refine J.seq rfl ?_
          refine J.region rfl ?_
          refine JO.effR rfl rfl rfl (Eff.call rfl (awake_ok)) ?_
          refine JO.pur rfl rfl rfl (Pur.assign rfl) ?_
          refine JO.nil ?_
          refine J.ret rfl rfl ?_
          refine ⟨_, _, ⟨rfl, rfl⟩, rfl, SubC.out⟩

end Go.Proofs.Ytnhippfllgnngaa
