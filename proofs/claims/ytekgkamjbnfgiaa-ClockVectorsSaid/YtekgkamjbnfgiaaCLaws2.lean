/-
  A part of the proof of the claim that this folder bears.
  This text: CLaws2.
-/
import Derived.Test.YtekgkamjbnfgiaaCLaws1
set_option linter.unusedVariables false
set_option linter.unusedSimpArgs false
namespace Go.Proofs.Ytekgkamjbnfgiaa
open Go Go.KK Ck

theorem clockSizes_ok {L : List Asn} {b : Option Addr} {n cp : Nat} {xs : List Evt} [SlIn evE L b xs] (hn : n = xs.length) (hb : xs.length ≤ 9223372036854775807) :
    CallS Try.prog 11 [.slice b n cp].toArray L (fun v M => v = .bool true ∧ M = L) := by
  subst hn
  refine CallS.ent ?_
  refine CallS.enter Try.func11 rfl rfl rfl rfl rfl ?_
  refine J.seq rfl ?_
  refine J.region rfl ?_
  refine JO.pur rfl rfl rfl (Pur.assign rfl) ?_
  refine JO.nil ?_
  refine J.seq rfl ?_
  refine J.seq rfl ?_
  refine J.region rfl ?_
  refine JO.pur rfl rfl rfl (Pur.move rfl) ?_
  refine JO.effR rfl rfl rfl (Eff.call rfl (long_ok b xs.length cp)) ?_
  refine JO.nil ?_
  refine J.splitB 12 rfl (fun h12 => ?_) (fun h12 => ?_)
  · try simp only [decide_eq_true_eq, decide_eq_false_iff_not, Bool.not_eq_true', Bool.not_eq_false', Bool.and_eq_true, Bool.or_eq_true, Bool.and_eq_false_iff, Bool.or_eq_false_iff, Option.isNone_some, Option.isSome_some, Option.isNone_none, Option.isSome_none, Int.not_lt, Int.not_le, beq_iff_eq, beq_eq_false_iff_ne, bne_iff_ne, ne_eq, Bool.not_not, Decidable.not_not] at h12
    refine J.condT rfl rfl ?_
    refine J.seq rfl ?_
    refine J.region rfl ?_
    refine JO.effR rfl rfl rfl (Eff.call rfl (firstEx_ok)) ?_
    refine JO.pur rfl rfl rfl (Pur.assign rfl) ?_
    refine JO.nil ?_
    refine J.ret rfl rfl ?_
    exact ⟨_, _, ⟨rfl, rfl⟩, rfl, SubC.out⟩
  · try simp only [decide_eq_true_eq, decide_eq_false_iff_not, Bool.not_eq_true', Bool.not_eq_false', Bool.and_eq_true, Bool.or_eq_true, Bool.and_eq_false_iff, Bool.or_eq_false_iff, Option.isNone_some, Option.isSome_some, Option.isNone_none, Option.isSome_none, Int.not_lt, Int.not_le, beq_iff_eq, beq_eq_false_iff_ne, bne_iff_ne, ne_eq, Bool.not_not, Decidable.not_not] at h12
    refine J.condF rfl rfl ?_
    refine J.skip rfl ?_
    refine J.seq rfl ?_
    refine J.region rfl ?_
    refine JO.pur rfl rfl rfl (Pur.move rfl) ?_
    refine JO.effR rfl rfl rfl (Eff.call rfl (Depth_ok rfl hb)) ?_
    refine JO.pur rfl rfl rfl (Pur.move rfl) ?_
    refine JO.pur rfl rfl rfl (Pur.extract rfl rfl) ?_
    refine JO.pur rfl rfl rfl (Pur.extract rfl rfl) ?_
    refine JO.pur rfl rfl rfl (Pur.assign rfl) ?_
    refine JO.pur rfl rfl rfl (Pur.assign rfl) ?_
    refine JO.nil ?_
    refine J.seq rfl ?_
    refine J.region rfl ?_
    refine JO.pur rfl rfl rfl (Pur.move rfl) ?_
    refine JO.effR rfl rfl rfl (Eff.call rfl (rDepth_ok rfl hb)) ?_
    refine JO.pur rfl rfl rfl (Pur.move rfl) ?_
    refine JO.pur rfl rfl rfl (Pur.extract rfl rfl) ?_
    refine JO.pur rfl rfl rfl (Pur.extract rfl rfl) ?_
    refine JO.pur rfl rfl rfl (Pur.assign rfl) ?_
    refine JO.pur rfl rfl rfl (Pur.assign rfl) ?_
    refine JO.nil ?_
    refine J.seq rfl ?_
    refine J.region rfl ?_
    refine JO.pur rfl rfl rfl (Pur.move rfl) ?_
    refine JO.effR rfl rfl rfl (Eff.call rfl (Width_ok rfl hb)) ?_
    refine JO.pur rfl rfl rfl (Pur.move rfl) ?_
    refine JO.pur rfl rfl rfl (Pur.extract rfl rfl) ?_
    refine JO.pur rfl rfl rfl (Pur.extract rfl rfl) ?_
    refine JO.pur rfl rfl rfl (Pur.assign rfl) ?_
    refine JO.pur rfl rfl rfl (Pur.assign rfl) ?_
    refine JO.nil ?_
    refine J.seq rfl ?_
    refine J.region rfl ?_
    refine JO.pur rfl rfl rfl (Pur.move rfl) ?_
    refine JO.effR rfl rfl rfl (Eff.call rfl (rWidth_ok rfl hb)) ?_
    refine JO.pur rfl rfl rfl (Pur.move rfl) ?_
    refine JO.pur rfl rfl rfl (Pur.extract rfl rfl) ?_
    refine JO.pur rfl rfl rfl (Pur.extract rfl rfl) ?_
    refine JO.pur rfl rfl rfl (Pur.assign rfl) ?_
    refine JO.pur rfl rfl rfl (Pur.assign rfl) ?_
    refine JO.nil ?_
    refine J.seq rfl ?_
    refine J.region rfl ?_
    refine JO.pur rfl rfl rfl (Pur.move rfl) ?_
    refine JO.pur rfl rfl rfl (Pur.move rfl) ?_
    refine JO.pur rfl rfl rfl (Pur.eqlI rfl rfl) ?_
    refine JO.pur rfl rfl rfl (Pur.move rfl) ?_
    refine JO.setv (u' := .bool true) 37 rfl (congrArg Value.bool (by simp)) ?_
    refine JO.pur rfl rfl rfl (Pur.move rfl) ?_
    refine JO.pur rfl rfl rfl (Pur.move rfl) ?_
    refine JO.pur rfl rfl rfl (Pur.eqlI rfl rfl) ?_
    refine JO.pur rfl rfl rfl (Pur.pickT rfl rfl) ?_
    refine JO.pur rfl rfl rfl (Pur.move rfl) ?_
    refine JO.setv (u' := .bool true) 42 rfl (congrArg Value.bool (by simp)) ?_
    refine JO.pur rfl rfl rfl (Pur.move rfl) ?_
    refine JO.pur rfl rfl rfl (Pur.move rfl) ?_
    refine JO.pur rfl rfl rfl (Pur.eqlI rfl rfl) ?_
    refine JO.pur rfl rfl rfl (Pur.pickT rfl rfl) ?_
    refine JO.pur rfl rfl rfl (Pur.move rfl) ?_
    refine JO.setv (u' := .bool true) 47 rfl (congrArg Value.bool (by simp)) ?_
    refine JO.pur rfl rfl rfl (Pur.move rfl) ?_
    refine JO.pur rfl rfl rfl (Pur.move rfl) ?_
    refine JO.pur rfl rfl rfl (Pur.eqlI rfl rfl) ?_
    refine JO.pur rfl rfl rfl (Pur.pickT rfl rfl) ?_
    refine JO.pur rfl rfl rfl (Pur.move rfl) ?_
    refine JO.setv (u' := .bool true) 52 rfl (congrArg Value.bool (by simp)) ?_
    refine JO.effR rfl rfl rfl (Eff.call rfl (firstEx_ok)) ?_
    refine JO.pur rfl rfl rfl (Pur.pickT rfl rfl) ?_
    refine JO.pur rfl rfl rfl (Pur.assign rfl) ?_
    refine JO.nil ?_
    refine J.ret rfl rfl ?_
    exact ⟨_, _, ⟨rfl, rfl⟩, rfl, SubC.out⟩

theorem clockRaces_ok {L : List Asn} {b : Option Addr} {n cp : Nat} {xs : List Evt} [SlIn evE L b xs] (hn : n = xs.length) (hb : xs.length ≤ 9223372036854775807) :
    CallS Try.prog 10 [.slice b n cp].toArray L (fun v M => v = .bool true ∧ M = L) := by
  subst hn
  refine CallS.ent ?_
  refine CallS.enter Try.func10 rfl rfl rfl rfl rfl ?_
  refine J.seq rfl ?_
  refine J.region rfl ?_
  refine JO.pur rfl rfl rfl (Pur.assign rfl) ?_
  refine JO.nil ?_
  refine J.seq rfl ?_
  refine J.seq rfl ?_
  refine J.region rfl ?_
  refine JO.pur rfl rfl rfl (Pur.move rfl) ?_
  refine JO.effR rfl rfl rfl (Eff.call rfl (long_ok b xs.length cp)) ?_
  refine JO.nil ?_
  refine J.splitB 14 rfl (fun h14 => ?_) (fun h14 => ?_)
  · try simp only [decide_eq_true_eq, decide_eq_false_iff_not, Bool.not_eq_true', Bool.not_eq_false', Bool.and_eq_true, Bool.or_eq_true, Bool.and_eq_false_iff, Bool.or_eq_false_iff, Option.isNone_some, Option.isSome_some, Option.isNone_none, Option.isSome_none, Int.not_lt, Int.not_le, beq_iff_eq, beq_eq_false_iff_ne, bne_iff_ne, ne_eq, Bool.not_not, Decidable.not_not] at h14
    refine J.condT rfl rfl ?_
    refine J.seq rfl ?_
    refine J.region rfl ?_
    refine JO.effR rfl rfl rfl (Eff.call rfl (firstEx_ok)) ?_
    refine JO.pur rfl rfl rfl (Pur.assign rfl) ?_
    refine JO.nil ?_
    refine J.ret rfl rfl ?_
    exact ⟨_, _, ⟨rfl, rfl⟩, rfl, SubC.out⟩
  · try simp only [decide_eq_true_eq, decide_eq_false_iff_not, Bool.not_eq_true', Bool.not_eq_false', Bool.and_eq_true, Bool.or_eq_true, Bool.and_eq_false_iff, Bool.or_eq_false_iff, Option.isNone_some, Option.isSome_some, Option.isNone_none, Option.isSome_none, Int.not_lt, Int.not_le, beq_iff_eq, beq_eq_false_iff_ne, bne_iff_ne, ne_eq, Bool.not_not, Decidable.not_not] at h14
    refine J.condF rfl rfl ?_
    refine J.skip rfl ?_
    refine J.seq rfl ?_
    refine J.region rfl ?_
    refine JO.pur rfl rfl rfl (Pur.move rfl) ?_
    refine JO.eff rfl rfl rfl (Eff.call rfl (Races_ok rfl hb)) ?_
    rintro _ _ ⟨a18, c18, rs18, e18, rfl, rfl⟩
    subst e18
    refine JO.pur rfl rfl rfl (Pur.move rfl) ?_
    refine JO.pur rfl rfl rfl (Pur.extract rfl rfl) ?_
    refine JO.pur rfl rfl rfl (Pur.extract rfl rfl) ?_
    refine JO.pur rfl rfl rfl (Pur.assign rfl) ?_
    refine JO.pur rfl rfl rfl (Pur.assign rfl) ?_
    refine JO.nil ?_
    refine J.seq rfl ?_
    refine J.region rfl ?_
    refine JO.pur rfl rfl rfl (Pur.move rfl) ?_
    refine JO.eff rfl rfl rfl (Eff.call rfl (rRaces_ok rfl hb)) ?_
    rintro _ _ ⟨a23, c23, rs23, e23, rfl, rfl⟩
    subst e23
    refine JO.pur rfl rfl rfl (Pur.move rfl) ?_
    refine JO.pur rfl rfl rfl (Pur.extract rfl rfl) ?_
    refine JO.pur rfl rfl rfl (Pur.extract rfl rfl) ?_
    refine JO.pur rfl rfl rfl (Pur.assign rfl) ?_
    refine JO.pur rfl rfl rfl (Pur.assign rfl) ?_
    refine JO.nil ?_
    refine J.seq rfl ?_
    refine J.region rfl ?_
    refine JO.pur rfl rfl rfl (Pur.move rfl) ?_
    refine JO.effR rfl rfl rfl (Eff.call rfl (First_ok rfl hb)) ?_
    unfold firstVal
    refine JO.pur rfl rfl rfl (Pur.move rfl) ?_
    refine JO.pur rfl rfl rfl (Pur.extract rfl rfl) ?_
    refine JO.pur rfl rfl rfl (Pur.extract rfl rfl) ?_
    refine JO.pur rfl rfl rfl (Pur.extract rfl rfl) ?_
    refine JO.eff rfl rfl rfl (Eff.alloc (cs := [_, _]) rfl) ?_
    rintro _ _ ⟨b7, rfl, rfl⟩
    refine JO.effN rfl rfl (Eff.storeBA (cs' := [_, _]) rfl rfl (by rfl) (by rfl) (by rfl)) ?_
    rintro _ _ ⟨rfl, rfl⟩
    refine JO.pur rfl rfl rfl (Pur.assign rfl) ?_
    refine JO.pur rfl rfl rfl (Pur.assign rfl) ?_
    refine JO.nil ?_
    refine J.seq rfl ?_
    refine J.region rfl ?_
    refine JO.pur rfl rfl rfl (Pur.move rfl) ?_
    refine JO.effR rfl rfl rfl (Eff.call rfl (rFirst_ok rfl hb)) ?_
    unfold firstVal
    refine JO.pur rfl rfl rfl (Pur.move rfl) ?_
    refine JO.pur rfl rfl rfl (Pur.extract rfl rfl) ?_
    refine JO.pur rfl rfl rfl (Pur.extract rfl rfl) ?_
    refine JO.pur rfl rfl rfl (Pur.extract rfl rfl) ?_
    refine JO.eff rfl rfl rfl (Eff.alloc (cs := [_, _]) rfl) ?_
    rintro _ _ ⟨b10, rfl, rfl⟩
    refine JO.effN rfl rfl (Eff.storeBA (cs' := [_, _]) rfl rfl (by rfl) (by rfl) (by rfl)) ?_
    rintro _ _ ⟨rfl, rfl⟩
    refine JO.pur rfl rfl rfl (Pur.assign rfl) ?_
    refine JO.pur rfl rfl rfl (Pur.assign rfl) ?_
    refine JO.nil ?_
    refine J.seq rfl ?_
    refine J.region rfl ?_
    refine JO.pur rfl rfl rfl (Pur.move rfl) ?_
    refine JO.pur rfl rfl rfl (Pur.move rfl) ?_
    refine JO.effR rfl rfl rfl (Eff.call rfl (samePairs_ok (a := a18) (b := a23) rfl rfl (by have := racesR_len (xs := xs); omega))) ?_
    refine JO.pur rfl rfl rfl (Pur.move rfl) ?_
    refine JO.setv (u' := .bool true) 41 rfl (congrArg Value.bool (by simp)) ?_
    refine JO.pur rfl rfl rfl (Pur.move rfl) ?_
    refine JO.pur rfl rfl rfl (Pur.move rfl) ?_
    refine JO.pur rfl rfl rfl (Pur.eqlI rfl rfl) ?_
    refine JO.pur rfl rfl rfl (Pur.pickT rfl rfl) ?_
    refine JO.pur rfl rfl rfl (Pur.move rfl) ?_
    refine JO.setv (u' := .bool true) 46 rfl (congrArg Value.bool (by simp)) ?_
    refine JO.pur rfl rfl rfl (Pur.loadA rfl rfl rfl CellsIn.blk) ?_
    refine JO.pur rfl rfl rfl (Pur.loadA rfl rfl rfl CellsIn.blk) ?_
    refine JO.pur rfl rfl rfl (Pur.eqlE (E := pairE) (a := (firstR xs).getD (0, 0)) (b := (firstR xs).getD (0, 0)) rfl rfl) ?_
    refine JO.pur rfl rfl rfl (Pur.pickT rfl rfl) ?_
    refine JO.pur rfl rfl rfl (Pur.move rfl) ?_
    refine JO.setv (u' := .bool true) 51 rfl (congrArg Value.bool (by simp)) ?_
    refine JO.pur rfl rfl rfl (Pur.move rfl) ?_
    refine JO.pur rfl rfl rfl (Pur.move rfl) ?_
    refine JO.pur rfl rfl rfl (Pur.eqlB rfl rfl) ?_
    refine JO.pur rfl rfl rfl (Pur.pickT rfl rfl) ?_
    refine JO.pur rfl rfl rfl (Pur.move rfl) ?_
    refine JO.setv (u' := .bool true) 56 rfl (congrArg Value.bool (by simp)) ?_
    refine JO.pur rfl rfl rfl (Pur.move rfl) ?_
    refine JO.pur rfl rfl rfl (Pur.move rfl) ?_
    refine JO.pur rfl rfl rfl (Pur.eqlI rfl rfl) ?_
    refine JO.pur rfl rfl rfl (Pur.pickT rfl rfl) ?_
    refine JO.pur rfl rfl rfl (Pur.move rfl) ?_
    refine JO.setv (u' := .bool true) 61 rfl (congrArg Value.bool (by simp)) ?_
    refine JO.effR rfl rfl rfl (Eff.call rfl (firstEx_ok)) ?_
    refine JO.pur rfl rfl rfl (Pur.pickT rfl rfl) ?_
    refine JO.pur rfl rfl rfl (Pur.assign rfl) ?_
    refine JO.nil ?_
    refine J.ret rfl rfl ?_
    exact ⟨_, _, ⟨rfl, rfl⟩, rfl, SubC.out⟩

theorem clockVectors_ok {L : List Asn} {b : Option Addr} {n cp : Nat} {xs : List Evt} [SlIn evE L b xs] (hn : n = xs.length) (hb : xs.length ≤ 9223372036854775807) (i k : Int) :
    CallS Try.prog 8 [.slice b n cp, .int .i64 i, .int .i64 k].toArray L (fun v M => v = .bool true ∧ M = L) := by
  subst hn
  refine CallS.ent ?_
  refine CallS.enter Try.func8 rfl rfl rfl rfl rfl ?_
  refine J.seq rfl ?_
  refine J.region rfl ?_
  refine JO.pur rfl rfl rfl (Pur.assign rfl) ?_
  refine JO.nil ?_
  refine J.seq rfl ?_
  refine J.seq rfl ?_
  refine J.region rfl ?_
  refine JO.pur rfl rfl rfl (Pur.move rfl) ?_
  refine JO.effR rfl rfl rfl (Eff.call rfl (long_ok b xs.length cp)) ?_
  refine JO.pur rfl rfl rfl (Pur.move rfl) ?_
  refine JO.splitB 16 rfl (fun h16 => ?_) (fun h16 => ?_)
  · try simp only [decide_eq_true_eq, decide_eq_false_iff_not, Bool.not_eq_true', Bool.not_eq_false', Bool.and_eq_true, Bool.or_eq_true, Bool.and_eq_false_iff, Bool.or_eq_false_iff, Option.isNone_some, Option.isSome_some, Option.isNone_none, Option.isSome_none, Int.not_lt, Int.not_le, beq_iff_eq, beq_eq_false_iff_ne, bne_iff_ne, ne_eq, Bool.not_not, Decidable.not_not] at h16
    refine JO.no rfl rfl rfl ?_
    refine JO.no rfl rfl rfl ?_
    refine JO.no rfl rfl rfl ?_
    refine JO.pur rfl rfl rfl (Pur.pickT rfl rfl) ?_
    refine JO.pur rfl rfl rfl (Pur.move rfl) ?_
    refine JO.no rfl rfl rfl ?_
    refine JO.no rfl rfl rfl ?_
    refine JO.pur rfl rfl rfl (Pur.pickT rfl rfl) ?_
    refine JO.pur rfl rfl rfl (Pur.move rfl) ?_
    refine JO.no rfl rfl rfl ?_
    refine JO.no rfl rfl rfl ?_
    refine JO.no rfl rfl rfl ?_
    refine JO.no rfl rfl rfl ?_
    refine JO.pur rfl rfl rfl (Pur.pickT rfl rfl) ?_
    refine JO.pur rfl rfl rfl (Pur.move rfl) ?_
    refine JO.no rfl rfl rfl ?_
    refine JO.no rfl rfl rfl ?_
    refine JO.pur rfl rfl rfl (Pur.pickT rfl rfl) ?_
    refine JO.pur rfl rfl rfl (Pur.move rfl) ?_
    refine JO.no rfl rfl rfl ?_
    refine JO.no rfl rfl rfl ?_
    refine JO.no rfl rfl rfl ?_
    refine JO.no rfl rfl rfl ?_
    refine JO.pur rfl rfl rfl (Pur.pickT rfl rfl) ?_
    refine JO.pur rfl rfl rfl (Pur.move rfl) ?_
    refine JO.no rfl rfl rfl ?_
    refine JO.no rfl rfl rfl ?_
    refine JO.no rfl rfl rfl ?_
    refine JO.pur rfl rfl rfl (Pur.pickT rfl rfl) ?_
    refine JO.nil ?_
    refine J.condT rfl rfl ?_
    refine J.seq rfl ?_
    refine J.region rfl ?_
    refine JO.effR rfl rfl rfl (Eff.call rfl (firstEx_ok)) ?_
    refine JO.pur rfl rfl rfl (Pur.assign rfl) ?_
    refine JO.nil ?_
    refine J.ret rfl rfl ?_
    exact ⟨_, _, ⟨rfl, rfl⟩, rfl, SubC.out⟩
  · try simp only [decide_eq_true_eq, decide_eq_false_iff_not, Bool.not_eq_true', Bool.not_eq_false', Bool.and_eq_true, Bool.or_eq_true, Bool.and_eq_false_iff, Bool.or_eq_false_iff, Option.isNone_some, Option.isSome_some, Option.isNone_none, Option.isSome_none, Int.not_lt, Int.not_le, beq_iff_eq, beq_eq_false_iff_ne, bne_iff_ne, ne_eq, Bool.not_not, Decidable.not_not] at h16
    refine JO.pur rfl rfl rfl (Pur.move rfl) ?_
    refine JO.effR rfl rfl rfl (Eff.call rfl (right_ok rfl hb)) ?_
    refine JO.pur rfl rfl rfl (Pur.not rfl) ?_
    refine JO.pur rfl rfl rfl (Pur.pickF rfl rfl) ?_
    refine JO.pur rfl rfl rfl (Pur.move rfl) ?_
    refine JO.splitB 21 rfl (fun h21 => ?_) (fun h21 => ?_)
    · try simp only [decide_eq_true_eq, decide_eq_false_iff_not, Bool.not_eq_true', Bool.not_eq_false', Bool.and_eq_true, Bool.or_eq_true, Bool.and_eq_false_iff, Bool.or_eq_false_iff, Option.isNone_some, Option.isSome_some, Option.isNone_none, Option.isSome_none, Int.not_lt, Int.not_le, beq_iff_eq, beq_eq_false_iff_ne, bne_iff_ne, ne_eq, Bool.not_not, Decidable.not_not] at h21
      refine JO.no rfl rfl rfl ?_
      refine JO.no rfl rfl rfl ?_
      refine JO.pur rfl rfl rfl (Pur.pickT rfl rfl) ?_
      refine JO.pur rfl rfl rfl (Pur.move rfl) ?_
      refine JO.no rfl rfl rfl ?_
      refine JO.no rfl rfl rfl ?_
      refine JO.no rfl rfl rfl ?_
      refine JO.no rfl rfl rfl ?_
      refine JO.pur rfl rfl rfl (Pur.pickT rfl rfl) ?_
      refine JO.pur rfl rfl rfl (Pur.move rfl) ?_
      refine JO.no rfl rfl rfl ?_
      refine JO.no rfl rfl rfl ?_
      refine JO.pur rfl rfl rfl (Pur.pickT rfl rfl) ?_
      refine JO.pur rfl rfl rfl (Pur.move rfl) ?_
      refine JO.no rfl rfl rfl ?_
      refine JO.no rfl rfl rfl ?_
      refine JO.no rfl rfl rfl ?_
      refine JO.no rfl rfl rfl ?_
      refine JO.pur rfl rfl rfl (Pur.pickT rfl rfl) ?_
      refine JO.pur rfl rfl rfl (Pur.move rfl) ?_
      refine JO.no rfl rfl rfl ?_
      refine JO.no rfl rfl rfl ?_
      refine JO.no rfl rfl rfl ?_
      refine JO.pur rfl rfl rfl (Pur.pickT rfl rfl) ?_
      refine JO.nil ?_
      refine J.condT rfl rfl ?_
      refine J.seq rfl ?_
      refine J.region rfl ?_
      refine JO.effR rfl rfl rfl (Eff.call rfl (firstEx_ok)) ?_
      refine JO.pur rfl rfl rfl (Pur.assign rfl) ?_
      refine JO.nil ?_
      refine J.ret rfl rfl ?_
      exact ⟨_, _, ⟨rfl, rfl⟩, rfl, SubC.out⟩
    · try simp only [decide_eq_true_eq, decide_eq_false_iff_not, Bool.not_eq_true', Bool.not_eq_false', Bool.and_eq_true, Bool.or_eq_true, Bool.and_eq_false_iff, Bool.or_eq_false_iff, Option.isNone_some, Option.isSome_some, Option.isNone_none, Option.isSome_none, Int.not_lt, Int.not_le, beq_iff_eq, beq_eq_false_iff_ne, bne_iff_ne, ne_eq, Bool.not_not, Decidable.not_not] at h21
      refine JO.pur rfl rfl rfl (Pur.move rfl) ?_
      refine JO.pur rfl rfl rfl (Pur.lss rfl rfl) ?_
      refine JO.pur rfl rfl rfl (Pur.pickF rfl rfl) ?_
      refine JO.pur rfl rfl rfl (Pur.move rfl) ?_
      refine JO.splitB 25 rfl (fun h25 => ?_) (fun h25 => ?_)
      · try simp only [decide_eq_true_eq, decide_eq_false_iff_not, Bool.not_eq_true', Bool.not_eq_false', Bool.and_eq_true, Bool.or_eq_true, Bool.and_eq_false_iff, Bool.or_eq_false_iff, Option.isNone_some, Option.isSome_some, Option.isNone_none, Option.isSome_none, Int.not_lt, Int.not_le, beq_iff_eq, beq_eq_false_iff_ne, bne_iff_ne, ne_eq, Bool.not_not, Decidable.not_not] at h25
        refine JO.no rfl rfl rfl ?_
        refine JO.no rfl rfl rfl ?_
        refine JO.no rfl rfl rfl ?_
        refine JO.no rfl rfl rfl ?_
        refine JO.pur rfl rfl rfl (Pur.pickT rfl rfl) ?_
        refine JO.pur rfl rfl rfl (Pur.move rfl) ?_
        refine JO.no rfl rfl rfl ?_
        refine JO.no rfl rfl rfl ?_
        refine JO.pur rfl rfl rfl (Pur.pickT rfl rfl) ?_
        refine JO.pur rfl rfl rfl (Pur.move rfl) ?_
        refine JO.no rfl rfl rfl ?_
        refine JO.no rfl rfl rfl ?_
        refine JO.no rfl rfl rfl ?_
        refine JO.no rfl rfl rfl ?_
        refine JO.pur rfl rfl rfl (Pur.pickT rfl rfl) ?_
        refine JO.pur rfl rfl rfl (Pur.move rfl) ?_
        refine JO.no rfl rfl rfl ?_
        refine JO.no rfl rfl rfl ?_
        refine JO.no rfl rfl rfl ?_
        refine JO.pur rfl rfl rfl (Pur.pickT rfl rfl) ?_
        refine JO.nil ?_
        refine J.condT rfl rfl ?_
        refine J.seq rfl ?_
        refine J.region rfl ?_
        refine JO.effR rfl rfl rfl (Eff.call rfl (firstEx_ok)) ?_
        refine JO.pur rfl rfl rfl (Pur.assign rfl) ?_
        refine JO.nil ?_
        refine J.ret rfl rfl ?_
        exact ⟨_, _, ⟨rfl, rfl⟩, rfl, SubC.out⟩
      · try simp only [decide_eq_true_eq, decide_eq_false_iff_not, Bool.not_eq_true', Bool.not_eq_false', Bool.and_eq_true, Bool.or_eq_true, Bool.and_eq_false_iff, Bool.or_eq_false_iff, Option.isNone_some, Option.isSome_some, Option.isNone_none, Option.isSome_none, Int.not_lt, Int.not_le, beq_iff_eq, beq_eq_false_iff_ne, bne_iff_ne, ne_eq, Bool.not_not, Decidable.not_not] at h25
        refine JO.pur rfl rfl rfl (Pur.move rfl) ?_
        refine JO.pur rfl rfl rfl (Pur.move rfl) ?_
        refine JO.pur rfl rfl rfl (Pur.len rfl) ?_
        refine JO.pur rfl rfl rfl (Pur.geq rfl rfl) ?_
        refine JO.pur rfl rfl rfl (Pur.pickF rfl rfl) ?_
        refine JO.pur rfl rfl rfl (Pur.move rfl) ?_
        refine JO.splitB 31 rfl (fun h31 => ?_) (fun h31 => ?_)
        · try simp only [decide_eq_true_eq, decide_eq_false_iff_not, Bool.not_eq_true', Bool.not_eq_false', Bool.and_eq_true, Bool.or_eq_true, Bool.and_eq_false_iff, Bool.or_eq_false_iff, Option.isNone_some, Option.isSome_some, Option.isNone_none, Option.isSome_none, Int.not_lt, Int.not_le, beq_iff_eq, beq_eq_false_iff_ne, bne_iff_ne, ne_eq, Bool.not_not, Decidable.not_not] at h31
          refine JO.no rfl rfl rfl ?_
          refine JO.no rfl rfl rfl ?_
          refine JO.pur rfl rfl rfl (Pur.pickT rfl rfl) ?_
          refine JO.pur rfl rfl rfl (Pur.move rfl) ?_
          refine JO.no rfl rfl rfl ?_
          refine JO.no rfl rfl rfl ?_
          refine JO.no rfl rfl rfl ?_
          refine JO.no rfl rfl rfl ?_
          refine JO.pur rfl rfl rfl (Pur.pickT rfl rfl) ?_
          refine JO.pur rfl rfl rfl (Pur.move rfl) ?_
          refine JO.no rfl rfl rfl ?_
          refine JO.no rfl rfl rfl ?_
          refine JO.no rfl rfl rfl ?_
          refine JO.pur rfl rfl rfl (Pur.pickT rfl rfl) ?_
          refine JO.nil ?_
          refine J.condT rfl rfl ?_
          refine J.seq rfl ?_
          refine J.region rfl ?_
          refine JO.effR rfl rfl rfl (Eff.call rfl (firstEx_ok)) ?_
          refine JO.pur rfl rfl rfl (Pur.assign rfl) ?_
          refine JO.nil ?_
          refine J.ret rfl rfl ?_
          exact ⟨_, _, ⟨rfl, rfl⟩, rfl, SubC.out⟩
        · try simp only [decide_eq_true_eq, decide_eq_false_iff_not, Bool.not_eq_true', Bool.not_eq_false', Bool.and_eq_true, Bool.or_eq_true, Bool.and_eq_false_iff, Bool.or_eq_false_iff, Option.isNone_some, Option.isSome_some, Option.isNone_none, Option.isSome_none, Int.not_lt, Int.not_le, beq_iff_eq, beq_eq_false_iff_ne, bne_iff_ne, ne_eq, Bool.not_not, Decidable.not_not] at h31
          refine JO.pur rfl rfl rfl (Pur.move rfl) ?_
          refine JO.pur rfl rfl rfl (Pur.lss rfl rfl) ?_
          refine JO.pur rfl rfl rfl (Pur.pickF rfl rfl) ?_
          refine JO.pur rfl rfl rfl (Pur.move rfl) ?_
          refine JO.splitB 35 rfl (fun h35 => ?_) (fun h35 => ?_)
          · try simp only [decide_eq_true_eq, decide_eq_false_iff_not, Bool.not_eq_true', Bool.not_eq_false', Bool.and_eq_true, Bool.or_eq_true, Bool.and_eq_false_iff, Bool.or_eq_false_iff, Option.isNone_some, Option.isSome_some, Option.isNone_none, Option.isSome_none, Int.not_lt, Int.not_le, beq_iff_eq, beq_eq_false_iff_ne, bne_iff_ne, ne_eq, Bool.not_not, Decidable.not_not] at h35
            refine JO.no rfl rfl rfl ?_
            refine JO.no rfl rfl rfl ?_
            refine JO.no rfl rfl rfl ?_
            refine JO.no rfl rfl rfl ?_
            refine JO.pur rfl rfl rfl (Pur.pickT rfl rfl) ?_
            refine JO.pur rfl rfl rfl (Pur.move rfl) ?_
            refine JO.no rfl rfl rfl ?_
            refine JO.no rfl rfl rfl ?_
            refine JO.no rfl rfl rfl ?_
            refine JO.pur rfl rfl rfl (Pur.pickT rfl rfl) ?_
            refine JO.nil ?_
            refine J.condT rfl rfl ?_
            refine J.seq rfl ?_
            refine J.region rfl ?_
            refine JO.effR rfl rfl rfl (Eff.call rfl (firstEx_ok)) ?_
            refine JO.pur rfl rfl rfl (Pur.assign rfl) ?_
            refine JO.nil ?_
            refine J.ret rfl rfl ?_
            exact ⟨_, _, ⟨rfl, rfl⟩, rfl, SubC.out⟩
          · try simp only [decide_eq_true_eq, decide_eq_false_iff_not, Bool.not_eq_true', Bool.not_eq_false', Bool.and_eq_true, Bool.or_eq_true, Bool.and_eq_false_iff, Bool.or_eq_false_iff, Option.isNone_some, Option.isSome_some, Option.isNone_none, Option.isSome_none, Int.not_lt, Int.not_le, beq_iff_eq, beq_eq_false_iff_ne, bne_iff_ne, ne_eq, Bool.not_not, Decidable.not_not] at h35
            refine JO.pur rfl rfl rfl (Pur.move rfl) ?_
            refine JO.pur rfl rfl rfl (Pur.move rfl) ?_
            refine JO.pur rfl rfl rfl (Pur.len rfl) ?_
            refine JO.pur rfl rfl rfl (Pur.geq rfl rfl) ?_
            refine JO.pur rfl rfl rfl (Pur.pickF rfl rfl) ?_
            refine JO.pur rfl rfl rfl (Pur.move rfl) ?_
            refine JO.splitB 41 rfl (fun h41 => ?_) (fun h41 => ?_)
            · try simp only [decide_eq_true_eq, decide_eq_false_iff_not, Bool.not_eq_true', Bool.not_eq_false', Bool.and_eq_true, Bool.or_eq_true, Bool.and_eq_false_iff, Bool.or_eq_false_iff, Option.isNone_some, Option.isSome_some, Option.isNone_none, Option.isSome_none, Int.not_lt, Int.not_le, beq_iff_eq, beq_eq_false_iff_ne, bne_iff_ne, ne_eq, Bool.not_not, Decidable.not_not] at h41
              refine JO.no rfl rfl rfl ?_
              refine JO.no rfl rfl rfl ?_
              refine JO.no rfl rfl rfl ?_
              refine JO.pur rfl rfl rfl (Pur.pickT rfl rfl) ?_
              refine JO.nil ?_
              refine J.condT rfl rfl ?_
              refine J.seq rfl ?_
              refine J.region rfl ?_
              refine JO.effR rfl rfl rfl (Eff.call rfl (firstEx_ok)) ?_
              refine JO.pur rfl rfl rfl (Pur.assign rfl) ?_
              refine JO.nil ?_
              refine J.ret rfl rfl ?_
              exact ⟨_, _, ⟨rfl, rfl⟩, rfl, SubC.out⟩
            · try simp only [decide_eq_true_eq, decide_eq_false_iff_not, Bool.not_eq_true', Bool.not_eq_false', Bool.and_eq_true, Bool.or_eq_true, Bool.and_eq_false_iff, Bool.or_eq_false_iff, Option.isNone_some, Option.isSome_some, Option.isNone_none, Option.isSome_none, Int.not_lt, Int.not_le, beq_iff_eq, beq_eq_false_iff_ne, bne_iff_ne, ne_eq, Bool.not_not, Decidable.not_not] at h41
              refine JO.pur rfl rfl rfl (Pur.move rfl) ?_
              refine JO.pur rfl rfl rfl (Pur.move rfl) ?_
              refine JO.pur rfl rfl rfl (Pur.eqlI rfl rfl) ?_
              refine JO.pur rfl rfl rfl (Pur.pickF rfl rfl) ?_
              refine JO.nil ?_
              refine J.splitB 45 rfl (fun h45 => ?_) (fun h45 => ?_)
              · try simp only [decide_eq_true_eq, decide_eq_false_iff_not, Bool.not_eq_true', Bool.not_eq_false', Bool.and_eq_true, Bool.or_eq_true, Bool.and_eq_false_iff, Bool.or_eq_false_iff, Option.isNone_some, Option.isSome_some, Option.isNone_none, Option.isSome_none, Int.not_lt, Int.not_le, beq_iff_eq, beq_eq_false_iff_ne, bne_iff_ne, ne_eq, Bool.not_not, Decidable.not_not] at h45
                refine J.condT rfl rfl ?_
                refine J.seq rfl ?_
                refine J.region rfl ?_
                refine JO.effR rfl rfl rfl (Eff.call rfl (firstEx_ok)) ?_
                refine JO.pur rfl rfl rfl (Pur.assign rfl) ?_
                refine JO.nil ?_
                refine J.ret rfl rfl ?_
                exact ⟨_, _, ⟨rfl, rfl⟩, rfl, SubC.out⟩
              · try simp only [decide_eq_true_eq, decide_eq_false_iff_not, Bool.not_eq_true', Bool.not_eq_false', Bool.and_eq_true, Bool.or_eq_true, Bool.and_eq_false_iff, Bool.or_eq_false_iff, Option.isNone_some, Option.isSome_some, Option.isNone_none, Option.isSome_none, Int.not_lt, Int.not_le, beq_iff_eq, beq_eq_false_iff_ne, bne_iff_ne, ne_eq, Bool.not_not, Decidable.not_not] at h45
                have hR : rightB xs = true := by simpa using h21
                have hf := right_fine hR
                have hlen := right_len hR
                have hbi : badI xs.length i = false := by unfold badI; simp; omega
                have hbk : badI xs.length k = false := by unfold badI; simp; omega
                have hak : askE xs [i, k] = 0 := ask_ok hR (by rw [any2, hbi, hbk]; rfl)
                have hai : askE xs [i] = 0 := ask_ok hR (by rw [any1, hbi])
                have hakk : askE xs [k] = 0 := ask_ok hR (by rw [any1, hbk])
                have hci : clkR xs i = clkAt xs i.toNat := by unfold clkR; rw [if_pos hai]
                have hck : clkR xs k = clkAt xs k.toNat := by unfold clkR; rw [if_pos hakk]
                have hti : i = ((i.toNat : Nat) : Int) := (Int.toNat_of_nonneg (by omega)).symm
                have l1 := clkAt_len hf (show i.toNat < xs.length by omega)
                have l2 := clkAt_len hf (show k.toNat < xs.length by omega)
                have t1 := tk_lt hf (show i.toNat < xs.length by omega)
                have htk : (Ck.ev xs i.toNat).task = ((tk xs i.toNat : Nat) : Int) := (Int.toNat_of_nonneg (hf i.toNat (by omega)).t0).symm
                have hbv : befR xs i k = decide ((clkAt xs i.toNat).getD (tk xs i.toNat) 0 ≤ (clkAt xs k.toNat).getD (tk xs i.toNat) 0) := by unfold befR befV; rw [if_pos hak, decide_eq_true (show i.toNat ≠ k.toNat by omega)]; rfl
                refine J.condF rfl rfl ?_
                refine J.skip rfl ?_
                refine J.seq rfl ?_
                refine J.region rfl ?_
                refine JO.pur rfl rfl rfl (Pur.move rfl) ?_
                refine JO.pur rfl rfl rfl (Pur.move rfl) ?_
                refine JO.pur rfl rfl rfl (Pur.move rfl) ?_
                refine JO.effR rfl rfl rfl (Eff.call rfl (Before_ok rfl hb i k)) ?_
                refine JO.pur rfl rfl rfl (Pur.move rfl) ?_
                refine JO.pur rfl rfl rfl (Pur.extract rfl rfl) ?_
                refine JO.pur rfl rfl rfl (Pur.extract rfl rfl) ?_
                refine JO.pur rfl rfl rfl (Pur.assign rfl) ?_
                refine JO.pur rfl rfl rfl (Pur.assign rfl) ?_
                refine JO.nil ?_
                refine J.seq rfl ?_
                refine J.region rfl ?_
                refine JO.pur rfl rfl rfl (Pur.move rfl) ?_
                refine JO.pur rfl rfl rfl (Pur.move rfl) ?_
                refine JO.eff rfl rfl rfl (Eff.call rfl (Clock_ok rfl hb i)) ?_
                rintro _ _ ⟨a57, c57, cs57, e57, rfl, rfl⟩
                rw [hci] at e57
                subst e57
                refine JO.pur rfl rfl rfl (Pur.move rfl) ?_
                refine JO.pur rfl rfl rfl (Pur.extract rfl rfl) ?_
                refine JO.pur rfl rfl rfl (Pur.extract rfl rfl) ?_
                refine JO.pur rfl rfl rfl (Pur.assign rfl) ?_
                refine JO.pur rfl rfl rfl (Pur.assign rfl) ?_
                refine JO.nil ?_
                refine J.seq rfl ?_
                refine J.region rfl ?_
                refine JO.pur rfl rfl rfl (Pur.move rfl) ?_
                refine JO.pur rfl rfl rfl (Pur.move rfl) ?_
                refine JO.eff rfl rfl rfl (Eff.call rfl (Clock_ok rfl hb k)) ?_
                rintro _ _ ⟨a63, c63, cs63, e63, rfl, rfl⟩
                rw [hck] at e63
                subst e63
                refine JO.pur rfl rfl rfl (Pur.move rfl) ?_
                refine JO.pur rfl rfl rfl (Pur.extract rfl rfl) ?_
                refine JO.pur rfl rfl rfl (Pur.extract rfl rfl) ?_
                refine JO.pur rfl rfl rfl (Pur.assign rfl) ?_
                refine JO.pur rfl rfl rfl (Pur.assign rfl) ?_
                refine JO.nil ?_
                refine J.seq rfl ?_
                refine J.region rfl ?_
                refine JO.pur rfl rfl rfl (Pur.move rfl) ?_
                refine JO.pur rfl rfl rfl (Pur.move rfl) ?_
                refine JO.pur rfl rfl rfl (Pur.idx rfl rfl rfl (by first | rfl | (simp; done) | omega) hti (by omega)) ?_
                refine JO.pur rfl rfl rfl (Pur.fieldAddr rfl) ?_
                refine JO.pur rfl rfl rfl (Pur.load rfl (CellIn.el rfl (ev_get (by omega)) rfl)) ?_
                refine JO.pur rfl rfl rfl (Pur.assign rfl) ?_
                refine JO.nil ?_
                refine J.seq rfl ?_
                refine J.seq rfl ?_
                refine J.region rfl ?_
                refine JO.pur rfl rfl rfl (Pur.move rfl) ?_
                refine JO.pur rfl rfl rfl (Pur.neqI rfl rfl) ?_
                refine JO.pur rfl rfl rfl (Pur.move rfl) ?_
                refine JO.setv (u' := .bool false) 73 rfl (congrArg Value.bool (decide_eq_false (by simp [hak]))) ?_
                refine JO.pur rfl rfl rfl (Pur.move rfl) ?_
                refine JO.pur rfl rfl rfl (Pur.neqI rfl rfl) ?_
                refine JO.pur rfl rfl rfl (Pur.pickF rfl rfl) ?_
                refine JO.pur rfl rfl rfl (Pur.move rfl) ?_
                refine JO.setv (u' := .bool false) 77 rfl (congrArg Value.bool (decide_eq_false (by simp [hai]))) ?_
                refine JO.pur rfl rfl rfl (Pur.move rfl) ?_
                refine JO.pur rfl rfl rfl (Pur.neqI rfl rfl) ?_
                refine JO.pur rfl rfl rfl (Pur.pickF rfl rfl) ?_
                refine JO.pur rfl rfl rfl (Pur.move rfl) ?_
                refine JO.setv (u' := .bool false) 81 rfl (congrArg Value.bool (decide_eq_false (by simp [hakk]))) ?_
                refine JO.pur rfl rfl rfl (Pur.move rfl) ?_
                refine JO.pur rfl rfl rfl (Pur.move rfl) ?_
                refine JO.pur rfl rfl rfl (Pur.len rfl) ?_
                refine JO.pur rfl rfl rfl (Pur.geq rfl rfl) ?_
                refine JO.pur rfl rfl rfl (Pur.pickF rfl rfl) ?_
                refine JO.pur rfl rfl rfl (Pur.move rfl) ?_
                refine JO.setv (u' := .bool false) 87 rfl (congrArg Value.bool (decide_eq_false (by omega))) ?_
                refine JO.pur rfl rfl rfl (Pur.move rfl) ?_
                refine JO.pur rfl rfl rfl (Pur.len rfl) ?_
                refine JO.pur rfl rfl rfl (Pur.move rfl) ?_
                refine JO.pur rfl rfl rfl (Pur.len rfl) ?_
                refine JO.pur rfl rfl rfl (Pur.neqI rfl rfl) ?_
                refine JO.pur rfl rfl rfl (Pur.pickF rfl rfl) ?_
                refine JO.nil ?_
                refine J.setv (u' := .bool false) 93 rfl (congrArg Value.bool (decide_eq_false (by omega))) ?_
                refine J.condF rfl rfl ?_
                refine J.skip rfl ?_
                refine J.seq rfl ?_
                refine J.quiet rfl Try.mixed (by kernel_rfl) ?_
                refine JQ.pur rfl rfl rfl (Pur.move rfl) ?_
                refine JQ.pur rfl rfl rfl (Pur.move rfl) ?_
                refine JQ.pur rfl rfl rfl (Pur.move rfl) ?_
                refine JQ.pur rfl rfl rfl (Pur.idx rfl rfl rfl (by first | rfl | (simp; done) | omega) htk (by omega)) ?_
                refine JQ.pur rfl rfl rfl (Pur.load rfl (CellIn.el0 (a := a63) rfl (getD_get (d := 0) (by omega)) rfl)) ?_
                refine JQ.pur rfl rfl rfl (Pur.move rfl) ?_
                refine JQ.pur rfl rfl rfl (Pur.move rfl) ?_
                refine JQ.pur rfl rfl rfl (Pur.idx rfl rfl rfl (by first | rfl | (simp; done) | omega) htk (by omega)) ?_
                refine JQ.pur rfl rfl rfl (Pur.load rfl (CellIn.el0 (a := a57) rfl (getD_get (d := 0) (by omega)) rfl)) ?_
                refine JQ.pur rfl rfl rfl (Pur.geq rfl rfl) ?_
                refine JQ.pur rfl rfl rfl (Pur.eqlB rfl rfl) ?_
                refine JQ.pur rfl rfl rfl (Pur.move rfl) ?_
                refine JQ.setv (u' := .bool true) 105 rfl (congrArg Value.bool (by rw [hbv]; simp)) ?_
                refine JQ.callE rfl rfl rfl (firstEx_ok) ?_
                refine JQ.pur rfl rfl rfl (Pur.pickT rfl rfl) ?_
                refine JQ.pur rfl rfl rfl (Pur.assign rfl) ?_
                refine JQ.nil ?_
                refine J.ret rfl rfl ?_
                exact ⟨_, _, ⟨rfl, rfl⟩, rfl, SubC.out⟩

end Go.Proofs.Ytekgkamjbnfgiaa
