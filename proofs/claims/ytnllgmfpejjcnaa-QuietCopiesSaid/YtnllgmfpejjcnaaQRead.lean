/-
  A part of the proof of the claim that this folder bears.
  This text: QRead.
-/
import Derived.Test.YtnllgmfpejjcnaaQRing2
import Derived.Test.YtnllgmfpejjcnaaQRef1
set_option linter.unusedVariables false
set_option linter.unusedSimpArgs false
namespace Go.Proofs.Ytnllgmfpejjcnaa
open Go Go.KK Qt

theorem toldR {L : List Asn} {r : Nat} {σ : St} {a b : Option Addr} {cap cap2 : Nat} [BlkIn L r (.cells #[.slice a σ.spots.length cap, .slice b σ.fly.length cap2, .int .i64 σ.pos, .int .i64 σ.sum, .bool σ.dark, .bool σ.fresh, .bool σ.told, .int .i64 σ.passes] 45 (0, 0))] [SlIn spotE L a σ.spots] [SlIn pairE L b σ.fly] {N : Nat} (hw : Wf σ N) (hb : b = none → σ.fly.length = 0 ∧ cap2 = 0) :
    CallS Try.prog 16 [.pointer (some ⟨r, 0, none⟩)].toArray L (fun v M => v = .bool σ.told ∧ M = L) := by
  obtain ⟨w1, w2, w3, w4, w5, w55, w6, w7⟩ := hw
  refine CallS.enter Try.func16 rfl rfl rfl rfl rfl ?_
  refine J.seq rfl ?_
  refine J.region rfl ?_
  refine JO.pur rfl rfl rfl (Pur.assign rfl) ?_
  refine JO.nil ?_
  refine J.seq rfl ?_
  refine J.region rfl ?_
  refine JO.pur rfl rfl rfl (Pur.move rfl) ?_
  refine JO.effR rfl rfl rfl (Eff.call rfl (none_ok)) ?_
  refine JO.pur rfl rfl rfl (Pur.not rfl) ?_
  refine JO.pur rfl rfl rfl (Pur.move rfl) ?_
  refine JO.splitB 6 rfl (fun h6 => ?_) (fun h6 => ?_)
  · try simp only [decide_eq_true_eq, decide_eq_false_iff_not, Bool.not_eq_true', Bool.not_eq_false', Bool.and_eq_true, Bool.or_eq_true, Bool.and_eq_false_iff, Bool.or_eq_false_iff, Option.isNone_some, Option.isSome_some, Option.isNone_none, Option.isSome_none, Int.not_lt, Int.not_le, beq_iff_eq, beq_eq_false_iff_ne, bne_iff_ne, ne_eq, Bool.not_not, Decidable.not_not] at h6
    first
    | (exfalso; omega)
    | refine JO.pur rfl rfl rfl (Pur.move rfl) ?_
      refine JO.pur rfl rfl rfl (Pur.nilCheck rfl) ?_
      refine JO.pur rfl rfl rfl (Pur.fieldAddr rfl) ?_
      refine JO.pur rfl rfl rfl (Pur.load rfl (CellIn.blk rfl)) ?_
      refine JO.pur rfl rfl rfl (Pur.pickT rfl rfl) ?_
      refine JO.pur rfl rfl rfl (Pur.assign rfl) ?_
      refine JO.nil ?_
      refine J.ret rfl rfl ?_
      exact ⟨rfl, rfl⟩
  · try simp only [decide_eq_true_eq, decide_eq_false_iff_not, Bool.not_eq_true', Bool.not_eq_false', Bool.and_eq_true, Bool.or_eq_true, Bool.and_eq_false_iff, Bool.or_eq_false_iff, Option.isNone_some, Option.isSome_some, Option.isNone_none, Option.isSome_none, Int.not_lt, Int.not_le, beq_iff_eq, beq_eq_false_iff_ne, bne_iff_ne, ne_eq, Bool.not_not, Decidable.not_not] at h6
    first
    | (exfalso; omega)
    | refine JO.no rfl rfl rfl ?_
      refine JO.no rfl rfl rfl ?_
      refine JO.no rfl rfl rfl ?_
      refine JO.no rfl rfl rfl ?_
      refine JO.pur rfl rfl rfl (Pur.pickF rfl rfl) ?_
      refine JO.pur rfl rfl rfl (Pur.assign rfl) ?_
      refine JO.nil ?_
      refine J.ret rfl rfl ?_
      exact ⟨rfl, rfl⟩

theorem passesR {L : List Asn} {r : Nat} {σ : St} {a b : Option Addr} {cap cap2 : Nat} [BlkIn L r (.cells #[.slice a σ.spots.length cap, .slice b σ.fly.length cap2, .int .i64 σ.pos, .int .i64 σ.sum, .bool σ.dark, .bool σ.fresh, .bool σ.told, .int .i64 σ.passes] 45 (0, 0))] [SlIn spotE L a σ.spots] [SlIn pairE L b σ.fly] {N : Nat} (hw : Wf σ N) (hb : b = none → σ.fly.length = 0 ∧ cap2 = 0) :
    CallS Try.prog 27 [.pointer (some ⟨r, 0, none⟩)].toArray L (fun v M => v = .int .i64 σ.passes ∧ M = L) := by
  obtain ⟨w1, w2, w3, w4, w5, w55, w6, w7⟩ := hw
  refine CallS.enter Try.func27 rfl rfl rfl rfl rfl ?_
  refine J.seq rfl ?_
  refine J.region rfl ?_
  refine JO.pur rfl rfl rfl (Pur.assign rfl) ?_
  refine JO.nil ?_
  refine J.seq rfl ?_
  refine J.seq rfl ?_
  refine J.region rfl ?_
  refine JO.pur rfl rfl rfl (Pur.move rfl) ?_
  refine JO.effR rfl rfl rfl (Eff.call rfl (none_ok)) ?_
  refine JO.nil ?_
  refine J.splitB 4 rfl (fun h4 => ?_) (fun h4 => ?_)
  · try simp only [decide_eq_true_eq, decide_eq_false_iff_not, Bool.not_eq_true', Bool.not_eq_false', Bool.and_eq_true, Bool.or_eq_true, Bool.and_eq_false_iff, Bool.or_eq_false_iff, Option.isNone_some, Option.isSome_some, Option.isNone_none, Option.isSome_none, Int.not_lt, Int.not_le, beq_iff_eq, beq_eq_false_iff_ne, bne_iff_ne, ne_eq, Bool.not_not, Decidable.not_not] at h4
    first
    | (exfalso; omega)
    | refine J.condT rfl rfl ?_
      refine J.seq rfl ?_
      refine J.region rfl ?_
      refine JO.pur rfl rfl rfl (Pur.assign rfl) ?_
      refine JO.nil ?_
      refine J.ret rfl rfl ?_
      exact ⟨rfl, rfl⟩
  · try simp only [decide_eq_true_eq, decide_eq_false_iff_not, Bool.not_eq_true', Bool.not_eq_false', Bool.and_eq_true, Bool.or_eq_true, Bool.and_eq_false_iff, Bool.or_eq_false_iff, Option.isNone_some, Option.isSome_some, Option.isNone_none, Option.isSome_none, Int.not_lt, Int.not_le, beq_iff_eq, beq_eq_false_iff_ne, bne_iff_ne, ne_eq, Bool.not_not, Decidable.not_not] at h4
    first
    | (exfalso; omega)
    | refine J.condF rfl rfl ?_
      refine J.skip rfl ?_
      refine J.seq rfl ?_
      refine J.region rfl ?_
      refine JO.pur rfl rfl rfl (Pur.move rfl) ?_
      refine JO.pur rfl rfl rfl (Pur.nilCheck rfl) ?_
      refine JO.pur rfl rfl rfl (Pur.fieldAddr rfl) ?_
      refine JO.pur rfl rfl rfl (Pur.load rfl (CellIn.blk rfl)) ?_
      refine JO.pur rfl rfl rfl (Pur.assign rfl) ?_
      refine JO.nil ?_
      refine J.ret rfl rfl ?_
      exact ⟨rfl, rfl⟩

theorem tokenR {L : List Asn} {r : Nat} {σ : St} {a b : Option Addr} {cap cap2 : Nat} [BlkIn L r (.cells #[.slice a σ.spots.length cap, .slice b σ.fly.length cap2, .int .i64 σ.pos, .int .i64 σ.sum, .bool σ.dark, .bool σ.fresh, .bool σ.told, .int .i64 σ.passes] 45 (0, 0))] [SlIn spotE L a σ.spots] [SlIn pairE L b σ.fly] {N : Nat} (hw : Wf σ N) (hb : b = none → σ.fly.length = 0 ∧ cap2 = 0) :
    CallS Try.prog 23 [.pointer (some ⟨r, 0, none⟩)].toArray L (fun v M => v = .tuple #[.int .i64 σ.pos, .int .i64 σ.sum, .bool σ.dark, .int .i64 0] ∧ M = L) := by
  obtain ⟨w1, w2, w3, w4, w5, w55, w6, w7⟩ := hw
  refine CallS.enter Try.func23 rfl rfl rfl rfl rfl ?_
  refine J.seq rfl ?_
  refine J.region rfl ?_
  refine JO.pur rfl rfl rfl (Pur.assign rfl) ?_
  refine JO.pur rfl rfl rfl (Pur.assign rfl) ?_
  refine JO.pur rfl rfl rfl (Pur.assign rfl) ?_
  refine JO.pur rfl rfl rfl (Pur.assign rfl) ?_
  refine JO.nil ?_
  refine J.seq rfl ?_
  refine J.seq rfl ?_
  refine J.region rfl ?_
  refine JO.pur rfl rfl rfl (Pur.move rfl) ?_
  refine JO.effR rfl rfl rfl (Eff.call rfl (none_ok)) ?_
  refine JO.nil ?_
  refine J.splitB 7 rfl (fun h7 => ?_) (fun h7 => ?_)
  · try simp only [decide_eq_true_eq, decide_eq_false_iff_not, Bool.not_eq_true', Bool.not_eq_false', Bool.and_eq_true, Bool.or_eq_true, Bool.and_eq_false_iff, Bool.or_eq_false_iff, Option.isNone_some, Option.isSome_some, Option.isNone_none, Option.isSome_none, Int.not_lt, Int.not_le, beq_iff_eq, beq_eq_false_iff_ne, bne_iff_ne, ne_eq, Bool.not_not, Decidable.not_not] at h7
    first
    | (exfalso; omega)
    | refine J.condT rfl rfl ?_
      refine J.seq rfl ?_
      refine J.region rfl ?_
      refine JO.pur rfl rfl rfl (Pur.assign rfl) ?_
      refine JO.pur rfl rfl rfl (Pur.assign rfl) ?_
      refine JO.pur rfl rfl rfl (Pur.assign rfl) ?_
      refine JO.pur rfl rfl rfl (Pur.assign rfl) ?_
      refine JO.nil ?_
      refine J.ret rfl rfl ?_
      exact ⟨rfl, rfl⟩
  · try simp only [decide_eq_true_eq, decide_eq_false_iff_not, Bool.not_eq_true', Bool.not_eq_false', Bool.and_eq_true, Bool.or_eq_true, Bool.and_eq_false_iff, Bool.or_eq_false_iff, Option.isNone_some, Option.isSome_some, Option.isNone_none, Option.isSome_none, Int.not_lt, Int.not_le, beq_iff_eq, beq_eq_false_iff_ne, bne_iff_ne, ne_eq, Bool.not_not, Decidable.not_not] at h7
    first
    | (exfalso; omega)
    | refine J.condF rfl rfl ?_
      refine J.skip rfl ?_
      refine J.seq rfl ?_
      refine J.quiet rfl Try.mixed (by kernel_rfl) ?_
      refine JQ.pur rfl rfl rfl (Pur.move rfl) ?_
      refine JQ.pur rfl rfl rfl (Pur.nilCheck rfl) ?_
      refine JQ.pur rfl rfl rfl (Pur.fieldAddr rfl) ?_
      refine JQ.pur rfl rfl rfl (Pur.load rfl (CellIn.blk rfl)) ?_
      refine JQ.pur rfl rfl rfl (Pur.move rfl) ?_
      refine JQ.pur rfl rfl rfl (Pur.nilCheck rfl) ?_
      refine JQ.pur rfl rfl rfl (Pur.fieldAddr rfl) ?_
      refine JQ.pur rfl rfl rfl (Pur.load rfl (CellIn.blk rfl)) ?_
      refine JQ.pur rfl rfl rfl (Pur.move rfl) ?_
      refine JQ.pur rfl rfl rfl (Pur.nilCheck rfl) ?_
      refine JQ.pur rfl rfl rfl (Pur.fieldAddr rfl) ?_
      refine JQ.pur rfl rfl rfl (Pur.load rfl (CellIn.blk rfl)) ?_
      refine JQ.pur rfl rfl rfl (Pur.assign rfl) ?_
      refine JQ.pur rfl rfl rfl (Pur.assign rfl) ?_
      refine JQ.pur rfl rfl rfl (Pur.assign rfl) ?_
      refine JQ.pur rfl rfl rfl (Pur.assign rfl) ?_
      refine JQ.nil ?_
      refine J.ret rfl rfl ?_
      exact ⟨rfl, rfl⟩

theorem toldF {L : List Asn} {r : Nat} {σ : St} {a1 a2 a3 a4 : Option Addr} {c1 c2 c3 c4 : Nat} [BlkIn L r (.cells #[.int .i64 σ.spots.length, .slice a1 σ.spots.length c1, .slice a2 σ.spots.length c2, .slice a3 σ.spots.length c3, .slice a4 σ.fly.length c4, .int .i64 σ.pos, .int .i64 σ.sum, .bool σ.dark, .bool σ.fresh, .bool σ.told, .int .i64 σ.passes] 64 (0, 0))] [SlIn boolE L a1 (σ.spots.map (·.active))] [SlIn intE L a3 (σ.spots.map (·.count))] [SlIn pairE L a4 σ.fly] {N : Nat} (hw : Wf σ N) :
    CallS Try.prog 40 [.pointer (some ⟨r, 0, none⟩)].toArray L (fun v M => v = .bool σ.told ∧ M = L) := by
  obtain ⟨w1, w2, w3, w4, w5, w55, w6, w7⟩ := hw
  refine CallS.enter Try.func40 rfl rfl rfl rfl rfl ?_
  refine J.seq rfl ?_
  refine J.region rfl ?_
  refine JO.pur rfl rfl rfl (Pur.assign rfl) ?_
  refine JO.nil ?_
  refine J.seq rfl ?_
  refine J.region rfl ?_
  refine JO.pur rfl rfl rfl (Pur.move rfl) ?_
  refine JO.pur rfl rfl rfl (Pur.nilCheck rfl) ?_
  refine JO.pur rfl rfl rfl (Pur.fieldAddr rfl) ?_
  refine JO.pur rfl rfl rfl (Pur.load rfl (CellIn.blk rfl)) ?_
  refine JO.pur rfl rfl rfl (Pur.assign rfl) ?_
  refine JO.nil ?_
  refine J.ret rfl rfl ?_
  exact ⟨rfl, rfl⟩

theorem passesF {L : List Asn} {r : Nat} {σ : St} {a1 a2 a3 a4 : Option Addr} {c1 c2 c3 c4 : Nat} [BlkIn L r (.cells #[.int .i64 σ.spots.length, .slice a1 σ.spots.length c1, .slice a2 σ.spots.length c2, .slice a3 σ.spots.length c3, .slice a4 σ.fly.length c4, .int .i64 σ.pos, .int .i64 σ.sum, .bool σ.dark, .bool σ.fresh, .bool σ.told, .int .i64 σ.passes] 64 (0, 0))] [SlIn boolE L a1 (σ.spots.map (·.active))] [SlIn intE L a3 (σ.spots.map (·.count))] [SlIn pairE L a4 σ.fly] {N : Nat} (hw : Wf σ N) :
    CallS Try.prog 42 [.pointer (some ⟨r, 0, none⟩)].toArray L (fun v M => v = .int .i64 σ.passes ∧ M = L) := by
  obtain ⟨w1, w2, w3, w4, w5, w55, w6, w7⟩ := hw
  refine CallS.enter Try.func42 rfl rfl rfl rfl rfl ?_
  refine J.seq rfl ?_
  refine J.region rfl ?_
  refine JO.pur rfl rfl rfl (Pur.assign rfl) ?_
  refine JO.nil ?_
  refine J.seq rfl ?_
  refine J.region rfl ?_
  refine JO.pur rfl rfl rfl (Pur.move rfl) ?_
  refine JO.pur rfl rfl rfl (Pur.nilCheck rfl) ?_
  refine JO.pur rfl rfl rfl (Pur.fieldAddr rfl) ?_
  refine JO.pur rfl rfl rfl (Pur.load rfl (CellIn.blk rfl)) ?_
  refine JO.pur rfl rfl rfl (Pur.assign rfl) ?_
  refine JO.nil ?_
  refine J.ret rfl rfl ?_
  exact ⟨rfl, rfl⟩

theorem tokenF {L : List Asn} {r : Nat} {σ : St} {a1 a2 a3 a4 : Option Addr} {c1 c2 c3 c4 : Nat} [BlkIn L r (.cells #[.int .i64 σ.spots.length, .slice a1 σ.spots.length c1, .slice a2 σ.spots.length c2, .slice a3 σ.spots.length c3, .slice a4 σ.fly.length c4, .int .i64 σ.pos, .int .i64 σ.sum, .bool σ.dark, .bool σ.fresh, .bool σ.told, .int .i64 σ.passes] 64 (0, 0))] [SlIn boolE L a1 (σ.spots.map (·.active))] [SlIn intE L a3 (σ.spots.map (·.count))] [SlIn pairE L a4 σ.fly] {N : Nat} (hw : Wf σ N) :
    CallS Try.prog 39 [.pointer (some ⟨r, 0, none⟩)].toArray L (fun v M => v = .tuple #[.int .i64 σ.pos, .int .i64 σ.sum, .bool σ.dark] ∧ M = L) := by
  obtain ⟨w1, w2, w3, w4, w5, w55, w6, w7⟩ := hw
  refine CallS.enter Try.func39 rfl rfl rfl rfl rfl ?_
  refine J.seq rfl ?_
  refine J.region rfl ?_
  refine JO.pur rfl rfl rfl (Pur.assign rfl) ?_
  refine JO.pur rfl rfl rfl (Pur.assign rfl) ?_
  refine JO.pur rfl rfl rfl (Pur.assign rfl) ?_
  refine JO.nil ?_
  refine J.seq rfl ?_
  refine J.quiet rfl Try.mixed (by kernel_rfl) ?_
  refine JQ.pur rfl rfl rfl (Pur.move rfl) ?_
  refine JQ.pur rfl rfl rfl (Pur.nilCheck rfl) ?_
  refine JQ.pur rfl rfl rfl (Pur.fieldAddr rfl) ?_
  refine JQ.pur rfl rfl rfl (Pur.load rfl (CellIn.blk rfl)) ?_
  refine JQ.pur rfl rfl rfl (Pur.move rfl) ?_
  refine JQ.pur rfl rfl rfl (Pur.nilCheck rfl) ?_
  refine JQ.pur rfl rfl rfl (Pur.fieldAddr rfl) ?_
  refine JQ.pur rfl rfl rfl (Pur.load rfl (CellIn.blk rfl)) ?_
  refine JQ.pur rfl rfl rfl (Pur.move rfl) ?_
  refine JQ.pur rfl rfl rfl (Pur.nilCheck rfl) ?_
  refine JQ.pur rfl rfl rfl (Pur.fieldAddr rfl) ?_
  refine JQ.pur rfl rfl rfl (Pur.load rfl (CellIn.blk rfl)) ?_
  refine JQ.pur rfl rfl rfl (Pur.assign rfl) ?_
  refine JQ.pur rfl rfl rfl (Pur.assign rfl) ?_
  refine JQ.pur rfl rfl rfl (Pur.assign rfl) ?_
  refine JQ.nil ?_
  refine J.ret rfl rfl ?_
  exact ⟨rfl, rfl⟩

theorem countsF {L : List Asn} {r : Nat} {σ : St} {a1 a2 a3 a4 : Option Addr} {c1 c2 c3 c4 : Nat} [BlkIn L r (.cells #[.int .i64 σ.spots.length, .slice a1 σ.spots.length c1, .slice a2 σ.spots.length c2, .slice a3 σ.spots.length c3, .slice a4 σ.fly.length c4, .int .i64 σ.pos, .int .i64 σ.sum, .bool σ.dark, .bool σ.fresh, .bool σ.told, .int .i64 σ.passes] 64 (0, 0))] [SlIn boolE L a1 (σ.spots.map (·.active))] [SlIn intE L a3 (σ.spots.map (·.count))] [SlIn pairE L a4 σ.fly] {N : Nat} (hw : Wf σ N) :
    CallS Try.prog 45 [.pointer (some ⟨r, 0, none⟩)].toArray L (fun v M => v = .slice a3 σ.spots.length c3 ∧ M = L) := by
  obtain ⟨w1, w2, w3, w4, w5, w55, w6, w7⟩ := hw
  refine CallS.enter Try.func45 rfl rfl rfl rfl rfl ?_
  refine J.seq rfl ?_
  refine J.region rfl ?_
  refine JO.pur rfl rfl rfl (Pur.assign rfl) ?_
  refine JO.nil ?_
  refine J.seq rfl ?_
  refine J.region rfl ?_
  refine JO.pur rfl rfl rfl (Pur.move rfl) ?_
  refine JO.pur rfl rfl rfl (Pur.nilCheck rfl) ?_
  refine JO.pur rfl rfl rfl (Pur.fieldAddr rfl) ?_
  refine JO.pur rfl rfl rfl (Pur.load rfl (CellIn.blk rfl)) ?_
  refine JO.pur rfl rfl rfl (Pur.assign rfl) ?_
  refine JO.nil ?_
  refine J.ret rfl rfl ?_
  exact ⟨rfl, rfl⟩

theorem flyingF {L : List Asn} {r : Nat} {σ : St} {a1 a2 a3 a4 : Option Addr} {c1 c2 c3 c4 : Nat} [BlkIn L r (.cells #[.int .i64 σ.spots.length, .slice a1 σ.spots.length c1, .slice a2 σ.spots.length c2, .slice a3 σ.spots.length c3, .slice a4 σ.fly.length c4, .int .i64 σ.pos, .int .i64 σ.sum, .bool σ.dark, .bool σ.fresh, .bool σ.told, .int .i64 σ.passes] 64 (0, 0))] [SlIn boolE L a1 (σ.spots.map (·.active))] [SlIn intE L a3 (σ.spots.map (·.count))] [SlIn pairE L a4 σ.fly] {N : Nat} (hw : Wf σ N) :
    CallS Try.prog 14 [.pointer (some ⟨r, 0, none⟩)].toArray L (fun v M => v = .slice a4 σ.fly.length c4 ∧ M = L) := by
  obtain ⟨w1, w2, w3, w4, w5, w55, w6, w7⟩ := hw
  refine CallS.enter Try.func14 rfl rfl rfl rfl rfl ?_
  refine J.seq rfl ?_
  refine J.region rfl ?_
  refine JO.pur rfl rfl rfl (Pur.assign rfl) ?_
  refine JO.nil ?_
  refine J.seq rfl ?_
  refine J.region rfl ?_
  refine JO.pur rfl rfl rfl (Pur.move rfl) ?_
  refine JO.pur rfl rfl rfl (Pur.nilCheck rfl) ?_
  refine JO.pur rfl rfl rfl (Pur.fieldAddr rfl) ?_
  refine JO.pur rfl rfl rfl (Pur.load rfl (CellIn.blk rfl)) ?_
  refine JO.pur rfl rfl rfl (Pur.assign rfl) ?_
  refine JO.nil ?_
  refine J.ret rfl rfl ?_
  exact ⟨rfl, rfl⟩

theorem flyingR {L : List Asn} {r : Nat} {σ : St} {a b : Option Addr} {cap cap2 : Nat} [BlkIn L r (.cells #[.slice a σ.spots.length cap, .slice b σ.fly.length cap2, .int .i64 σ.pos, .int .i64 σ.sum, .bool σ.dark, .bool σ.fresh, .bool σ.told, .int .i64 σ.passes] 45 (0, 0))] [SlIn spotE L a σ.spots] [SlIn pairE L b σ.fly] {N : Nat} (hw : Wf σ N) (hb : b = none → σ.fly.length = 0 ∧ cap2 = 0) :
    CallS Try.prog 19 [.pointer (some ⟨r, 0, none⟩)].toArray L (fun v M => ∃ a' c', v = .slice a' (σ.fly).length c' ∧ M = sl pairE a' c' (σ.fly) :: L) := by
  obtain ⟨w1, w2, w3, w4, w5, w55, w6, w7⟩ := hw
  refine CallS.enter Try.func19 rfl rfl rfl rfl rfl ?_
  refine J.seq rfl ?_
  refine J.region rfl ?_
  refine JO.pur rfl rfl rfl (Pur.assign rfl) ?_
  refine JO.nil ?_
  refine J.seq rfl ?_
  refine J.seq rfl ?_
  refine J.region rfl ?_
  refine JO.pur rfl rfl rfl (Pur.move rfl) ?_
  refine JO.effR rfl rfl rfl (Eff.call rfl (none_ok)) ?_
  refine JO.nil ?_
  refine J.splitB 4 rfl (fun h4 => ?_) (fun h4 => ?_)
  · try simp only [decide_eq_true_eq, decide_eq_false_iff_not, Bool.not_eq_true', Bool.not_eq_false', Bool.and_eq_true, Bool.or_eq_true, Bool.and_eq_false_iff, Bool.or_eq_false_iff, Option.isNone_some, Option.isSome_some, Option.isNone_none, Option.isSome_none, Int.not_lt, Int.not_le, beq_iff_eq, beq_eq_false_iff_ne, bne_iff_ne, ne_eq, Bool.not_not, Decidable.not_not] at h4
    first
    | (exfalso; omega)
    | refine J.condT rfl rfl ?_
      refine J.seq rfl ?_
      refine J.region rfl ?_
      refine JO.pur rfl rfl rfl (Pur.assign rfl) ?_
      refine JO.nil ?_
      refine J.ret rfl rfl ?_
      omega
  · try simp only [decide_eq_true_eq, decide_eq_false_iff_not, Bool.not_eq_true', Bool.not_eq_false', Bool.and_eq_true, Bool.or_eq_true, Bool.and_eq_false_iff, Bool.or_eq_false_iff, Option.isNone_some, Option.isSome_some, Option.isNone_none, Option.isSome_none, Int.not_lt, Int.not_le, beq_iff_eq, beq_eq_false_iff_ne, bne_iff_ne, ne_eq, Bool.not_not, Decidable.not_not] at h4
    first
    | (exfalso; omega)
    | refine J.condF rfl rfl ?_
      refine J.skip rfl ?_
      refine J.seq rfl ?_
      refine J.region rfl ?_
      refine JO.pur rfl rfl rfl (Pur.move rfl) ?_
      refine JO.pur rfl rfl rfl (Pur.nilCheck rfl) ?_
      refine JO.pur rfl rfl rfl (Pur.fieldAddr rfl) ?_
      refine JO.pur rfl rfl rfl (Pur.load rfl (CellIn.blk rfl)) ?_
      refine JO.eff rfl rfl rfl (Eff.call rfl (clonePairs rfl (by omega) hb)) ?_
      rintro _ _ ⟨a9, c9, ⟨rfl, hn9⟩, rfl⟩
      refine JO.pur rfl rfl rfl (Pur.assign rfl) ?_
      refine JO.nil ?_
      refine J.ret rfl rfl ?_
      exact ⟨a9, c9, rfl, rfl⟩

theorem activeR {L : List Asn} {r : Nat} {σ : St} {a b : Option Addr} {cap cap2 : Nat} [BlkIn L r (.cells #[.slice a σ.spots.length cap, .slice b σ.fly.length cap2, .int .i64 σ.pos, .int .i64 σ.sum, .bool σ.dark, .bool σ.fresh, .bool σ.told, .int .i64 σ.passes] 45 (0, 0))] [SlIn spotE L a σ.spots] [SlIn pairE L b σ.fly] {N : Nat} (hw : Wf σ N) (hb : b = none → σ.fly.length = 0 ∧ cap2 = 0) :
    CallS Try.prog 20 [.pointer (some ⟨r, 0, none⟩)].toArray L (fun v M => ∃ a' c', v = .slice a' (actList σ).length c' ∧ M = sl intE a' c' (actList σ) :: L) := by
  obtain ⟨w1, w2, w3, w4, w5, w55, w6, w7⟩ := hw
  refine CallS.enter Try.func20 rfl rfl rfl rfl rfl ?_
  refine J.seq rfl ?_
  refine J.region rfl ?_
  refine JO.pur rfl rfl rfl (Pur.assign rfl) ?_
  refine JO.nil ?_
  refine J.seq rfl ?_
  refine J.seq rfl ?_
  refine J.region rfl ?_
  refine JO.pur rfl rfl rfl (Pur.move rfl) ?_
  refine JO.effR rfl rfl rfl (Eff.call rfl (none_ok)) ?_
  refine JO.nil ?_
  refine J.splitB 7 rfl (fun h7 => ?_) (fun h7 => ?_)
  · try simp only [decide_eq_true_eq, decide_eq_false_iff_not, Bool.not_eq_true', Bool.not_eq_false', Bool.and_eq_true, Bool.or_eq_true, Bool.and_eq_false_iff, Bool.or_eq_false_iff, Option.isNone_some, Option.isSome_some, Option.isNone_none, Option.isSome_none, Int.not_lt, Int.not_le, beq_iff_eq, beq_eq_false_iff_ne, bne_iff_ne, ne_eq, Bool.not_not, Decidable.not_not] at h7
    first
    | (exfalso; omega)
    | refine J.condT rfl rfl ?_
      refine J.seq rfl ?_
      refine J.region rfl ?_
      refine JO.pur rfl rfl rfl (Pur.assign rfl) ?_
      refine JO.nil ?_
      refine J.ret rfl rfl ?_
      omega
  · try simp only [decide_eq_true_eq, decide_eq_false_iff_not, Bool.not_eq_true', Bool.not_eq_false', Bool.and_eq_true, Bool.or_eq_true, Bool.and_eq_false_iff, Bool.or_eq_false_iff, Option.isNone_some, Option.isSome_some, Option.isNone_none, Option.isSome_none, Int.not_lt, Int.not_le, beq_iff_eq, beq_eq_false_iff_ne, bne_iff_ne, ne_eq, Bool.not_not, Decidable.not_not] at h7
    first
    | (exfalso; omega)
    | refine J.condF rfl rfl ?_
      refine J.skip rfl ?_
      refine J.seq rfl ?_
      refine J.region rfl ?_
      refine JO.pur rfl rfl rfl (Pur.assign rfl) ?_
      refine JO.nil ?_
      refine J.seq rfl ?_
      refine J.seq rfl ?_
      refine J.region rfl ?_
      refine JO.pur rfl rfl rfl (Pur.move rfl) ?_
      refine JO.pur rfl rfl rfl (Pur.nilCheck rfl) ?_
      refine JO.pur rfl rfl rfl (Pur.fieldAddr rfl) ?_
      refine JO.pur rfl rfl rfl (Pur.load rfl (CellIn.blk rfl)) ?_
      refine JO.pur rfl rfl rfl (Pur.len rfl) ?_
      refine JO.pur rfl rfl rfl (Pur.move rfl) ?_
      refine JO.nil ?_
      refine J.block rfl ?_
      refine J.loopF (ι := Nat × Option Addr × Nat) (fun i => i.1 ≤ σ.spots.length) (fun i => [(3, .slice i.2.1 (actPre σ i.1).length i.2.2), (13, .int .i64 (i.1 : Int))]) [(11, _), (12, _)] (fun i => sl intE i.2.1 i.2.2 (actPre σ i.1) :: L) (fun i => σ.spots.length - i.1) (0, none, 0) rfl (.cons rfl rfl (.cons rfl rfl .nil)) (.cons rfl rfl (.cons rfl rfl .nil)) (fun _ h => sl_nil_new h) (Nat.zero_le _) ?_
      rintro ⟨i, ao, co⟩ hi ih
      try dsimp only
      have hlen : (actPre σ i).length ≤ i := actPre_le σ i
      refine J.seq rfl ?_
      refine J.region rfl ?_
      refine JO.pur rfl rfl rfl (Pur.lss rfl rfl) ?_
      refine JO.nil ?_
      refine J.seq rfl ?_
      refine J.splitB 14 rfl (fun h14 => ?_) (fun h14 => ?_)
      · try simp only [decide_eq_true_eq, decide_eq_false_iff_not, Bool.not_eq_true', Bool.not_eq_false', Bool.and_eq_true, Bool.or_eq_true, Bool.and_eq_false_iff, Bool.or_eq_false_iff, Option.isNone_some, Option.isSome_some, Option.isNone_none, Option.isSome_none, Int.not_lt, Int.not_le, beq_iff_eq, beq_eq_false_iff_ne, bne_iff_ne, ne_eq, Bool.not_not, Decidable.not_not] at h14
        refine J.condT rfl rfl ?_
        refine J.skip rfl ?_
        refine J.seq rfl ?_
        refine J.block rfl ?_
        refine J.seq rfl ?_
        refine J.region rfl ?_
        refine JO.pur rfl rfl rfl (Pur.move rfl) ?_
        refine JO.pur rfl rfl rfl (Pur.idx rfl rfl rfl (by first | rfl | simp) (by first | rfl | exact (Int.toNat_of_nonneg (by omega)).symm) (by first | omega | (simp only [List.length_map]; omega) | (simp; omega))) ?_
        refine JO.pur rfl rfl rfl (Pur.loadA rfl rfl rfl (CellsIn.el rfl (spot_get (by omega)))) ?_
        refine JO.eff rfl rfl rfl (Eff.alloc (cs := [_, _, _]) rfl) ?_
        rintro _ _ ⟨b5, rfl, rfl⟩
        refine JO.pur rfl rfl rfl (Pur.assign rfl) ?_
        refine JO.effN rfl rfl (Eff.storeBA (cs' := [_, _, _]) rfl rfl (by rfl) (by rfl) (by rfl)) ?_
        rintro _ _ ⟨rfl, rfl⟩
        refine JO.nil ?_
        refine J.seq rfl ?_
        refine J.region rfl ?_
        refine JO.pur rfl rfl rfl (Pur.fieldAddr rfl) ?_
        refine JO.pur rfl rfl rfl (Pur.load rfl (CellIn.blk rfl)) ?_
        refine JO.nil ?_
        refine J.splitB 19 rfl (fun h19 => ?_) (fun h19 => ?_)
        · try simp only [decide_eq_true_eq, decide_eq_false_iff_not, Bool.not_eq_true', Bool.not_eq_false', Bool.and_eq_true, Bool.or_eq_true, Bool.and_eq_false_iff, Bool.or_eq_false_iff, Option.isNone_some, Option.isSome_some, Option.isNone_none, Option.isSome_none, Int.not_lt, Int.not_le, beq_iff_eq, beq_eq_false_iff_ne, bne_iff_ne, ne_eq, Bool.not_not, Decidable.not_not] at h19
          refine J.condT rfl rfl ?_
          refine J.region rfl ?_
          refine JO.pur rfl rfl rfl (Pur.move rfl) ?_
          refine JO.pur rfl rfl rfl (Pur.move rfl) ?_
          refine JO.eff rfl rfl rfl (Eff.buildSlice intE [(i : Int)] rfl rfl rfl rfl rfl rfl rfl) ?_
          rintro _ _ ⟨b22, rfl, -, rfl⟩
          refine JO.eff rfl rfl rfl (Eff.append rfl rfl rfl rfl rfl rfl (by decide) (by simp; omega) (by simp; omega) (fun h => by cases h)) ?_
          rintro _ _ ⟨a23, c23, rfl, rfl⟩
          refine JO.pur rfl rfl rfl (Pur.assign rfl) ?_
          refine JO.nil ?_
          refine J.inBlock ?_
          refine J.region rfl ?_
          refine JO.pur rfl rfl rfl (Pur.add rfl rfl (wr64 (by omega))) ?_
          refine JO.pur rfl rfl rfl (Pur.move rfl) ?_
          refine JO.nil ?_
          first
            | exact J.weaken (.cons rfl (by rw [actPre_succ, if_pos h19]; simp) (.cons rfl (congrArg (Value.int .i64) (by omega)) (.cons rfl rfl (.cons rfl rfl .nil)))) (fun h hs => by rw [actPre_succ, if_pos h19]; exact hs.tail.tail) (ih (i + 1, a23, c23) (by omega) (by omega))
            | exact J.weaken (.cons rfl (by rw [actPre_succ, if_neg (by simp [h19]), List.append_nil]) (.cons rfl (congrArg (Value.int .i64) (by omega)) (.cons rfl rfl (.cons rfl rfl .nil)))) (fun h hs => by rw [actPre_succ, if_neg (by simp [h19]), List.append_nil]; exact hs.tail) (ih (i + 1, ao, co) (by omega) (by omega))
        · try simp only [decide_eq_true_eq, decide_eq_false_iff_not, Bool.not_eq_true', Bool.not_eq_false', Bool.and_eq_true, Bool.or_eq_true, Bool.and_eq_false_iff, Bool.or_eq_false_iff, Option.isNone_some, Option.isSome_some, Option.isNone_none, Option.isSome_none, Int.not_lt, Int.not_le, beq_iff_eq, beq_eq_false_iff_ne, bne_iff_ne, ne_eq, Bool.not_not, Decidable.not_not] at h19
          refine J.condF rfl rfl ?_
          refine J.skip rfl ?_
          refine J.inBlock ?_
          refine J.region rfl ?_
          refine JO.pur rfl rfl rfl (Pur.add rfl rfl (wr64 (by omega))) ?_
          refine JO.pur rfl rfl rfl (Pur.move rfl) ?_
          refine JO.nil ?_
          first
            | exact J.weaken (.cons rfl (by rw [actPre_succ, if_pos h19]; simp) (.cons rfl (congrArg (Value.int .i64) (by omega)) (.cons rfl rfl (.cons rfl rfl .nil)))) (fun h hs => by rw [actPre_succ, if_pos h19]; exact hs.tail.tail) (ih (i + 1, a23, c23) (by omega) (by omega))
            | exact J.weaken (.cons rfl (by rw [actPre_succ, if_neg (by simp [h19]), List.append_nil]) (.cons rfl (congrArg (Value.int .i64) (by omega)) (.cons rfl rfl (.cons rfl rfl .nil)))) (fun h hs => by rw [actPre_succ, if_neg (by simp [h19]), List.append_nil]; exact hs.tail) (ih (i + 1, ao, co) (by omega) (by omega))
      · try simp only [decide_eq_true_eq, decide_eq_false_iff_not, Bool.not_eq_true', Bool.not_eq_false', Bool.and_eq_true, Bool.or_eq_true, Bool.and_eq_false_iff, Bool.or_eq_false_iff, Option.isNone_some, Option.isSome_some, Option.isNone_none, Option.isSome_none, Int.not_lt, Int.not_le, beq_iff_eq, beq_eq_false_iff_ne, bne_iff_ne, ne_eq, Bool.not_not, Decidable.not_not] at h14
        refine J.condF rfl rfl ?_
        refine J.exit rfl rfl ?_
        refine J.seq rfl ?_
        refine J.region rfl ?_
        refine JO.pur rfl rfl rfl (Pur.move rfl) ?_
        refine JO.pur rfl rfl rfl (Pur.assign rfl) ?_
        refine JO.nil ?_
        refine J.ret rfl rfl ?_
        have hi2 : i = σ.spots.length := by omega
        subst hi2
        exact ⟨ao, co, rfl, rfl⟩

theorem countsR {L : List Asn} {r : Nat} {σ : St} {a b : Option Addr} {cap cap2 : Nat} [BlkIn L r (.cells #[.slice a σ.spots.length cap, .slice b σ.fly.length cap2, .int .i64 σ.pos, .int .i64 σ.sum, .bool σ.dark, .bool σ.fresh, .bool σ.told, .int .i64 σ.passes] 45 (0, 0))] [SlIn spotE L a σ.spots] [SlIn pairE L b σ.fly] {N : Nat} (hw : Wf σ N) (hb : b = none → σ.fly.length = 0 ∧ cap2 = 0) :
    CallS Try.prog 18 [.pointer (some ⟨r, 0, none⟩)].toArray L (fun v M => ∃ a' c', v = .slice a' (counts σ).length c' ∧ M = sl intE a' c' (counts σ) :: L) := by
  obtain ⟨w1, w2, w3, w4, w5, w55, w6, w7⟩ := hw
  refine CallS.enter Try.func18 rfl rfl rfl rfl rfl ?_
  refine J.seq rfl ?_
  refine J.region rfl ?_
  refine JO.pur rfl rfl rfl (Pur.assign rfl) ?_
  refine JO.nil ?_
  refine J.seq rfl ?_
  refine J.seq rfl ?_
  refine J.region rfl ?_
  refine JO.pur rfl rfl rfl (Pur.move rfl) ?_
  refine JO.effR rfl rfl rfl (Eff.call rfl (none_ok)) ?_
  refine JO.nil ?_
  refine J.splitB 7 rfl (fun h7 => ?_) (fun h7 => ?_)
  · try simp only [decide_eq_true_eq, decide_eq_false_iff_not, Bool.not_eq_true', Bool.not_eq_false', Bool.and_eq_true, Bool.or_eq_true, Bool.and_eq_false_iff, Bool.or_eq_false_iff, Option.isNone_some, Option.isSome_some, Option.isNone_none, Option.isSome_none, Int.not_lt, Int.not_le, beq_iff_eq, beq_eq_false_iff_ne, bne_iff_ne, ne_eq, Bool.not_not, Decidable.not_not] at h7
    first
    | (exfalso; omega)
    | refine J.condT rfl rfl ?_
      refine J.seq rfl ?_
      refine J.region rfl ?_
      refine JO.pur rfl rfl rfl (Pur.assign rfl) ?_
      refine JO.nil ?_
      refine J.ret rfl rfl ?_
      omega
  · try simp only [decide_eq_true_eq, decide_eq_false_iff_not, Bool.not_eq_true', Bool.not_eq_false', Bool.and_eq_true, Bool.or_eq_true, Bool.and_eq_false_iff, Bool.or_eq_false_iff, Option.isNone_some, Option.isSome_some, Option.isNone_none, Option.isSome_none, Int.not_lt, Int.not_le, beq_iff_eq, beq_eq_false_iff_ne, bne_iff_ne, ne_eq, Bool.not_not, Decidable.not_not] at h7
    first
    | (exfalso; omega)
    | refine J.condF rfl rfl ?_
      refine J.skip rfl ?_
      refine J.seq rfl ?_
      refine J.region rfl ?_
      refine JO.pur rfl rfl rfl (Pur.assign rfl) ?_
      refine JO.nil ?_
      refine J.seq rfl ?_
      refine J.seq rfl ?_
      refine J.region rfl ?_
      refine JO.pur rfl rfl rfl (Pur.move rfl) ?_
      refine JO.pur rfl rfl rfl (Pur.nilCheck rfl) ?_
      refine JO.pur rfl rfl rfl (Pur.fieldAddr rfl) ?_
      refine JO.pur rfl rfl rfl (Pur.load rfl (CellIn.blk rfl)) ?_
      refine JO.pur rfl rfl rfl (Pur.len rfl) ?_
      refine JO.pur rfl rfl rfl (Pur.move rfl) ?_
      refine JO.nil ?_
      refine J.block rfl ?_
      refine J.loopF (ι := Nat × Option Addr × Nat) (fun i => i.1 ≤ σ.spots.length) (fun i => [(3, .slice i.2.1 ((counts σ).take i.1).length i.2.2), (13, .int .i64 (i.1 : Int))]) [(11, _), (12, _)] (fun i => sl intE i.2.1 i.2.2 ((counts σ).take i.1) :: L) (fun i => σ.spots.length - i.1) (0, none, 0) rfl (.cons rfl rfl (.cons rfl rfl .nil)) (.cons rfl rfl (.cons rfl rfl .nil)) (fun _ h => sl_nil_new h) (Nat.zero_le _) ?_
      rintro ⟨i, ao, co⟩ hi ih
      try dsimp only
      have hlen : ((counts σ).take i).length ≤ i := by simp; omega
      refine J.seq rfl ?_
      refine J.region rfl ?_
      refine JO.pur rfl rfl rfl (Pur.lss rfl rfl) ?_
      refine JO.nil ?_
      refine J.seq rfl ?_
      refine J.splitB 14 rfl (fun h14 => ?_) (fun h14 => ?_)
      · try simp only [decide_eq_true_eq, decide_eq_false_iff_not, Bool.not_eq_true', Bool.not_eq_false', Bool.and_eq_true, Bool.or_eq_true, Bool.and_eq_false_iff, Bool.or_eq_false_iff, Option.isNone_some, Option.isSome_some, Option.isNone_none, Option.isSome_none, Int.not_lt, Int.not_le, beq_iff_eq, beq_eq_false_iff_ne, bne_iff_ne, ne_eq, Bool.not_not, Decidable.not_not] at h14
        refine J.condT rfl rfl ?_
        refine J.skip rfl ?_
        refine J.seq rfl ?_
        refine J.block rfl ?_
        refine J.seq rfl ?_
        refine J.region rfl ?_
        refine JO.pur rfl rfl rfl (Pur.idx rfl rfl rfl (by first | rfl | simp) (by first | rfl | exact (Int.toNat_of_nonneg (by omega)).symm) (by first | omega | (simp only [List.length_map]; omega) | (simp; omega))) ?_
        refine JO.pur rfl rfl rfl (Pur.loadA rfl rfl rfl (CellsIn.el rfl (spot_get (by omega)))) ?_
        refine JO.eff rfl rfl rfl (Eff.alloc (cs := [_, _, _]) rfl) ?_
        rintro _ _ ⟨b5, rfl, rfl⟩
        refine JO.effN rfl rfl (Eff.storeBA (cs' := [_, _, _]) rfl rfl (by rfl) (by rfl) (by rfl)) ?_
        rintro _ _ ⟨rfl, rfl⟩
        refine JO.nil ?_
        refine J.region rfl ?_
        refine JO.pur rfl rfl rfl (Pur.move rfl) ?_
        refine JO.pur rfl rfl rfl (Pur.fieldAddr rfl) ?_
        refine JO.pur rfl rfl rfl (Pur.load rfl (CellIn.blk rfl)) ?_
        refine JO.eff rfl rfl rfl (Eff.buildSlice intE [(spot σ i).count] rfl rfl rfl rfl rfl rfl rfl) ?_
        rintro _ _ ⟨b20, rfl, -, rfl⟩
        refine JO.eff rfl rfl rfl (Eff.append rfl rfl rfl rfl rfl rfl (by decide) (by simp; omega) (by simp; omega) (fun h => by cases h)) ?_
        rintro _ _ ⟨a21, c21, rfl, rfl⟩
        refine JO.pur rfl rfl rfl (Pur.assign rfl) ?_
        refine JO.nil ?_
        refine J.inBlock ?_
        refine J.region rfl ?_
        refine JO.pur rfl rfl rfl (Pur.add rfl rfl (wr64 (by omega))) ?_
        refine JO.pur rfl rfl rfl (Pur.move rfl) ?_
        refine JO.nil ?_
        exact J.weaken (.cons rfl (by rw [counts_get (by omega)]; simp) (.cons rfl (congrArg (Value.int .i64) (by omega)) (.cons rfl rfl (.cons rfl rfl .nil)))) (fun h hs => by rw [counts_get (by omega)]; exact hs.tail.tail) (ih (i + 1, a21, c21) (by omega) (by omega))
      · try simp only [decide_eq_true_eq, decide_eq_false_iff_not, Bool.not_eq_true', Bool.not_eq_false', Bool.and_eq_true, Bool.or_eq_true, Bool.and_eq_false_iff, Bool.or_eq_false_iff, Option.isNone_some, Option.isSome_some, Option.isNone_none, Option.isSome_none, Int.not_lt, Int.not_le, beq_iff_eq, beq_eq_false_iff_ne, bne_iff_ne, ne_eq, Bool.not_not, Decidable.not_not] at h14
        refine J.condF rfl rfl ?_
        refine J.exit rfl rfl ?_
        refine J.seq rfl ?_
        refine J.region rfl ?_
        refine JO.pur rfl rfl rfl (Pur.move rfl) ?_
        refine JO.pur rfl rfl rfl (Pur.assign rfl) ?_
        refine JO.nil ?_
        refine J.ret rfl rfl ?_
        have hi2 : (counts σ).take i = counts σ := List.take_of_length_le (by simp [counts]; omega)
        exact ⟨ao, co, congrArg (fun x => Value.slice ao (List.length x) co) hi2, congrArg (fun x => sl intE ao co x :: L) hi2⟩

theorem activeF {L : List Asn} {r : Nat} {σ : St} {a1 a2 a3 a4 : Option Addr} {c1 c2 c3 c4 : Nat} [BlkIn L r (.cells #[.int .i64 σ.spots.length, .slice a1 σ.spots.length c1, .slice a2 σ.spots.length c2, .slice a3 σ.spots.length c3, .slice a4 σ.fly.length c4, .int .i64 σ.pos, .int .i64 σ.sum, .bool σ.dark, .bool σ.fresh, .bool σ.told, .int .i64 σ.passes] 64 (0, 0))] [SlIn boolE L a1 (σ.spots.map (·.active))] [SlIn intE L a3 (σ.spots.map (·.count))] [SlIn pairE L a4 σ.fly] {N : Nat} (hw : Wf σ N) :
    CallS Try.prog 44 [.pointer (some ⟨r, 0, none⟩)].toArray L (fun v M => ∃ a' c', v = .slice a' (actList σ).length c' ∧ M = sl intE a' c' (actList σ) :: L) := by
  obtain ⟨w1, w2, w3, w4, w5, w55, w6, w7⟩ := hw
  refine CallS.enter Try.func44 rfl rfl rfl rfl rfl ?_
  refine J.seq rfl ?_
  refine J.region rfl ?_
  refine JO.pur rfl rfl rfl (Pur.assign rfl) ?_
  refine JO.nil ?_
  refine J.seq rfl ?_
  refine J.region rfl ?_
  refine JO.pur rfl rfl rfl (Pur.assign rfl) ?_
  refine JO.nil ?_
  refine J.seq rfl ?_
  refine J.seq rfl ?_
  refine J.region rfl ?_
  refine JO.pur rfl rfl rfl (Pur.assign rfl) ?_
  refine JO.nil ?_
  refine J.block rfl ?_
  refine J.loopF (ι := Nat × Option Addr × Nat) (fun i => i.1 ≤ σ.spots.length) (fun i => [(3, .slice i.2.1 (actPre σ i.1).length i.2.2), (4, .int .i64 (i.1 : Int))]) [(0, _)] (fun i => sl intE i.2.1 i.2.2 (actPre σ i.1) :: L) (fun i => σ.spots.length - i.1) (0, none, 0) rfl (.cons rfl rfl .nil) (.cons rfl rfl (.cons rfl rfl .nil)) (fun _ h => sl_nil_new h) (Nat.zero_le _) ?_
  rintro ⟨i, ao, co⟩ hi ih
  try dsimp only
  have hlen : (actPre σ i).length ≤ i := actPre_le σ i
  refine J.seq rfl ?_
  refine J.seq rfl ?_
  refine J.region rfl ?_
  refine JO.pur rfl rfl rfl (Pur.move rfl) ?_
  refine JO.pur rfl rfl rfl (Pur.move rfl) ?_
  refine JO.pur rfl rfl rfl (Pur.nilCheck rfl) ?_
  refine JO.pur rfl rfl rfl (Pur.fieldAddr rfl) ?_
  refine JO.pur rfl rfl rfl (Pur.load rfl (CellIn.blk rfl)) ?_
  refine JO.pur rfl rfl rfl (Pur.lss rfl rfl) ?_
  refine JO.nil ?_
  refine J.splitB 10 rfl (fun h10 => ?_) (fun h10 => ?_)
  · try simp only [decide_eq_true_eq, decide_eq_false_iff_not, Bool.not_eq_true', Bool.not_eq_false', Bool.and_eq_true, Bool.or_eq_true, Bool.and_eq_false_iff, Bool.or_eq_false_iff, Option.isNone_some, Option.isSome_some, Option.isNone_none, Option.isSome_none, Int.not_lt, Int.not_le, beq_iff_eq, beq_eq_false_iff_ne, bne_iff_ne, ne_eq, Bool.not_not, Decidable.not_not] at h10
    refine J.condT rfl rfl ?_
    refine J.skip rfl ?_
    refine J.seq rfl ?_
    refine J.block rfl ?_
    refine J.seq rfl ?_
    refine J.region rfl ?_
    refine JO.pur rfl rfl rfl (Pur.move rfl) ?_
    refine JO.pur rfl rfl rfl (Pur.nilCheck rfl) ?_
    refine JO.pur rfl rfl rfl (Pur.fieldAddr rfl) ?_
    refine JO.pur rfl rfl rfl (Pur.load rfl (CellIn.blk rfl)) ?_
    refine JO.pur rfl rfl rfl (Pur.move rfl) ?_
    refine JO.pur rfl rfl rfl (Pur.idx rfl rfl rfl (by first | rfl | simp) (by first | rfl | exact (Int.toNat_of_nonneg (by omega)).symm) (by first | omega | (simp only [List.length_map]; omega) | (simp; omega))) ?_
    refine JO.pur rfl rfl rfl (Pur.load rfl (CellIn.el0 rfl (map_get _ (by omega)) rfl)) ?_
    refine JO.nil ?_
    refine J.splitB 19 rfl (fun h19 => ?_) (fun h19 => ?_)
    · try simp only [decide_eq_true_eq, decide_eq_false_iff_not, Bool.not_eq_true', Bool.not_eq_false', Bool.and_eq_true, Bool.or_eq_true, Bool.and_eq_false_iff, Bool.or_eq_false_iff, Option.isNone_some, Option.isSome_some, Option.isNone_none, Option.isSome_none, Int.not_lt, Int.not_le, beq_iff_eq, beq_eq_false_iff_ne, bne_iff_ne, ne_eq, Bool.not_not, Decidable.not_not] at h19
      refine J.condT rfl rfl ?_
      refine J.region rfl ?_
      refine JO.pur rfl rfl rfl (Pur.move rfl) ?_
      refine JO.pur rfl rfl rfl (Pur.move rfl) ?_
      refine JO.eff rfl rfl rfl (Eff.buildSlice intE [(i : Int)] rfl rfl rfl rfl rfl rfl rfl) ?_
      rintro _ _ ⟨b22, rfl, -, rfl⟩
      refine JO.eff rfl rfl rfl (Eff.append rfl rfl rfl rfl rfl rfl (by decide) (by simp; omega) (by simp; omega) (fun h => by cases h)) ?_
      rintro _ _ ⟨a23, c23, rfl, rfl⟩
      refine JO.pur rfl rfl rfl (Pur.assign rfl) ?_
      refine JO.nil ?_
      refine J.inBlock ?_
      refine J.region rfl ?_
      refine JO.pur rfl rfl rfl (Pur.move rfl) ?_
      refine JO.pur rfl rfl rfl (Pur.add rfl rfl (wr64 (by omega))) ?_
      refine JO.pur rfl rfl rfl (Pur.assign rfl) ?_
      refine JO.nil ?_
      first
        | exact J.weaken (.cons rfl (by rw [actPre_succ, if_pos h19]; simp) (.cons rfl (congrArg (Value.int .i64) (by omega)) (.cons rfl rfl .nil))) (fun h hs => by rw [actPre_succ, if_pos h19]; exact hs.tail) (ih (i + 1, a23, c23) (by omega) (by omega))
        | exact J.weaken (.cons rfl (by rw [actPre_succ, if_neg (by simp [h19]), List.append_nil]) (.cons rfl (congrArg (Value.int .i64) (by omega)) (.cons rfl rfl .nil))) (fun h hs => by rw [actPre_succ, if_neg (by simp [h19]), List.append_nil]; exact hs) (ih (i + 1, ao, co) (by omega) (by omega))
    · try simp only [decide_eq_true_eq, decide_eq_false_iff_not, Bool.not_eq_true', Bool.not_eq_false', Bool.and_eq_true, Bool.or_eq_true, Bool.and_eq_false_iff, Bool.or_eq_false_iff, Option.isNone_some, Option.isSome_some, Option.isNone_none, Option.isSome_none, Int.not_lt, Int.not_le, beq_iff_eq, beq_eq_false_iff_ne, bne_iff_ne, ne_eq, Bool.not_not, Decidable.not_not] at h19
      refine J.condF rfl rfl ?_
      refine J.skip rfl ?_
      refine J.inBlock ?_
      refine J.region rfl ?_
      refine JO.pur rfl rfl rfl (Pur.move rfl) ?_
      refine JO.pur rfl rfl rfl (Pur.add rfl rfl (wr64 (by omega))) ?_
      refine JO.pur rfl rfl rfl (Pur.assign rfl) ?_
      refine JO.nil ?_
      first
        | exact J.weaken (.cons rfl (by rw [actPre_succ, if_pos h19]; simp) (.cons rfl (congrArg (Value.int .i64) (by omega)) (.cons rfl rfl .nil))) (fun h hs => by rw [actPre_succ, if_pos h19]; exact hs.tail) (ih (i + 1, a23, c23) (by omega) (by omega))
        | exact J.weaken (.cons rfl (by rw [actPre_succ, if_neg (by simp [h19]), List.append_nil]) (.cons rfl (congrArg (Value.int .i64) (by omega)) (.cons rfl rfl .nil))) (fun h hs => by rw [actPre_succ, if_neg (by simp [h19]), List.append_nil]; exact hs) (ih (i + 1, ao, co) (by omega) (by omega))
  · try simp only [decide_eq_true_eq, decide_eq_false_iff_not, Bool.not_eq_true', Bool.not_eq_false', Bool.and_eq_true, Bool.or_eq_true, Bool.and_eq_false_iff, Bool.or_eq_false_iff, Option.isNone_some, Option.isSome_some, Option.isNone_none, Option.isSome_none, Int.not_lt, Int.not_le, beq_iff_eq, beq_eq_false_iff_ne, bne_iff_ne, ne_eq, Bool.not_not, Decidable.not_not] at h10
    refine J.condF rfl rfl ?_
    refine J.exit rfl rfl ?_
    refine J.seq rfl ?_
    refine J.region rfl ?_
    refine JO.pur rfl rfl rfl (Pur.move rfl) ?_
    refine JO.pur rfl rfl rfl (Pur.assign rfl) ?_
    refine JO.nil ?_
    refine J.ret rfl rfl ?_
    have hi2 : i = σ.spots.length := by omega
    subst hi2
    exact ⟨ao, co, rfl, rfl⟩

theorem overR {L : List Asn} {r : Nat} {σ : St} {a b : Option Addr} {cap cap2 : Nat} [BlkIn L r (.cells #[.slice a σ.spots.length cap, .slice b σ.fly.length cap2, .int .i64 σ.pos, .int .i64 σ.sum, .bool σ.dark, .bool σ.fresh, .bool σ.told, .int .i64 σ.passes] 45 (0, 0))] [SlIn spotE L a σ.spots] [SlIn pairE L b σ.fly] {N : Nat} (hw : Wf σ N) (hb : b = none → σ.fly.length = 0 ∧ cap2 = 0) :
    CallS Try.prog 15 [.pointer (some ⟨r, 0, none⟩)].toArray L (fun v M => v = .bool (over σ) ∧ M = L) := by
  obtain ⟨w1, w2, w3, w4, w5, w55, w6, w7⟩ := hw
  refine CallS.ent ?_
  refine CallS.enter Try.func15 rfl rfl rfl rfl rfl ?_
  refine J.seq rfl ?_
  refine J.region rfl ?_
  refine JO.pur rfl rfl rfl (Pur.assign rfl) ?_
  refine JO.nil ?_
  refine J.seq rfl ?_
  refine J.region rfl ?_
  refine JO.pur rfl rfl rfl (Pur.move rfl) ?_
  refine JO.effR rfl rfl rfl (Eff.call rfl (none_ok)) ?_
  refine JO.pur rfl rfl rfl (Pur.not rfl) ?_
  refine JO.pur rfl rfl rfl (Pur.move rfl) ?_
  refine JO.splitB 6 rfl (fun h6 => ?_) (fun h6 => ?_)
  · try simp only [decide_eq_true_eq, decide_eq_false_iff_not, Bool.not_eq_true', Bool.not_eq_false', Bool.and_eq_true, Bool.or_eq_true, Bool.and_eq_false_iff, Bool.or_eq_false_iff, Option.isNone_some, Option.isSome_some, Option.isNone_none, Option.isSome_none, Int.not_lt, Int.not_le, beq_iff_eq, beq_eq_false_iff_ne, bne_iff_ne, ne_eq, Bool.not_not, Decidable.not_not] at h6
    first
    | (exfalso; omega)
    | refine JO.pur rfl rfl rfl (Pur.move rfl) ?_
      refine JO.eff rfl rfl rfl (Eff.call rfl (activeR ⟨w1, w2, w3, w4, w5, w55, w6, w7⟩ hb)) ?_
      rintro _ _ ⟨a8, c8, rfl, rfl⟩
      refine JO.pur rfl rfl rfl (Pur.len rfl) ?_
      refine JO.pur rfl rfl rfl (Pur.eqlI rfl rfl) ?_
      refine JO.pur rfl rfl rfl (Pur.pickT rfl rfl) ?_
      refine JO.pur rfl rfl rfl (Pur.move rfl) ?_
      refine JO.splitB 12 rfl (fun h12 => ?_) (fun h12 => ?_)
      · try simp only [decide_eq_true_eq, decide_eq_false_iff_not, Bool.not_eq_true', Bool.not_eq_false', Bool.and_eq_true, Bool.or_eq_true, Bool.and_eq_false_iff, Bool.or_eq_false_iff, Option.isNone_some, Option.isSome_some, Option.isNone_none, Option.isSome_none, Int.not_lt, Int.not_le, beq_iff_eq, beq_eq_false_iff_ne, bne_iff_ne, ne_eq, Bool.not_not, Decidable.not_not] at h12
        refine JO.pur rfl rfl rfl (Pur.move rfl) ?_
        refine JO.pur rfl rfl rfl (Pur.nilCheck rfl) ?_
        refine JO.pur rfl rfl rfl (Pur.fieldAddr rfl) ?_
        refine JO.pur rfl rfl rfl (Pur.load rfl (CellIn.blk rfl)) ?_
        refine JO.pur rfl rfl rfl (Pur.len rfl) ?_
        refine JO.pur rfl rfl rfl (Pur.eqlI rfl rfl) ?_
        refine JO.pur rfl rfl rfl (Pur.pickT rfl rfl) ?_
        refine JO.pur rfl rfl rfl (Pur.assign rfl) ?_
        refine JO.nil ?_
        refine J.ret rfl rfl ?_
        refine ⟨_, _, ⟨rfl, rfl⟩, ?_, fun h hs => hs.tail⟩
        exact congrArg Value.bool (over_cond h12)
      · try simp only [decide_eq_true_eq, decide_eq_false_iff_not, Bool.not_eq_true', Bool.not_eq_false', Bool.and_eq_true, Bool.or_eq_true, Bool.and_eq_false_iff, Bool.or_eq_false_iff, Option.isNone_some, Option.isSome_some, Option.isNone_none, Option.isSome_none, Int.not_lt, Int.not_le, beq_iff_eq, beq_eq_false_iff_ne, bne_iff_ne, ne_eq, Bool.not_not, Decidable.not_not] at h12
        refine JO.no rfl rfl rfl ?_
        refine JO.no rfl rfl rfl ?_
        refine JO.no rfl rfl rfl ?_
        refine JO.no rfl rfl rfl ?_
        refine JO.no rfl rfl rfl ?_
        refine JO.no rfl rfl rfl ?_
        refine JO.pur rfl rfl rfl (Pur.pickF rfl rfl) ?_
        refine JO.pur rfl rfl rfl (Pur.assign rfl) ?_
        refine JO.nil ?_
        refine J.ret rfl rfl ?_
        refine ⟨_, _, ⟨rfl, rfl⟩, ?_, fun h hs => hs.tail⟩
        exact congrArg Value.bool (over_no h12)
  · try simp only [decide_eq_true_eq, decide_eq_false_iff_not, Bool.not_eq_true', Bool.not_eq_false', Bool.and_eq_true, Bool.or_eq_true, Bool.and_eq_false_iff, Bool.or_eq_false_iff, Option.isNone_some, Option.isSome_some, Option.isNone_none, Option.isSome_none, Int.not_lt, Int.not_le, beq_iff_eq, beq_eq_false_iff_ne, bne_iff_ne, ne_eq, Bool.not_not, Decidable.not_not] at h6
    first
    | (exfalso; omega)
    | refine JO.no rfl rfl rfl ?_
      refine JO.no rfl rfl rfl ?_
      refine JO.no rfl rfl rfl ?_
      refine JO.no rfl rfl rfl ?_
      refine JO.pur rfl rfl rfl (Pur.pickF rfl rfl) ?_
      refine JO.pur rfl rfl rfl (Pur.move rfl) ?_
      refine JO.no rfl rfl rfl ?_
      refine JO.no rfl rfl rfl ?_
      refine JO.no rfl rfl rfl ?_
      refine JO.no rfl rfl rfl ?_
      refine JO.no rfl rfl rfl ?_
      refine JO.no rfl rfl rfl ?_
      refine JO.pur rfl rfl rfl (Pur.pickF rfl rfl) ?_
      refine JO.pur rfl rfl rfl (Pur.assign rfl) ?_
      refine JO.nil ?_
      refine J.ret rfl rfl ?_
      omega

theorem overF {L : List Asn} {r : Nat} {σ : St} {a1 a2 a3 a4 : Option Addr} {c1 c2 c3 c4 : Nat} [BlkIn L r (.cells #[.int .i64 σ.spots.length, .slice a1 σ.spots.length c1, .slice a2 σ.spots.length c2, .slice a3 σ.spots.length c3, .slice a4 σ.fly.length c4, .int .i64 σ.pos, .int .i64 σ.sum, .bool σ.dark, .bool σ.fresh, .bool σ.told, .int .i64 σ.passes] 64 (0, 0))] [SlIn boolE L a1 (σ.spots.map (·.active))] [SlIn intE L a3 (σ.spots.map (·.count))] [SlIn pairE L a4 σ.fly] {N : Nat} (hw : Wf σ N) :
    CallS Try.prog 41 [.pointer (some ⟨r, 0, none⟩)].toArray L (fun v M => v = .bool (over σ) ∧ M = L) := by
  obtain ⟨w1, w2, w3, w4, w5, w55, w6, w7⟩ := hw
  refine CallS.ent ?_
  refine CallS.enter Try.func41 rfl rfl rfl rfl rfl ?_
  refine J.seq rfl ?_
  refine J.region rfl ?_
  refine JO.pur rfl rfl rfl (Pur.assign rfl) ?_
  refine JO.nil ?_
  refine J.seq rfl ?_
  refine J.region rfl ?_
  refine JO.pur rfl rfl rfl (Pur.move rfl) ?_
  refine JO.eff rfl rfl rfl (Eff.call rfl (activeF ⟨w1, w2, w3, w4, w5, w55, w6, w7⟩)) ?_
  rintro _ _ ⟨a8, c8, rfl, rfl⟩
  refine JO.pur rfl rfl rfl (Pur.len rfl) ?_
  refine JO.pur rfl rfl rfl (Pur.eqlI rfl rfl) ?_
  refine JO.pur rfl rfl rfl (Pur.move rfl) ?_
  refine JO.splitB 7 rfl (fun h7 => ?_) (fun h7 => ?_)
  · try simp only [decide_eq_true_eq, decide_eq_false_iff_not, Bool.not_eq_true', Bool.not_eq_false', Bool.and_eq_true, Bool.or_eq_true, Bool.and_eq_false_iff, Bool.or_eq_false_iff, Option.isNone_some, Option.isSome_some, Option.isNone_none, Option.isSome_none, Int.not_lt, Int.not_le, beq_iff_eq, beq_eq_false_iff_ne, bne_iff_ne, ne_eq, Bool.not_not, Decidable.not_not] at h7
    refine JO.pur rfl rfl rfl (Pur.move rfl) ?_
    refine JO.pur rfl rfl rfl (Pur.nilCheck rfl) ?_
    refine JO.pur rfl rfl rfl (Pur.fieldAddr rfl) ?_
    refine JO.pur rfl rfl rfl (Pur.load rfl (CellIn.blk rfl)) ?_
    refine JO.pur rfl rfl rfl (Pur.len rfl) ?_
    refine JO.pur rfl rfl rfl (Pur.eqlI rfl rfl) ?_
    refine JO.pur rfl rfl rfl (Pur.pickT rfl rfl) ?_
    refine JO.pur rfl rfl rfl (Pur.assign rfl) ?_
    refine JO.nil ?_
    refine J.ret rfl rfl ?_
    refine ⟨_, _, ⟨rfl, rfl⟩, ?_, fun h hs => hs.tail⟩
    exact congrArg Value.bool (over_cond h7)
  · try simp only [decide_eq_true_eq, decide_eq_false_iff_not, Bool.not_eq_true', Bool.not_eq_false', Bool.and_eq_true, Bool.or_eq_true, Bool.and_eq_false_iff, Bool.or_eq_false_iff, Option.isNone_some, Option.isSome_some, Option.isNone_none, Option.isSome_none, Int.not_lt, Int.not_le, beq_iff_eq, beq_eq_false_iff_ne, bne_iff_ne, ne_eq, Bool.not_not, Decidable.not_not] at h7
    refine JO.no rfl rfl rfl ?_
    refine JO.no rfl rfl rfl ?_
    refine JO.no rfl rfl rfl ?_
    refine JO.no rfl rfl rfl ?_
    refine JO.no rfl rfl rfl ?_
    refine JO.no rfl rfl rfl ?_
    refine JO.pur rfl rfl rfl (Pur.pickF rfl rfl) ?_
    refine JO.pur rfl rfl rfl (Pur.assign rfl) ?_
    refine JO.nil ?_
    refine J.ret rfl rfl ?_
    refine ⟨_, _, ⟨rfl, rfl⟩, ?_, fun h hs => hs.tail⟩
    exact congrArg Value.bool (over_no h7)

end Go.Proofs.Ytnllgmfpejjcnaa
