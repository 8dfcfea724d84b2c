/-
  A part of the proof of the claim that this folder bears.
-/
import Derived.Test.YtoikjjpleonllaaPAC
import Derived.Test.YtoikjjpleonllaaKC
import Derived.Test.YtoikjjpleonllaaPAB
/- The text G5. -/
set_option linter.unusedVariables false
set_option linter.unusedSimpArgs false
set_option maxRecDepth 10000
namespace Go.Proofs.Ytoikjjpleonllaa
open Go Go.KK Gr

theorem result_ok {L : List Asn} {p : Nat} {am : Option Addr} {cm : Nat} {bs : List Nat} {g : Gs} {q : Int} (hw : wf g) :
    CallS Try.prog 20 [.pointer (some ⟨p, 0, none⟩), .int .i64 q].toArray (GB p am cm bs g :: L) (fun v M => v = .tuple #[.int .i64 (resV g q).1, .int .i64 (resV g q).2] ∧ M = GB p am cm bs g :: L) := by
  have hn8 := hw.2.1
  have hn1 := hw.1
  refine CallS.ent ?_
  refine CallS.enter Try.func20 rfl rfl rfl rfl rfl ?_
  refine GB_open fun af cf hb => ?_
  refine J.seq rfl ?_
  refine J.region rfl ?_
  refine JO.pur rfl rfl rfl (Pur.assign rfl) ?_
  refine JO.pur rfl rfl rfl (Pur.assign rfl) ?_
  refine JO.nil ?_
  refine J.seq rfl ?_
  refine J.block rfl ?_
  refine J.seq rfl ?_
  refine J.region rfl ?_
  refine JO.pur rfl rfl rfl (Pur.move rfl) ?_
  refine JO.effR rfl rfl rfl (Eff.call rfl (none_ok)) ?_
  refine JO.pur rfl rfl rfl (Pur.assign rfl) ?_
  refine JO.nil ?_
  refine J.setv (u' := .bool false) 6 rfl (congrArg Value.bool (decide_eq_false (by omega))) ?_
  refine J.condF rfl rfl ?_
  refine J.seq rfl ?_
  refine J.region rfl ?_
  refine JO.pur rfl rfl rfl (Pur.move rfl) ?_
  refine JO.pur rfl rfl rfl (Pur.lss rfl rfl) ?_
  refine JO.pur rfl rfl rfl (Pur.move rfl) ?_
  refine JO.splitB 12 rfl (fun h12 => ?_) (fun h12 => ?_)
  · try simp only [decide_eq_true_eq, decide_eq_false_iff_not, Bool.not_eq_true', Bool.not_eq_false', Bool.and_eq_true, Bool.or_eq_true, Bool.and_eq_false_iff, Bool.or_eq_false_iff, Option.isNone_some, Option.isSome_some, Option.isNone_none, Option.isSome_none, Int.not_lt, Int.not_le, beq_iff_eq, beq_eq_false_iff_ne, bne_iff_ne, ne_eq, Bool.not_not, Decidable.not_not] at h12
    have hbad : resV g q = (0, 2) := by unfold resV; rw [if_pos (.inl (by omega))]
    refine JO.no rfl rfl rfl ?_
    refine JO.no rfl rfl rfl ?_
    refine JO.no rfl rfl rfl ?_
    refine JO.no rfl rfl rfl ?_
    refine JO.no rfl rfl rfl ?_
    refine JO.no rfl rfl rfl ?_
    refine JO.no rfl rfl rfl ?_
    refine JO.pur rfl rfl rfl (Pur.pickT rfl rfl) ?_
    refine JO.pur rfl rfl rfl (Pur.move rfl) ?_
    refine JO.no rfl rfl rfl ?_
    refine JO.no rfl rfl rfl ?_
    refine JO.no rfl rfl rfl ?_
    refine JO.no rfl rfl rfl ?_
    refine JO.no rfl rfl rfl ?_
    refine JO.no rfl rfl rfl ?_
    refine JO.no rfl rfl rfl ?_
    refine JO.no rfl rfl rfl ?_
    refine JO.no rfl rfl rfl ?_
    refine JO.no rfl rfl rfl ?_
    refine JO.no rfl rfl rfl ?_
    refine JO.no rfl rfl rfl ?_
    refine JO.no rfl rfl rfl ?_
    refine JO.pur rfl rfl rfl (Pur.pickT rfl rfl) ?_
    refine JO.pur rfl rfl rfl (Pur.assign rfl) ?_
    refine JO.nil ?_
    refine J.condT rfl rfl ?_
    refine J.seq rfl ?_
    refine J.region rfl ?_
    refine JO.pur rfl rfl rfl (Pur.assign rfl) ?_
    refine JO.pur rfl rfl rfl (Pur.assign rfl) ?_
    refine JO.nil ?_
    refine J.ret rfl rfl ?_
    refine ⟨_, _, ⟨rfl, rfl⟩, ?_, fun h s => GB_mk (g := g) (af := af) (cf := cf) hb (SubC.out (M := blk p (gC g.kind g.op g.root am g.ms.length cm af g.fly.length cf g.sent) :: sl memE am cm (g.ms.zip bs) :: sl msgE af cf g.fly :: star (List.zipWith mpA bs g.ms) :: L) h s)⟩
    rw [hbad]; rfl
  · try simp only [decide_eq_true_eq, decide_eq_false_iff_not, Bool.not_eq_true', Bool.not_eq_false', Bool.and_eq_true, Bool.or_eq_true, Bool.and_eq_false_iff, Bool.or_eq_false_iff, Option.isNone_some, Option.isSome_some, Option.isNone_none, Option.isSome_none, Int.not_lt, Int.not_le, beq_iff_eq, beq_eq_false_iff_ne, bne_iff_ne, ne_eq, Bool.not_not, Decidable.not_not] at h12
    refine JO.pur rfl rfl rfl (Pur.move rfl) ?_
    refine JO.pur rfl rfl rfl (Pur.move rfl) ?_
    refine JO.pur rfl rfl rfl (Pur.nilCheck rfl) ?_
    refine JO.pur rfl rfl rfl (Pur.fieldAddr rfl) ?_
    refine JO.pur rfl rfl rfl (Pur.load rfl (CellIn.blk rfl)) ?_
    refine JO.pur rfl rfl rfl (Pur.len rfl) ?_
    refine JO.pur rfl rfl rfl (Pur.geq rfl rfl) ?_
    refine JO.pur rfl rfl rfl (Pur.pickF rfl rfl) ?_
    refine JO.pur rfl rfl rfl (Pur.move rfl) ?_
    refine JO.splitB 21 rfl (fun h21 => ?_) (fun h21 => ?_)
    · try simp only [decide_eq_true_eq, decide_eq_false_iff_not, Bool.not_eq_true', Bool.not_eq_false', Bool.and_eq_true, Bool.or_eq_true, Bool.and_eq_false_iff, Bool.or_eq_false_iff, Option.isNone_some, Option.isSome_some, Option.isNone_none, Option.isSome_none, Int.not_lt, Int.not_le, beq_iff_eq, beq_eq_false_iff_ne, bne_iff_ne, ne_eq, Bool.not_not, Decidable.not_not] at h21
      have hbad : resV g q = (0, 2) := by unfold resV; rw [if_pos (.inr (.inl (by omega)))]
      refine JO.no rfl rfl rfl ?_
      refine JO.no rfl rfl rfl ?_
      refine JO.no rfl rfl rfl ?_
      refine JO.no rfl rfl rfl ?_
      refine JO.no rfl rfl rfl ?_
      refine JO.no rfl rfl rfl ?_
      refine JO.no rfl rfl rfl ?_
      refine JO.no rfl rfl rfl ?_
      refine JO.no rfl rfl rfl ?_
      refine JO.no rfl rfl rfl ?_
      refine JO.no rfl rfl rfl ?_
      refine JO.no rfl rfl rfl ?_
      refine JO.no rfl rfl rfl ?_
      refine JO.pur rfl rfl rfl (Pur.pickT rfl rfl) ?_
      refine JO.pur rfl rfl rfl (Pur.assign rfl) ?_
      refine JO.nil ?_
      refine J.condT rfl rfl ?_
      refine J.seq rfl ?_
      refine J.region rfl ?_
      refine JO.pur rfl rfl rfl (Pur.assign rfl) ?_
      refine JO.pur rfl rfl rfl (Pur.assign rfl) ?_
      refine JO.nil ?_
      refine J.ret rfl rfl ?_
      refine ⟨_, _, ⟨rfl, rfl⟩, ?_, fun h s => GB_mk (g := g) (af := af) (cf := cf) hb (SubC.out (M := blk p (gC g.kind g.op g.root am g.ms.length cm af g.fly.length cf g.sent) :: sl memE am cm (g.ms.zip bs) :: sl msgE af cf g.fly :: star (List.zipWith mpA bs g.ms) :: L) h s)⟩
      rw [hbad]; rfl
    · try simp only [decide_eq_true_eq, decide_eq_false_iff_not, Bool.not_eq_true', Bool.not_eq_false', Bool.and_eq_true, Bool.or_eq_true, Bool.and_eq_false_iff, Bool.or_eq_false_iff, Option.isNone_some, Option.isSome_some, Option.isNone_none, Option.isSome_none, Int.not_lt, Int.not_le, beq_iff_eq, beq_eq_false_iff_ne, bne_iff_ne, ne_eq, Bool.not_not, Decidable.not_not] at h21
      refine JO.pur rfl rfl rfl (Pur.move rfl) ?_
      refine JO.pur rfl rfl rfl (Pur.nilCheck rfl) ?_
      refine JO.pur rfl rfl rfl (Pur.fieldAddr rfl) ?_
      refine JO.pur rfl rfl rfl (Pur.load rfl (CellIn.blk rfl)) ?_
      refine JO.pur rfl rfl rfl (Pur.eqlT rfl rfl) ?_
      refine JO.pur rfl rfl rfl (Pur.move rfl) ?_
      refine JO.splitB 27 rfl (fun h27 => ?_) (fun h27 => ?_)
      · try simp only [decide_eq_true_eq, decide_eq_false_iff_not, Bool.not_eq_true', Bool.not_eq_false', Bool.and_eq_true, Bool.or_eq_true, Bool.and_eq_false_iff, Bool.or_eq_false_iff, Option.isNone_some, Option.isSome_some, Option.isNone_none, Option.isSome_none, Int.not_lt, Int.not_le, beq_iff_eq, beq_eq_false_iff_ne, bne_iff_ne, ne_eq, Bool.not_not, Decidable.not_not] at h27
        refine JO.pur rfl rfl rfl (Pur.move rfl) ?_
        refine JO.pur rfl rfl rfl (Pur.move rfl) ?_
        refine JO.pur rfl rfl rfl (Pur.nilCheck rfl) ?_
        refine JO.pur rfl rfl rfl (Pur.fieldAddr rfl) ?_
        refine JO.pur rfl rfl rfl (Pur.load rfl (CellIn.blk rfl)) ?_
        refine JO.pur rfl rfl rfl (Pur.neqI rfl rfl) ?_
        refine JO.pur rfl rfl rfl (Pur.pickT rfl rfl) ?_
        refine JO.pur rfl rfl rfl (Pur.pickF rfl rfl) ?_
        refine JO.pur rfl rfl rfl (Pur.assign rfl) ?_
        refine JO.nil ?_
        refine J.splitB 9 rfl (fun h9 => ?_) (fun h9 => ?_)
        · try simp only [decide_eq_true_eq, decide_eq_false_iff_not, Bool.not_eq_true', Bool.not_eq_false', Bool.and_eq_true, Bool.or_eq_true, Bool.and_eq_false_iff, Bool.or_eq_false_iff, Option.isNone_some, Option.isSome_some, Option.isNone_none, Option.isSome_none, Int.not_lt, Int.not_le, beq_iff_eq, beq_eq_false_iff_ne, bne_iff_ne, ne_eq, Bool.not_not, Decidable.not_not] at h9
          have hbad : resV g q = (0, 2) := by unfold resV; rw [if_pos (.inr (.inr ⟨h27, by simpa using h9⟩))]
          refine J.condT rfl rfl ?_
          refine J.seq rfl ?_
          refine J.region rfl ?_
          refine JO.pur rfl rfl rfl (Pur.assign rfl) ?_
          refine JO.pur rfl rfl rfl (Pur.assign rfl) ?_
          refine JO.nil ?_
          refine J.ret rfl rfl ?_
          refine ⟨_, _, ⟨rfl, rfl⟩, ?_, fun h s => GB_mk (g := g) (af := af) (cf := cf) hb (SubC.out (M := blk p (gC g.kind g.op g.root am g.ms.length cm af g.fly.length cf g.sent) :: sl memE am cm (g.ms.zip bs) :: sl msgE af cf g.fly :: star (List.zipWith mpA bs g.ms) :: L) h s)⟩
          rw [hbad]; rfl
        · try simp only [decide_eq_true_eq, decide_eq_false_iff_not, Bool.not_eq_true', Bool.not_eq_false', Bool.and_eq_true, Bool.or_eq_true, Bool.and_eq_false_iff, Bool.or_eq_false_iff, Option.isNone_some, Option.isSome_some, Option.isNone_none, Option.isSome_none, Int.not_lt, Int.not_le, beq_iff_eq, beq_eq_false_iff_ne, bne_iff_ne, ne_eq, Bool.not_not, Decidable.not_not] at h9
          have hq0 : 0 ≤ q := by omega
          have hqn : q.toNat < g.ms.length := by omega
          obtain ⟨b, hbi⟩ : ∃ b, bs[q.toNat]? = some b := ⟨_, List.getElem?_eq_getElem (by omega)⟩
          have hzm := zip_get (mem_get hqn) hbi
          have hng : ¬ (q < 0 ∨ (g.ms.length : Int) ≤ q ∨ (g.kind = sRed ∧ q ≠ g.root)) := by
            rintro (g1 | g1 | g1)
            · omega
            · omega
            · exact g1.2 (by simpa using h9)
          refine J.condF rfl rfl ?_
          refine J.seq rfl ?_
          refine J.region rfl ?_
          refine JO.pur rfl rfl rfl (Pur.move rfl) ?_
          refine JO.pur rfl rfl rfl (Pur.nilCheck rfl) ?_
          refine JO.pur rfl rfl rfl (Pur.fieldAddr rfl) ?_
          refine JO.pur rfl rfl rfl (Pur.load rfl (CellIn.blk rfl)) ?_
          refine JO.pur rfl rfl rfl (Pur.move rfl) ?_
          refine JO.pur rfl rfl rfl (Pur.idx rfl rfl rfl (by first | rfl | (simp; done) | omega | (rw [List.length_zip]; omega)) (Int.toNat_of_nonneg hq0).symm (by rw [List.length_zip]; omega)) ?_
          refine JO.pur rfl rfl rfl (Pur.fieldAddr rfl) ?_
          refine JO.pur rfl rfl rfl (Pur.load rfl (CellIn.el rfl hzm rfl)) ?_
          refine JO.setv (u' := .bool (mem g q.toNat).has) 44 rfl rfl ?_
          refine JO.pur rfl rfl rfl (Pur.not rfl) ?_
          refine JO.pur rfl rfl rfl (Pur.assign rfl) ?_
          refine JO.nil ?_
          refine J.splitB 36 rfl (fun h36 => ?_) (fun h36 => ?_)
          · try simp only [decide_eq_true_eq, decide_eq_false_iff_not, Bool.not_eq_true', Bool.not_eq_false', Bool.and_eq_true, Bool.or_eq_true, Bool.and_eq_false_iff, Bool.or_eq_false_iff, Option.isNone_some, Option.isSome_some, Option.isNone_none, Option.isSome_none, Int.not_lt, Int.not_le, beq_iff_eq, beq_eq_false_iff_ne, bne_iff_ne, ne_eq, Bool.not_not, Decidable.not_not] at h36
            have hbad : resV g q = (0, 171) := by unfold resV; rw [if_neg hng, if_neg (by simpa using h36)]
            refine J.condT rfl rfl ?_
            refine J.seq rfl ?_
            refine J.region rfl ?_
            refine JO.pur rfl rfl rfl (Pur.assign rfl) ?_
            refine JO.pur rfl rfl rfl (Pur.assign rfl) ?_
            refine JO.nil ?_
            refine J.ret rfl rfl ?_
            refine ⟨_, _, ⟨rfl, rfl⟩, ?_, fun h s => GB_mk (g := g) (af := af) (cf := cf) hb (SubC.out (M := blk p (gC g.kind g.op g.root am g.ms.length cm af g.fly.length cf g.sent) :: sl memE am cm (g.ms.zip bs) :: sl msgE af cf g.fly :: star (List.zipWith mpA bs g.ms) :: L) h s)⟩
            rw [hbad]; rfl
          · try simp only [decide_eq_true_eq, decide_eq_false_iff_not, Bool.not_eq_true', Bool.not_eq_false', Bool.and_eq_true, Bool.or_eq_true, Bool.and_eq_false_iff, Bool.or_eq_false_iff, Option.isNone_some, Option.isSome_some, Option.isNone_none, Option.isSome_none, Int.not_lt, Int.not_le, beq_iff_eq, beq_eq_false_iff_ne, bne_iff_ne, ne_eq, Bool.not_not, Decidable.not_not] at h36
            have hbad : resV g q = ((mem g q.toNat).res, 0) := by unfold resV; rw [if_neg hng, if_pos (by simpa using h36)]
            refine J.condF rfl rfl ?_
            refine J.skip rfl ?_
            refine J.inBlock ?_
            refine J.seq rfl ?_
            refine J.region rfl ?_
            refine JO.pur rfl rfl rfl (Pur.move rfl) ?_
            refine JO.pur rfl rfl rfl (Pur.nilCheck rfl) ?_
            refine JO.pur rfl rfl rfl (Pur.fieldAddr rfl) ?_
            refine JO.pur rfl rfl rfl (Pur.load rfl (CellIn.blk rfl)) ?_
            refine JO.pur rfl rfl rfl (Pur.move rfl) ?_
            refine JO.pur rfl rfl rfl (Pur.idx rfl rfl rfl (by first | rfl | (simp; done) | omega | (rw [List.length_zip]; omega)) (Int.toNat_of_nonneg hq0).symm (by rw [List.length_zip]; omega)) ?_
            refine JO.pur rfl rfl rfl (Pur.fieldAddr rfl) ?_
            refine JO.pur rfl rfl rfl (Pur.load rfl (CellIn.el rfl hzm rfl)) ?_
            refine JO.setv (u' := .int .i64 (mem g q.toNat).res) 53 rfl rfl ?_
            refine JO.pur rfl rfl rfl (Pur.assign rfl) ?_
            refine JO.pur rfl rfl rfl (Pur.assign rfl) ?_
            refine JO.nil ?_
            refine J.ret rfl rfl ?_
            refine ⟨_, _, ⟨rfl, rfl⟩, ?_, fun h s => GB_mk (g := g) (af := af) (cf := cf) hb (SubC.out (M := blk p (gC g.kind g.op g.root am g.ms.length cm af g.fly.length cf g.sent) :: sl memE am cm (g.ms.zip bs) :: sl msgE af cf g.fly :: star (List.zipWith mpA bs g.ms) :: L) h s)⟩
            rw [hbad]; rfl
      · try simp only [decide_eq_true_eq, decide_eq_false_iff_not, Bool.not_eq_true', Bool.not_eq_false', Bool.and_eq_true, Bool.or_eq_true, Bool.and_eq_false_iff, Bool.or_eq_false_iff, Option.isNone_some, Option.isSome_some, Option.isNone_none, Option.isSome_none, Int.not_lt, Int.not_le, beq_iff_eq, beq_eq_false_iff_ne, bne_iff_ne, ne_eq, Bool.not_not, Decidable.not_not] at h27
        have hq0 : 0 ≤ q := by omega
        have hqn : q.toNat < g.ms.length := by omega
        obtain ⟨b, hbi⟩ : ∃ b, bs[q.toNat]? = some b := ⟨_, List.getElem?_eq_getElem (by omega)⟩
        have hzm := zip_get (mem_get hqn) hbi
        have hng : ¬ (q < 0 ∨ (g.ms.length : Int) ≤ q ∨ (g.kind = sRed ∧ q ≠ g.root)) := by
          rintro (g1 | g1 | g1)
          · omega
          · omega
          · exact h27 g1.1
        refine JO.no rfl rfl rfl ?_
        refine JO.no rfl rfl rfl ?_
        refine JO.no rfl rfl rfl ?_
        refine JO.no rfl rfl rfl ?_
        refine JO.no rfl rfl rfl ?_
        refine JO.no rfl rfl rfl ?_
        refine JO.pur rfl rfl rfl (Pur.pickF rfl rfl) ?_
        refine JO.pur rfl rfl rfl (Pur.pickF rfl rfl) ?_
        refine JO.pur rfl rfl rfl (Pur.assign rfl) ?_
        refine JO.nil ?_
        refine J.condF rfl rfl ?_
        refine J.seq rfl ?_
        refine J.region rfl ?_
        refine JO.pur rfl rfl rfl (Pur.move rfl) ?_
        refine JO.pur rfl rfl rfl (Pur.nilCheck rfl) ?_
        refine JO.pur rfl rfl rfl (Pur.fieldAddr rfl) ?_
        refine JO.pur rfl rfl rfl (Pur.load rfl (CellIn.blk rfl)) ?_
        refine JO.pur rfl rfl rfl (Pur.move rfl) ?_
        refine JO.pur rfl rfl rfl (Pur.idx rfl rfl rfl (by first | rfl | (simp; done) | omega | (rw [List.length_zip]; omega)) (Int.toNat_of_nonneg hq0).symm (by rw [List.length_zip]; omega)) ?_
        refine JO.pur rfl rfl rfl (Pur.fieldAddr rfl) ?_
        refine JO.pur rfl rfl rfl (Pur.load rfl (CellIn.el rfl hzm rfl)) ?_
        refine JO.setv (u' := .bool (mem g q.toNat).has) 44 rfl rfl ?_
        refine JO.pur rfl rfl rfl (Pur.not rfl) ?_
        refine JO.pur rfl rfl rfl (Pur.assign rfl) ?_
        refine JO.nil ?_
        refine J.splitB 36 rfl (fun h36 => ?_) (fun h36 => ?_)
        · try simp only [decide_eq_true_eq, decide_eq_false_iff_not, Bool.not_eq_true', Bool.not_eq_false', Bool.and_eq_true, Bool.or_eq_true, Bool.and_eq_false_iff, Bool.or_eq_false_iff, Option.isNone_some, Option.isSome_some, Option.isNone_none, Option.isSome_none, Int.not_lt, Int.not_le, beq_iff_eq, beq_eq_false_iff_ne, bne_iff_ne, ne_eq, Bool.not_not, Decidable.not_not] at h36
          have hbad : resV g q = (0, 171) := by unfold resV; rw [if_neg hng, if_neg (by simpa using h36)]
          refine J.condT rfl rfl ?_
          refine J.seq rfl ?_
          refine J.region rfl ?_
          refine JO.pur rfl rfl rfl (Pur.assign rfl) ?_
          refine JO.pur rfl rfl rfl (Pur.assign rfl) ?_
          refine JO.nil ?_
          refine J.ret rfl rfl ?_
          refine ⟨_, _, ⟨rfl, rfl⟩, ?_, fun h s => GB_mk (g := g) (af := af) (cf := cf) hb (SubC.out (M := blk p (gC g.kind g.op g.root am g.ms.length cm af g.fly.length cf g.sent) :: sl memE am cm (g.ms.zip bs) :: sl msgE af cf g.fly :: star (List.zipWith mpA bs g.ms) :: L) h s)⟩
          rw [hbad]; rfl
        · try simp only [decide_eq_true_eq, decide_eq_false_iff_not, Bool.not_eq_true', Bool.not_eq_false', Bool.and_eq_true, Bool.or_eq_true, Bool.and_eq_false_iff, Bool.or_eq_false_iff, Option.isNone_some, Option.isSome_some, Option.isNone_none, Option.isSome_none, Int.not_lt, Int.not_le, beq_iff_eq, beq_eq_false_iff_ne, bne_iff_ne, ne_eq, Bool.not_not, Decidable.not_not] at h36
          have hbad : resV g q = ((mem g q.toNat).res, 0) := by unfold resV; rw [if_neg hng, if_pos (by simpa using h36)]
          refine J.condF rfl rfl ?_
          refine J.skip rfl ?_
          refine J.inBlock ?_
          refine J.seq rfl ?_
          refine J.region rfl ?_
          refine JO.pur rfl rfl rfl (Pur.move rfl) ?_
          refine JO.pur rfl rfl rfl (Pur.nilCheck rfl) ?_
          refine JO.pur rfl rfl rfl (Pur.fieldAddr rfl) ?_
          refine JO.pur rfl rfl rfl (Pur.load rfl (CellIn.blk rfl)) ?_
          refine JO.pur rfl rfl rfl (Pur.move rfl) ?_
          refine JO.pur rfl rfl rfl (Pur.idx rfl rfl rfl (by first | rfl | (simp; done) | omega | (rw [List.length_zip]; omega)) (Int.toNat_of_nonneg hq0).symm (by rw [List.length_zip]; omega)) ?_
          refine JO.pur rfl rfl rfl (Pur.fieldAddr rfl) ?_
          refine JO.pur rfl rfl rfl (Pur.load rfl (CellIn.el rfl hzm rfl)) ?_
          refine JO.setv (u' := .int .i64 (mem g q.toNat).res) 53 rfl rfl ?_
          refine JO.pur rfl rfl rfl (Pur.assign rfl) ?_
          refine JO.pur rfl rfl rfl (Pur.assign rfl) ?_
          refine JO.nil ?_
          refine J.ret rfl rfl ?_
          refine ⟨_, _, ⟨rfl, rfl⟩, ?_, fun h s => GB_mk (g := g) (af := af) (cf := cf) hb (SubC.out (M := blk p (gC g.kind g.op g.root am g.ms.length cm af g.fly.length cf g.sent) :: sl memE am cm (g.ms.zip bs) :: sl msgE af cf g.fly :: star (List.zipWith mpA bs g.ms) :: L) h s)⟩
          rw [hbad]; rfl

instance memD (t : ByteArray) (ss : List ByteArray) : Decidable (t ∈ ss) := decidable_of_iff (ss.any (fun x => decide (t = x)) = true) (by simp)
theorem index_ok {L : List Asn} {sa : Option Addr} {n cap : Nat} {ss : List ByteArray} {t : ByteArray} [SlIn strE L sa ss] (hn : n = ss.length) (hs : ss.length ≤ 1000000) :
    CallS Try.prog 90 [.slice sa n cap, .string t].toArray L (fun v M => ∃ z : Int, v = .int .i64 z ∧ (0 ≤ z ↔ t ∈ ss) ∧ M = L) := by
  subst hn
  refine CallS.ent ?_
  refine CallS.enter Try.func90 rfl rfl rfl rfl rfl ?_
  refine J.seq rfl ?_
  refine J.region rfl ?_
  refine JO.pur rfl rfl rfl (Pur.assign rfl) ?_
  refine JO.nil ?_
  refine J.seq rfl ?_
  refine J.seq rfl ?_
  refine J.region rfl ?_
  refine JO.pur rfl rfl rfl (Pur.move rfl) ?_
  refine JO.pur rfl rfl rfl (Pur.len rfl) ?_
  refine JO.pur rfl rfl rfl (Pur.move rfl) ?_
  refine JO.nil ?_
  refine J.block rfl ?_
  refine J.loopF (ι := Nat) (fun q => q ≤ ss.length ∧ ∀ j x, j < q → ss[j]? = some x → ¬ t = x) (fun q => [(8, .int .i64 (q : Int))]) [(0, _), (1, _), (7, _)] (fun q => L) (fun q => ss.length - q) 0 rfl (.cons rfl rfl (.cons rfl rfl (.cons rfl rfl .nil))) (.cons rfl rfl .nil) (by first | exact fun _ h => h | exact SubC.out | (dsimp only; exact SubC.out)) ⟨Nat.zero_le _, fun j x hj => absurd hj (Nat.not_lt_zero j)⟩ ?_
  rintro q ⟨hq, hno⟩ ihq
  try dsimp only
  refine J.seq rfl ?_
  refine J.region rfl ?_
  refine JO.pur rfl rfl rfl (Pur.lss rfl rfl) ?_
  refine JO.nil ?_
  refine J.seq rfl ?_
  refine J.splitB 9 rfl (fun h9 => ?_) (fun h9 => ?_)
  · try simp only [decide_eq_true_eq, decide_eq_false_iff_not, Bool.not_eq_true', Bool.not_eq_false', Bool.and_eq_true, Bool.or_eq_true, Bool.and_eq_false_iff, Bool.or_eq_false_iff, Option.isNone_some, Option.isSome_some, Option.isNone_none, Option.isSome_none, Int.not_lt, Int.not_le, beq_iff_eq, beq_eq_false_iff_ne, bne_iff_ne, ne_eq, Bool.not_not, Decidable.not_not] at h9
    have hql : q < ss.length := by omega
    obtain ⟨x, hX⟩ : ∃ x, ss[q]? = some x := ⟨_, List.getElem?_eq_getElem hql⟩
    refine J.condT rfl rfl ?_
    refine J.skip rfl ?_
    refine J.seq rfl ?_
    refine J.block rfl ?_
    refine J.seq rfl ?_
    refine J.region rfl ?_
    refine JO.pur rfl rfl rfl (Pur.move rfl) ?_
    refine JO.pur rfl rfl rfl (Pur.assign rfl) ?_
    refine JO.nil ?_
    refine J.seq rfl ?_
    refine J.region rfl ?_
    refine JO.pur rfl rfl rfl (Pur.move rfl) ?_
    refine JO.pur rfl rfl rfl (Pur.move rfl) ?_
    refine JO.pur rfl rfl rfl (Pur.move rfl) ?_
    refine JO.pur rfl rfl rfl (Pur.idx rfl rfl rfl (by first | rfl | (simp; done) | omega) rfl (by omega)) ?_
    refine JO.pur rfl rfl rfl (Pur.load rfl (CellIn.el0 rfl hX rfl)) ?_
    refine JO.setv (u' := .string x) 15 rfl rfl ?_
    refine JO.pur rfl rfl rfl (Pur.eqlT rfl rfl) ?_
    refine JO.nil ?_
    refine J.splitB 16 rfl (fun h16 => ?_) (fun h16 => ?_)
    · try simp only [decide_eq_true_eq, decide_eq_false_iff_not, Bool.not_eq_true', Bool.not_eq_false', Bool.and_eq_true, Bool.or_eq_true, Bool.and_eq_false_iff, Bool.or_eq_false_iff, Option.isNone_some, Option.isSome_some, Option.isNone_none, Option.isSome_none, Int.not_lt, Int.not_le, beq_iff_eq, beq_eq_false_iff_ne, bne_iff_ne, ne_eq, Bool.not_not, Decidable.not_not] at h16
      have hin : t ∈ ss := by rw [h16]; exact List.mem_of_getElem? hX
      refine J.condT rfl rfl ?_
      refine J.seq rfl ?_
      refine J.region rfl ?_
      refine JO.pur rfl rfl rfl (Pur.move rfl) ?_
      refine JO.pur rfl rfl rfl (Pur.assign rfl) ?_
      refine JO.nil ?_
      refine J.ret rfl rfl ?_
      refine ⟨_, _, ⟨_, rfl, ⟨fun _ => hin, fun _ => by omega⟩, rfl⟩, rfl, SubC.out⟩
    · try simp only [decide_eq_true_eq, decide_eq_false_iff_not, Bool.not_eq_true', Bool.not_eq_false', Bool.and_eq_true, Bool.or_eq_true, Bool.and_eq_false_iff, Bool.or_eq_false_iff, Option.isNone_some, Option.isSome_some, Option.isNone_none, Option.isSome_none, Int.not_lt, Int.not_le, beq_iff_eq, beq_eq_false_iff_ne, bne_iff_ne, ne_eq, Bool.not_not, Decidable.not_not] at h16
      have hno2 : ∀ j y, j < q + 1 → ss[j]? = some y → ¬ t = y := fun j y hj hy => by
        rcases Nat.lt_or_ge j q with h | h
        · exact hno j y h hy
        · obtain rfl : j = q := by omega
          rw [hX] at hy; rw [← Option.some.inj hy]; exact h16
      refine J.condF rfl rfl ?_
      refine J.skip rfl ?_
      refine J.inBlock ?_
      refine J.region rfl ?_
      refine JO.pur rfl rfl rfl (Pur.add rfl rfl (wr64 (by omega))) ?_
      refine JO.pur rfl rfl rfl (Pur.move rfl) ?_
      refine JO.nil ?_
      exact J.weaken (.cons rfl (congrArg (Value.int .i64) (by first | rfl | (dsimp only; omega))) (.cons rfl rfl (.cons rfl rfl (.cons rfl rfl .nil)))) (by first | exact fun _ h => h | exact SubC.out | (dsimp only; exact SubC.out)) (ihq (q + 1) ⟨by omega, hno2⟩ (by omega))
  · try simp only [decide_eq_true_eq, decide_eq_false_iff_not, Bool.not_eq_true', Bool.not_eq_false', Bool.and_eq_true, Bool.or_eq_true, Bool.and_eq_false_iff, Bool.or_eq_false_iff, Option.isNone_some, Option.isSome_some, Option.isNone_none, Option.isSome_none, Int.not_lt, Int.not_le, beq_iff_eq, beq_eq_false_iff_ne, bne_iff_ne, ne_eq, Bool.not_not, Decidable.not_not] at h9
    have hni : ¬ t ∈ ss := fun g => by obtain ⟨j, hj, e⟩ := List.getElem_of_mem g; exact hno j t (by omega) (by rw [List.getElem?_eq_getElem hj, e]) rfl
    refine J.condF rfl rfl ?_
    refine J.exit rfl rfl ?_
    refine J.seq rfl ?_
    refine J.region rfl ?_
    refine JO.pur rfl rfl rfl (Pur.assign rfl) ?_
    refine JO.nil ?_
    refine J.ret rfl rfl ?_
    refine ⟨_, _, ⟨_, rfl, ⟨fun g => absurd g (by decide), fun g => absurd g hni⟩, rfl⟩, rfl, SubC.out⟩

theorem contains_ok {L : List Asn} {sa : Option Addr} {n cap : Nat} {ss : List ByteArray} {t : ByteArray} [SlIn strE L sa ss] (hn : n = ss.length) (hs : ss.length ≤ 1000000) :
    CallS Try.prog 76 [.slice sa n cap, .string t].toArray L (fun v M => v = .bool (decide (t ∈ ss)) ∧ M = L) := by
  subst hn
  refine CallS.ent ?_
  refine CallS.enter Try.func76 rfl rfl rfl rfl rfl ?_
  refine J.seq rfl ?_
  refine J.region rfl ?_
  refine JO.pur rfl rfl rfl (Pur.assign rfl) ?_
  refine JO.nil ?_
  refine J.seq rfl ?_
  refine J.region rfl ?_
  refine JO.pur rfl rfl rfl (Pur.move rfl) ?_
  refine JO.pur rfl rfl rfl (Pur.move rfl) ?_
  refine JO.eff rfl rfl rfl (Eff.call rfl (index_ok (ss := ss) (t := t) rfl hs)) ?_
  rintro _ _ ⟨z, rfl, hz, rfl⟩
  refine JO.pur rfl rfl rfl (Pur.geq rfl rfl) ?_
  refine JO.pur rfl rfl rfl (Pur.assign rfl) ?_
  refine JO.nil ?_
  refine J.ret rfl rfl ?_
  refine ⟨_, _, ⟨rfl, rfl⟩, congrArg Value.bool (decide_eq_decide.2 hz), SubC.out⟩

def kinds : List ByteArray := [⟨#[99, 97, 115, 116]⟩, ⟨#[114, 101, 100, 117, 99, 101]⟩, ⟨#[97, 108, 108]⟩, ⟨#[98, 97, 114, 114, 105, 101, 114]⟩, ⟨#[115, 99, 97, 110]⟩]
def opsL : List ByteArray := [⟨#[43]⟩, ⟨#[42]⟩, ⟨#[109, 105, 110]⟩, ⟨#[109, 97, 120]⟩, ⟨#[38]⟩, ⟨#[124]⟩]
def nonV (o : ByteArray) : Int := if o = ⟨#[42]⟩ ∨ o = ⟨#[38]⟩ then 1 else if o = ⟨#[109, 105, 110]⟩ then 9223372036854775807 else if o = ⟨#[109, 97, 120]⟩ then -9223372036854775808 else 0
theorem isKind_ok {L : List Asn} {t : ByteArray} :
    CallS Try.prog 40 [.string t].toArray L (fun v M => v = .bool (decide (t ∈ kinds)) ∧ M = L) := by
  refine CallS.ent ?_
  refine CallS.enter Try.func40 rfl rfl rfl rfl rfl ?_
  refine J.seq rfl ?_
  refine J.region rfl ?_
  refine JO.pur rfl rfl rfl (Pur.assign rfl) ?_
  refine JO.nil ?_
  refine J.seq rfl ?_
  refine J.region rfl ?_
  refine JO.eff rfl rfl rfl (Eff.buildSlice strE kinds rfl rfl rfl rfl rfl rfl rfl) ?_
  rintro _ _ ⟨b3, rfl, -, rfl⟩
  refine JO.pur rfl rfl rfl (Pur.move rfl) ?_
  refine JO.effR rfl rfl rfl (Eff.call rfl (contains_ok (ss := kinds) (t := t) rfl (by decide))) ?_
  refine JO.pur rfl rfl rfl (Pur.assign rfl) ?_
  refine JO.nil ?_
  refine J.ret rfl rfl ?_
  refine ⟨_, _, ⟨rfl, rfl⟩, rfl, SubC.out⟩

theorem isSize_ok {L : List Asn} {n : Int} :
    CallS Try.prog 41 [.int .i64 n].toArray L (fun v M => v = .bool (decide (1 ≤ n ∧ n ≤ 8)) ∧ M = L) := by
  refine CallS.ent ?_
  refine CallS.enter Try.func41 rfl rfl rfl rfl rfl ?_
  refine J.seq rfl ?_
  refine J.region rfl ?_
  refine JO.pur rfl rfl rfl (Pur.assign rfl) ?_
  refine JO.nil ?_
  refine J.seq rfl ?_
  refine J.region rfl ?_
  refine JO.pur rfl rfl rfl (Pur.move rfl) ?_
  refine JO.pur rfl rfl rfl (Pur.geq rfl rfl) ?_
  refine JO.pur rfl rfl rfl (Pur.move rfl) ?_
  refine JO.splitB 5 rfl (fun h5 => ?_) (fun h5 => ?_)
  · try simp only [decide_eq_true_eq, decide_eq_false_iff_not, Bool.not_eq_true', Bool.not_eq_false', Bool.and_eq_true, Bool.or_eq_true, Bool.and_eq_false_iff, Bool.or_eq_false_iff, Option.isNone_some, Option.isSome_some, Option.isNone_none, Option.isSome_none, Int.not_lt, Int.not_le, beq_iff_eq, beq_eq_false_iff_ne, bne_iff_ne, ne_eq, Bool.not_not, Decidable.not_not] at h5
    refine JO.pur rfl rfl rfl (Pur.move rfl) ?_
    refine JO.pur rfl rfl rfl (Pur.leq rfl rfl) ?_
    refine JO.pur rfl rfl rfl (Pur.pickT rfl rfl) ?_
    refine JO.pur rfl rfl rfl (Pur.assign rfl) ?_
    refine JO.nil ?_
    refine J.ret rfl rfl ?_
    refine ⟨_, _, ⟨rfl, rfl⟩, congrArg Value.bool (by first | exact decide_eq_decide.2 (by omega) | exact (decide_eq_false (by omega)).symm), SubC.out⟩
  · try simp only [decide_eq_true_eq, decide_eq_false_iff_not, Bool.not_eq_true', Bool.not_eq_false', Bool.and_eq_true, Bool.or_eq_true, Bool.and_eq_false_iff, Bool.or_eq_false_iff, Option.isNone_some, Option.isSome_some, Option.isNone_none, Option.isSome_none, Int.not_lt, Int.not_le, beq_iff_eq, beq_eq_false_iff_ne, bne_iff_ne, ne_eq, Bool.not_not, Decidable.not_not] at h5
    refine JO.no rfl rfl rfl ?_
    refine JO.no rfl rfl rfl ?_
    refine JO.pur rfl rfl rfl (Pur.pickF rfl rfl) ?_
    refine JO.pur rfl rfl rfl (Pur.assign rfl) ?_
    refine JO.nil ?_
    refine J.ret rfl rfl ?_
    refine ⟨_, _, ⟨rfl, rfl⟩, congrArg Value.bool (by first | exact decide_eq_decide.2 (by omega) | exact (decide_eq_false (by omega)).symm), SubC.out⟩

theorem eNone_ok {L : List Asn} {t : ByteArray} :
    CallS Try.prog 77 [.string t].toArray L (fun v M => v = .int .i64 (nonV t) ∧ M = L) := by
  refine CallS.ent ?_
  refine CallS.enter Try.func77 rfl rfl rfl rfl rfl ?_
  refine J.seq rfl ?_
  refine J.region rfl ?_
  refine JO.pur rfl rfl rfl (Pur.assign rfl) ?_
  refine JO.nil ?_
  refine J.seq rfl ?_
  refine J.seq rfl ?_
  refine J.region rfl ?_
  refine JO.pur rfl rfl rfl (Pur.move rfl) ?_
  refine JO.nil ?_
  refine J.block rfl ?_
  refine J.seq rfl ?_
  refine J.seq rfl ?_
  refine J.region rfl ?_
  refine JO.pur rfl rfl rfl (Pur.eqlT rfl rfl) ?_
  refine JO.pur rfl rfl rfl (Pur.assign rfl) ?_
  refine JO.nil ?_
  refine J.splitB 4 rfl (fun h4 => ?_) (fun h4 => ?_)
  · try simp only [decide_eq_true_eq, decide_eq_false_iff_not, Bool.not_eq_true', Bool.not_eq_false', Bool.and_eq_true, Bool.or_eq_true, Bool.and_eq_false_iff, Bool.or_eq_false_iff, Option.isNone_some, Option.isSome_some, Option.isNone_none, Option.isSome_none, Int.not_lt, Int.not_le, beq_iff_eq, beq_eq_false_iff_ne, bne_iff_ne, ne_eq, Bool.not_not, Decidable.not_not] at h4
    refine J.condT rfl rfl ?_
    refine J.skip rfl ?_
    refine J.condT rfl rfl ?_
    refine J.seq rfl ?_
    refine J.region rfl ?_
    refine JO.pur rfl rfl rfl (Pur.assign rfl) ?_
    refine JO.nil ?_
    refine J.ret rfl rfl ?_
    refine ⟨_, _, ⟨rfl, rfl⟩, by simp_all [nonV] <;> rfl, SubC.out⟩
  · try simp only [decide_eq_true_eq, decide_eq_false_iff_not, Bool.not_eq_true', Bool.not_eq_false', Bool.and_eq_true, Bool.or_eq_true, Bool.and_eq_false_iff, Bool.or_eq_false_iff, Option.isNone_some, Option.isSome_some, Option.isNone_none, Option.isSome_none, Int.not_lt, Int.not_le, beq_iff_eq, beq_eq_false_iff_ne, bne_iff_ne, ne_eq, Bool.not_not, Decidable.not_not] at h4
    refine J.condF rfl rfl ?_
    refine J.region rfl ?_
    refine JO.pur rfl rfl rfl (Pur.eqlT rfl rfl) ?_
    refine JO.pur rfl rfl rfl (Pur.assign rfl) ?_
    refine JO.nil ?_
    refine J.splitB 4 rfl (fun h4 => ?_) (fun h4 => ?_)
    · try simp only [decide_eq_true_eq, decide_eq_false_iff_not, Bool.not_eq_true', Bool.not_eq_false', Bool.and_eq_true, Bool.or_eq_true, Bool.and_eq_false_iff, Bool.or_eq_false_iff, Option.isNone_some, Option.isSome_some, Option.isNone_none, Option.isSome_none, Int.not_lt, Int.not_le, beq_iff_eq, beq_eq_false_iff_ne, bne_iff_ne, ne_eq, Bool.not_not, Decidable.not_not] at h4
      refine J.condT rfl rfl ?_
      refine J.seq rfl ?_
      refine J.region rfl ?_
      refine JO.pur rfl rfl rfl (Pur.assign rfl) ?_
      refine JO.nil ?_
      refine J.ret rfl rfl ?_
      refine ⟨_, _, ⟨rfl, rfl⟩, by simp_all [nonV] <;> rfl, SubC.out⟩
    · try simp only [decide_eq_true_eq, decide_eq_false_iff_not, Bool.not_eq_true', Bool.not_eq_false', Bool.and_eq_true, Bool.or_eq_true, Bool.and_eq_false_iff, Bool.or_eq_false_iff, Option.isNone_some, Option.isSome_some, Option.isNone_none, Option.isSome_none, Int.not_lt, Int.not_le, beq_iff_eq, beq_eq_false_iff_ne, bne_iff_ne, ne_eq, Bool.not_not, Decidable.not_not] at h4
      refine J.condF rfl rfl ?_
      refine J.seq rfl ?_
      refine J.region rfl ?_
      refine JO.pur rfl rfl rfl (Pur.eqlT rfl rfl) ?_
      refine JO.pur rfl rfl rfl (Pur.assign rfl) ?_
      refine JO.nil ?_
      refine J.splitB 7 rfl (fun h7 => ?_) (fun h7 => ?_)
      · try simp only [decide_eq_true_eq, decide_eq_false_iff_not, Bool.not_eq_true', Bool.not_eq_false', Bool.and_eq_true, Bool.or_eq_true, Bool.and_eq_false_iff, Bool.or_eq_false_iff, Option.isNone_some, Option.isSome_some, Option.isNone_none, Option.isSome_none, Int.not_lt, Int.not_le, beq_iff_eq, beq_eq_false_iff_ne, bne_iff_ne, ne_eq, Bool.not_not, Decidable.not_not] at h7
        refine J.condT rfl rfl ?_
        refine J.seq rfl ?_
        refine J.region rfl ?_
        refine JO.pur rfl rfl rfl (Pur.assign rfl) ?_
        refine JO.nil ?_
        refine J.ret rfl rfl ?_
        refine ⟨_, _, ⟨rfl, rfl⟩, by simp_all [nonV] <;> rfl, SubC.out⟩
      · try simp only [decide_eq_true_eq, decide_eq_false_iff_not, Bool.not_eq_true', Bool.not_eq_false', Bool.and_eq_true, Bool.or_eq_true, Bool.and_eq_false_iff, Bool.or_eq_false_iff, Option.isNone_some, Option.isSome_some, Option.isNone_none, Option.isSome_none, Int.not_lt, Int.not_le, beq_iff_eq, beq_eq_false_iff_ne, bne_iff_ne, ne_eq, Bool.not_not, Decidable.not_not] at h7
        refine J.condF rfl rfl ?_
        refine J.seq rfl ?_
        refine J.region rfl ?_
        refine JO.pur rfl rfl rfl (Pur.eqlT rfl rfl) ?_
        refine JO.pur rfl rfl rfl (Pur.assign rfl) ?_
        refine JO.nil ?_
        refine J.splitB 9 rfl (fun h9 => ?_) (fun h9 => ?_)
        · try simp only [decide_eq_true_eq, decide_eq_false_iff_not, Bool.not_eq_true', Bool.not_eq_false', Bool.and_eq_true, Bool.or_eq_true, Bool.and_eq_false_iff, Bool.or_eq_false_iff, Option.isNone_some, Option.isSome_some, Option.isNone_none, Option.isSome_none, Int.not_lt, Int.not_le, beq_iff_eq, beq_eq_false_iff_ne, bne_iff_ne, ne_eq, Bool.not_not, Decidable.not_not] at h9
          refine J.condT rfl rfl ?_
          refine J.seq rfl ?_
          refine J.region rfl ?_
          refine JO.pur rfl rfl rfl (Pur.assign rfl) ?_
          refine JO.nil ?_
          refine J.ret rfl rfl ?_
          refine ⟨_, _, ⟨rfl, rfl⟩, by simp_all [nonV] <;> rfl, SubC.out⟩
        · try simp only [decide_eq_true_eq, decide_eq_false_iff_not, Bool.not_eq_true', Bool.not_eq_false', Bool.and_eq_true, Bool.or_eq_true, Bool.and_eq_false_iff, Bool.or_eq_false_iff, Option.isNone_some, Option.isSome_some, Option.isNone_none, Option.isSome_none, Int.not_lt, Int.not_le, beq_iff_eq, beq_eq_false_iff_ne, bne_iff_ne, ne_eq, Bool.not_not, Decidable.not_not] at h9
          refine J.condF rfl rfl ?_
          refine J.skip rfl ?_
          refine J.inBlock ?_
          refine J.seq rfl ?_
          refine J.region rfl ?_
          refine JO.pur rfl rfl rfl (Pur.assign rfl) ?_
          refine JO.nil ?_
          refine J.ret rfl rfl ?_
          refine ⟨_, _, ⟨rfl, rfl⟩, by simp_all [nonV] <;> rfl, SubC.out⟩

theorem pNone_ok {L : List Asn} {t : ByteArray} :
    CallS Try.prog 39 [.string t].toArray L (fun v M => v = (if t ∈ opsL then .tuple #[.int .i64 (nonV t), .int .i64 0] else .tuple #[.int .i64 0, .int .i64 2]) ∧ M = L) := by
  refine CallS.ent ?_
  refine CallS.enter Try.func39 rfl rfl rfl rfl rfl ?_
  refine J.seq rfl ?_
  refine J.region rfl ?_
  refine JO.pur rfl rfl rfl (Pur.assign rfl) ?_
  refine JO.pur rfl rfl rfl (Pur.assign rfl) ?_
  refine JO.nil ?_
  refine J.seq rfl ?_
  refine J.seq rfl ?_
  refine J.region rfl ?_
  refine JO.eff rfl rfl rfl (Eff.buildSlice strE opsL rfl rfl rfl rfl rfl rfl rfl) ?_
  rintro _ _ ⟨b4, rfl, -, rfl⟩
  refine JO.pur rfl rfl rfl (Pur.move rfl) ?_
  refine JO.effR rfl rfl rfl (Eff.call rfl (contains_ok (ss := opsL) (t := t) rfl (by decide))) ?_
  refine JO.pur rfl rfl rfl (Pur.not rfl) ?_
  refine JO.nil ?_
  refine J.splitB 7 rfl (fun h7 => ?_) (fun h7 => ?_)
  · try simp only [decide_eq_true_eq, decide_eq_false_iff_not, Bool.not_eq_true', Bool.not_eq_false', Bool.and_eq_true, Bool.or_eq_true, Bool.and_eq_false_iff, Bool.or_eq_false_iff, Option.isNone_some, Option.isSome_some, Option.isNone_none, Option.isSome_none, Int.not_lt, Int.not_le, beq_iff_eq, beq_eq_false_iff_ne, bne_iff_ne, ne_eq, Bool.not_not, Decidable.not_not] at h7
    refine J.condT rfl rfl ?_
    refine J.seq rfl ?_
    refine J.region rfl ?_
    refine JO.pur rfl rfl rfl (Pur.assign rfl) ?_
    refine JO.pur rfl rfl rfl (Pur.assign rfl) ?_
    refine JO.nil ?_
    refine J.ret rfl rfl ?_
    refine ⟨_, _, ⟨rfl, rfl⟩, by rw [if_neg (by simpa using h7)]; rfl, SubC.out⟩
  · try simp only [decide_eq_true_eq, decide_eq_false_iff_not, Bool.not_eq_true', Bool.not_eq_false', Bool.and_eq_true, Bool.or_eq_true, Bool.and_eq_false_iff, Bool.or_eq_false_iff, Option.isNone_some, Option.isSome_some, Option.isNone_none, Option.isSome_none, Int.not_lt, Int.not_le, beq_iff_eq, beq_eq_false_iff_ne, bne_iff_ne, ne_eq, Bool.not_not, Decidable.not_not] at h7
    refine J.condF rfl rfl ?_
    refine J.skip rfl ?_
    refine J.seq rfl ?_
    refine J.region rfl ?_
    refine JO.pur rfl rfl rfl (Pur.move rfl) ?_
    refine JO.effR rfl rfl rfl (Eff.call rfl (eNone_ok (t := t))) ?_
    refine JO.pur rfl rfl rfl (Pur.assign rfl) ?_
    refine JO.pur rfl rfl rfl (Pur.assign rfl) ?_
    refine JO.nil ?_
    refine J.ret rfl rfl ?_
    refine ⟨_, _, ⟨rfl, rfl⟩, by rw [if_pos (by simpa using h7)]; rfl, SubC.out⟩

end Go.Proofs.Ytoikjjpleonllaa

/- The text G6. -/
set_option linter.unusedVariables false
set_option linter.unusedSimpArgs false
set_option maxRecDepth 10000
namespace Go.Proofs.Ytoikjjpleonllaa
open Go Go.KK Gr

def ms0 (vs : List Int) : List Mm := vs.map fun v => ⟨v, 0, [], false, 0⟩
def newS (vs : List Int) : Gs := begS (scan0 vs) vs.length
theorem ms0_len (vs : List Int) : (ms0 vs).length = vs.length := by simp [ms0]
theorem take_get {α : Type} {l : List α} {k : Nat} {x : α} (h : l[k]? = some x) : l.take (k + 1) = l.take k ++ [x] := by
  rw [List.take_add_one, h]; rfl
abbrev aw0 : Gs := newS [1, 2, 3]
end Go.Proofs.Ytoikjjpleonllaa

/- The text G7. -/
set_option linter.unusedVariables false
set_option linter.unusedSimpArgs false
set_option maxRecDepth 10000
namespace Go.Proofs.Ytoikjjpleonllaa
open Go Go.KK Gr

def ptrE : Enc (Option Nat) := ⟨25, 1, fun o => [.pointer (o.map fun b => (⟨b, 0, none⟩ : Addr))], fun _ => rfl, fun s v h => by
  simp only [List.mem_cons, List.not_mem_nil, or_false] at h; rcases h with rfl; rfl⟩
end Go.Proofs.Ytoikjjpleonllaa

/- The text G8a. -/
set_option linter.unusedVariables false
set_option linter.unusedSimpArgs false
set_option maxRecDepth 10000
namespace Go.Proofs.Ytoikjjpleonllaa
open Go Go.KK Gr

theorem rank_ok {L : List Asn} {n root p : Nat} (hn : n ≤ 8) (hr : root < n) (hp : p < n) :
    CallS Try.prog 83 [.int .i64 (n : Int), .int .i64 (root : Int), .int .i64 (p : Int)].toArray L (fun v M => v = .int .i64 ((rk n root p : Nat) : Int) ∧ M = L) := by
  refine CallS.ent ?_
  refine CallS.enter Try.func83 rfl rfl rfl rfl rfl ?_
  refine J.seq rfl ?_
  refine J.region rfl ?_
  refine JO.pur rfl rfl rfl (Pur.assign rfl) ?_
  refine JO.nil ?_
  refine J.seq rfl ?_
  refine J.region rfl ?_
  refine JO.pur rfl rfl rfl (Pur.move rfl) ?_
  refine JO.pur rfl rfl rfl (Pur.move rfl) ?_
  refine JO.pur rfl rfl rfl (Pur.sub rfl rfl (wr64 (by omega))) ?_
  refine JO.pur rfl rfl rfl (Pur.move rfl) ?_
  refine JO.pur rfl rfl rfl (Pur.add rfl rfl (wr64 (by omega))) ?_
  refine JO.setv (u' := .int .i64 ((p + n - root : Nat) : Int)) 11 rfl (congrArg (Value.int .i64) (by omega)) ?_
  refine JO.pur rfl rfl rfl (Pur.move rfl) ?_
  refine JO.pur rfl rfl rfl (Pur.rem rfl rfl (by omega)) ?_
  refine JO.pur rfl rfl rfl (Pur.assign rfl) ?_
  refine JO.nil ?_
  refine J.ret rfl rfl ?_
  refine ⟨_, _, ⟨rfl, rfl⟩, congrArg (Value.int .i64) (tmodN _ _), SubC.out⟩

theorem parent_ok {L : List Asn} {n root p : Nat} (hn : n ≤ 8) (hr : root < n) (hp : p < n) (hne : p ≠ root) :
    CallS Try.prog 60 [.int .i64 (n : Int), .int .i64 (root : Int), .int .i64 (p : Int)].toArray L (fun v M => v = .int .i64 ((parP n root p : Nat) : Int) ∧ M = L) := by
  have hrl : rk n root p < n := rk_lt (by omega)
  refine CallS.ent ?_
  refine CallS.enter Try.func60 rfl rfl rfl rfl rfl ?_
  refine J.seq rfl ?_
  refine J.region rfl ?_
  refine JO.pur rfl rfl rfl (Pur.assign rfl) ?_
  refine JO.nil ?_
  refine J.seq rfl ?_
  refine J.region rfl ?_
  refine JO.pur rfl rfl rfl (Pur.move rfl) ?_
  refine JO.pur rfl rfl rfl (Pur.move rfl) ?_
  refine JO.pur rfl rfl rfl (Pur.move rfl) ?_
  refine JO.effR rfl rfl rfl (Eff.call rfl (rank_ok hn hr hp)) ?_
  refine JO.pur rfl rfl rfl (Pur.assign rfl) ?_
  refine JO.nil ?_
  refine J.seq rfl ?_
  have hrp := rk_pos n (by omega) root hr p hp hne
  refine J.region rfl ?_
  refine JO.pur rfl rfl rfl (Pur.move rfl) ?_
  refine JO.pur rfl rfl rfl (Pur.move rfl) ?_
  refine JO.pur rfl rfl rfl (Pur.sub rfl rfl (wr64 (by omega))) ?_
  refine JO.setv (u' := .int .i64 ((rk n root p - 1 : Nat) : Int)) 14 rfl (congrArg (Value.int .i64) (by omega)) ?_
  refine JO.pur rfl rfl rfl (Pur.andN rfl rfl rfl rfl (by omega) (by omega)) ?_
  have hab : rk n root p &&& (rk n root p - 1) ≤ rk n root p := Nat.and_le_left
  obtain ⟨ab, hab2⟩ : ∃ ab, ab = rk n root p &&& (rk n root p - 1) := ⟨_, rfl⟩
  rw [← hab2] at hab
  refine JO.setv (u' := .int .i64 (ab : Int)) 15 rfl (by rw [hab2]) ?_
  refine JO.pur rfl rfl rfl (Pur.move rfl) ?_
  refine JO.pur rfl rfl rfl (Pur.add rfl rfl (wr64 (by omega))) ?_
  refine JO.setv (u' := .int .i64 ((ab + root : Nat) : Int)) 17 rfl rfl ?_
  refine JO.pur rfl rfl rfl (Pur.move rfl) ?_
  refine JO.pur rfl rfl rfl (Pur.rem rfl rfl (by omega)) ?_
  refine JO.pur rfl rfl rfl (Pur.assign rfl) ?_
  refine JO.nil ?_
  refine J.ret rfl rfl ?_
  refine ⟨_, _, ⟨rfl, rfl⟩, congrArg (Value.int .i64) (by rw [tmodN, hab2]; rfl), SubC.out⟩

theorem children_ok {L : List Asn} {n root p : Nat} (hn : n ≤ 8) (hr : root < n) (hp : p < n) :
    CallS Try.prog 56 [.int .i64 (n : Int), .int .i64 (root : Int), .int .i64 (p : Int)].toArray L (fun v M => ∃ a' c', v = .slice a' (natI (chP n root p)).length c' ∧ M = sl intE a' c' (natI (chP n root p)) :: L) := by
  have hrl : rk n root p < n := rk_lt (by omega)
  refine CallS.ent ?_
  refine CallS.enter Try.func56 rfl rfl rfl rfl rfl ?_
  refine J.seq rfl ?_
  refine J.region rfl ?_
  refine JO.pur rfl rfl rfl (Pur.assign rfl) ?_
  refine JO.nil ?_
  refine J.seq rfl ?_
  refine J.region rfl ?_
  refine JO.pur rfl rfl rfl (Pur.move rfl) ?_
  refine JO.pur rfl rfl rfl (Pur.move rfl) ?_
  refine JO.pur rfl rfl rfl (Pur.move rfl) ?_
  refine JO.effR rfl rfl rfl (Eff.call rfl (rank_ok hn hr hp)) ?_
  refine JO.pur rfl rfl rfl (Pur.assign rfl) ?_
  refine JO.nil ?_
  refine J.seq rfl ?_
  refine J.region rfl ?_
  refine JO.pur rfl rfl rfl (Pur.assign rfl) ?_
  refine JO.nil ?_
  refine J.seq rfl ?_
  refine J.seq rfl ?_
  refine J.region rfl ?_
  refine JO.pur rfl rfl rfl (Pur.assign rfl) ?_
  refine JO.nil ?_
  refine J.block rfl ?_
  refine J.loopF (ι := Nat × Option Addr × Nat) (fun q => q.1 ≤ 3 ∧ chk n root (rk n root p) bitL = ((bitL.take (q.1)).map fun b => ((rk n root p) + b + root) % n) ++ chk n root (rk n root p) (bitL.drop q.1)) (fun q => [(8, .slice q.2.1 (natI ((bitL.take (q.1)).map fun b => ((rk n root p) + b + root) % n)).length q.2.2), (9, .int .i64 ((2 ^ q.1 : Nat) : Int))]) [(0, _), (1, _), (7, _)] (fun q => sl intE q.2.1 q.2.2 (natI ((bitL.take (q.1)).map fun b => ((rk n root p) + b + root) % n)) :: L) (fun q => 3 - q.1) (0, none, 0) rfl (.cons rfl rfl (.cons rfl rfl (.cons rfl rfl .nil))) (.cons rfl rfl (.cons rfl rfl .nil)) (fun h s => by have s2 := sl_nil_new (E := intE) s; exact s2) ⟨Nat.zero_le _, rfl⟩ ?_
  rintro ⟨k, a8, c8⟩ ⟨hk, hck⟩ ihk
  try dsimp only
  dsimp only at hk hck
  have hw8 := pow_le hk
  obtain ⟨w, hw⟩ : ∃ w, w = 2 ^ k := ⟨_, rfl⟩
  rw [← hw] at hw8 ⊢
  have hpl : (natI ((bitL.take (k)).map fun b => ((rk n root p) + b + root) % n)).length = k := by simp [natI, bitL]; omega
  refine J.seq rfl ?_
  refine J.seq rfl ?_
  refine J.region rfl ?_
  refine JO.pur rfl rfl rfl (Pur.move rfl) ?_
  refine JO.pur rfl rfl rfl (Pur.move rfl) ?_
  refine JO.pur rfl rfl rfl (Pur.add rfl rfl (wr64 (by omega))) ?_
  refine JO.pur rfl rfl rfl (Pur.move rfl) ?_
  refine JO.pur rfl rfl rfl (Pur.lss rfl rfl) ?_
  refine JO.pur rfl rfl rfl (Pur.move rfl) ?_
  refine JO.splitB 19 rfl (fun h19 => ?_) (fun h19 => ?_)
  · try simp only [decide_eq_true_eq, decide_eq_false_iff_not, Bool.not_eq_true', Bool.not_eq_false', Bool.and_eq_true, Bool.or_eq_true, Bool.and_eq_false_iff, Bool.or_eq_false_iff, Option.isNone_some, Option.isSome_some, Option.isNone_none, Option.isSome_none, Int.not_lt, Int.not_le, beq_iff_eq, beq_eq_false_iff_ne, bne_iff_ne, ne_eq, Bool.not_not, Decidable.not_not] at h19
    have hlt : (rk n root p) + w < n := by omega
    have hk3 : k < 3 := by
      rcases Nat.lt_or_ge k 3 with h | h
      · exact h
      · have : k = 3 := by omega
        rw [this] at hw; omega
    refine JO.pur rfl rfl rfl (Pur.move rfl) ?_
    refine JO.pur rfl rfl rfl (Pur.move rfl) ?_
    refine JO.pur rfl rfl rfl (Pur.andN rfl rfl rfl rfl (by omega) (by omega)) ?_
    refine JO.pur rfl rfl rfl (Pur.eqlI rfl rfl) ?_
    refine JO.pur rfl rfl rfl (Pur.pickT rfl rfl) ?_
    refine JO.nil ?_
    refine J.splitB 24 rfl (fun h24 => ?_) (fun h24 => ?_)
    · try simp only [decide_eq_true_eq, decide_eq_false_iff_not, Bool.not_eq_true', Bool.not_eq_false', Bool.and_eq_true, Bool.or_eq_true, Bool.and_eq_false_iff, Bool.or_eq_false_iff, Option.isNone_some, Option.isSome_some, Option.isNone_none, Option.isSome_none, Int.not_lt, Int.not_le, beq_iff_eq, beq_eq_false_iff_ne, bne_iff_ne, ne_eq, Bool.not_not, Decidable.not_not] at h24
      have hz : (rk n root p) &&& w = 0 := by omega
      have hbd := bit_drop k hk3
      rw [← hw] at hbd
      have hpre : ((bitL.take (k + 1)).map fun b => ((rk n root p) + b + root) % n) = ((bitL.take (k)).map fun b => ((rk n root p) + b + root) % n) ++ [((rk n root p) + w + root) % n] := by rw [take_get (bit_get k hk3), List.map_append, ← hw]; rfl
      have hck2 : chk n root (rk n root p) bitL = ((bitL.take (k + 1)).map fun b => ((rk n root p) + b + root) % n) ++ chk n root (rk n root p) (bitL.drop (k + 1)) := by rw [hck, hbd, chk_yes hlt hz, hpre, List.append_assoc]; rfl
      refine J.condT rfl rfl ?_
      refine J.skip rfl ?_
      refine J.seq rfl ?_
      refine J.block rfl ?_
      refine J.region rfl ?_
      refine JO.pur rfl rfl rfl (Pur.move rfl) ?_
      refine JO.pur rfl rfl rfl (Pur.move rfl) ?_
      refine JO.pur rfl rfl rfl (Pur.move rfl) ?_
      refine JO.pur rfl rfl rfl (Pur.add rfl rfl (wr64 (by omega))) ?_
      refine JO.pur rfl rfl rfl (Pur.move rfl) ?_
      refine JO.pur rfl rfl rfl (Pur.add rfl rfl (wr64 (by omega))) ?_
      refine JO.setv (u' := .int .i64 (((rk n root p) + w + root : Nat) : Int)) 32 rfl rfl ?_
      refine JO.pur rfl rfl rfl (Pur.move rfl) ?_
      refine JO.pur rfl rfl rfl (Pur.rem rfl rfl (by omega)) ?_
      refine JO.setv (u' := .int .i64 ((((rk n root p) + w + root) % n : Nat) : Int)) 34 rfl (congrArg (Value.int .i64) (tmodN _ _)) ?_
      refine JO.eff rfl rfl rfl (Eff.buildSlice intE [((((rk n root p) + w + root) % n : Nat) : Int)] rfl rfl rfl rfl rfl rfl rfl) ?_
      rintro _ _ ⟨b35, rfl, -, rfl⟩
      refine JO.eff rfl rfl rfl (Eff.append rfl rfl rfl rfl (by first | rfl | omega | (simp; done) | (simp; omega)) (by first | rfl | omega | (simp; done) | (simp; omega)) (by decide) (by rw [hpl]; simp; omega) (by rw [hpl]; simp; omega) (fun h => by cases h)) ?_
      rintro _ _ ⟨a36, c36, rfl, rfl⟩
      refine JO.pur rfl rfl rfl (Pur.assign rfl) ?_
      refine JO.nil ?_
      refine J.inBlock ?_
      refine J.region rfl ?_
      refine JO.pur rfl rfl rfl (Pur.move rfl) ?_
      refine JO.pur rfl rfl rfl (Pur.mul rfl rfl (wr64 (by omega))) ?_
      refine JO.pur rfl rfl rfl (Pur.assign rfl) ?_
      refine JO.nil ?_
      exact J.weaken (.cons rfl (by dsimp only; rw [hpre, natI_app, List.length_append]; rfl) (.cons rfl (congrArg (Value.int .i64) (by dsimp only; rw [Nat.pow_succ, hw]; omega)) (.cons rfl rfl (.cons rfl rfl (.cons rfl rfl .nil))))) (fun h s => by dsimp only; rw [hpre, natI_app, natI_one]; exact SubC.out h s) (ihk (k + 1, a36, c36) ⟨by dsimp only; omega, hck2⟩ (by dsimp only; omega))
    · try simp only [decide_eq_true_eq, decide_eq_false_iff_not, Bool.not_eq_true', Bool.not_eq_false', Bool.and_eq_true, Bool.or_eq_true, Bool.and_eq_false_iff, Bool.or_eq_false_iff, Option.isNone_some, Option.isSome_some, Option.isNone_none, Option.isSome_none, Int.not_lt, Int.not_le, beq_iff_eq, beq_eq_false_iff_ne, bne_iff_ne, ne_eq, Bool.not_not, Decidable.not_not] at h24
      have hstop : chk n root (rk n root p) (bitL.drop k) = [] := by
        have hbd := bit_drop k hk3
        rw [hbd, ← hw]
        exact chk_no (fun g => by have := g.2; omega)
      refine J.condF rfl rfl ?_
      refine J.exit rfl rfl ?_
      refine J.seq rfl ?_
      refine J.region rfl ?_
      refine JO.pur rfl rfl rfl (Pur.move rfl) ?_
      refine JO.pur rfl rfl rfl (Pur.assign rfl) ?_
      refine JO.nil ?_
      refine J.ret rfl rfl ?_
      have hfin : chP n root p = ((bitL.take (k)).map fun b => ((rk n root p) + b + root) % n) := by unfold chP; rw [show ([1, 2, 4] : List Nat) = bitL from rfl, hck, hstop, List.append_nil]
      refine ⟨_, _, ⟨a8, c8, rfl, rfl⟩, by rw [hfin]; rfl, fun h s => ?_⟩
      rw [hfin]
      exact SubC.out h s
  · try simp only [decide_eq_true_eq, decide_eq_false_iff_not, Bool.not_eq_true', Bool.not_eq_false', Bool.and_eq_true, Bool.or_eq_true, Bool.and_eq_false_iff, Bool.or_eq_false_iff, Option.isNone_some, Option.isSome_some, Option.isNone_none, Option.isSome_none, Int.not_lt, Int.not_le, beq_iff_eq, beq_eq_false_iff_ne, bne_iff_ne, ne_eq, Bool.not_not, Decidable.not_not] at h19
    have hstop : chk n root (rk n root p) (bitL.drop k) = [] := by
      rcases Nat.lt_or_ge k 3 with h | h
      · rw [bit_drop k h, ← hw]; exact chk_no (fun g => by have := g.1; omega)
      · have : k = 3 := by omega
        rw [this]; rfl
    refine JO.no rfl rfl rfl ?_
    refine JO.no rfl rfl rfl ?_
    refine JO.no rfl rfl rfl ?_
    refine JO.no rfl rfl rfl ?_
    refine JO.pur rfl rfl rfl (Pur.pickF rfl rfl) ?_
    refine JO.nil ?_
    refine J.condF rfl rfl ?_
    refine J.exit rfl rfl ?_
    refine J.seq rfl ?_
    refine J.region rfl ?_
    refine JO.pur rfl rfl rfl (Pur.move rfl) ?_
    refine JO.pur rfl rfl rfl (Pur.assign rfl) ?_
    refine JO.nil ?_
    refine J.ret rfl rfl ?_
    have hfin : chP n root p = ((bitL.take (k)).map fun b => ((rk n root p) + b + root) % n) := by unfold chP; rw [show ([1, 2, 4] : List Nat) = bitL from rfl, hck, hstop, List.append_nil]
    refine ⟨_, _, ⟨a8, c8, rfl, rfl⟩, by rw [hfin]; rfl, fun h s => ?_⟩
    rw [hfin]
    exact SubC.out h s

end Go.Proofs.Ytoikjjpleonllaa

/- The text G8. -/
set_option linter.unusedVariables false
set_option linter.unusedSimpArgs false
set_option maxRecDepth 10000
namespace Go.Proofs.Ytoikjjpleonllaa
open Go Go.KK Gr

end Go.Proofs.Ytoikjjpleonllaa

/- The text GPlain2. -/
set_option linter.unusedVariables false
set_option linter.unusedSimpArgs false
/-! Collectives of a tree, plain. -/
namespace Gr
open Go Go.KK
def sCast : ByteArray := ⟨#[99, 97, 115, 116]⟩
def sAll : ByteArray := ⟨#[97, 108, 108]⟩
def sBar : ByteArray := ⟨#[98, 97, 114, 114, 105, 101, 114]⟩
def rt (g : Gs) : Nat := g.root.toNat
def chG (g : Gs) (p : Nat) : List Nat := chP g.ms.length (rt g) p
/-- Some messages downward. -/
def pk (g : Gs) (p : Nat) (v : Int) (cs : List Nat) : Gs := cs.foldl (fun g c => put g ⟨p, c, v, false, 0⟩) g
def castG (g : Gs) (p : Nat) (v : Int) : Gs := pk (setM g p { mem g p with res := v, has := true }) p v (chG g p)
def getV (m : List (Int × Int)) (c : Nat) : Int := (lookI m (c : Int)).getD 0
def accG (g : Gs) (p : Nat) (cs : List Nat) : Int := cs.foldl (fun a c => opV g.op a (getV (mem g p).got c)) (mem g p).v
def combG (g : Gs) (p : Nat) : Gs :=
  if ¬ p = rt g then put g ⟨p, parP g.ms.length (rt g) p, accG g p (chG g p), true, 0⟩
  else if g.kind = sRed then setM g p { mem g p with res := accG g p (chG g p), has := true }
  else castG g p (accG g p (chG g p))
def begT (g : Gs) : Nat → Gs
  | 0 => g
  | k + 1 => if chG (begT g k) k = [] then combG (begT g k) k else begT g k
def beginG (g : Gs) : Gs := if g.kind = sCast then castG g (rt g) (mem g (rt g)).v else if g.kind = sScan then begS g g.ms.length else begT g g.ms.length
def gotU (g : Gs) (m : Ms) : Mm := { mem g m.to with got := setI (mem g m.to).got (m.fr : Int) m.v }
def upG (g : Gs) (k : Nat) : Gs := setM (takeM g k) (msg g k).to (gotU g (msg g k))
def dlvT (g : Gs) (k : Nat) : Gs :=
  if (msg g k).up = true then
    (if (gotU g (msg g k)).got.length = (chG g (msg g k).to).length then combG (upG g k) (msg g k).to else upG g k)
  else castG (takeM g k) (msg g k).to (msg g k).v
def dlvG (g : Gs) (k : Nat) : Gs := if g.kind = sScan then dlvS g k else dlvT g k
/-- Well-formed, with a root among the members. -/
def wfT (g : Gs) : Prop := wf g ∧ 0 ≤ g.root ∧ g.root < (g.ms.length : Int)
theorem ch_lt {n root p c : Nat} (h : c ∈ chP n root p) (hn : 1 ≤ n) : c < n := by
  have : ∀ bs : List Nat, c ∈ chk n root (rk n root p) bs → c < n := by
    intro bs
    induction bs with
    | nil => intro h; cases h
    | cons b bs ih =>
      intro h; unfold chk at h
      split at h
      · rcases List.mem_cons.1 h with rfl | h
        · exact Nat.mod_lt _ hn
        · exact ih h
      · cases h
  exact this _ h
theorem chP_len (n root p : Nat) : (chP n root p).length ≤ 3 := chk_len n root _ [1, 2, 4]
theorem par_lt {n root p : Nat} (hn : 1 ≤ n) : parP n root p < n := Nat.mod_lt _ hn
/-- What stays the same: how many members, which kind, which root, which operation. -/
def sm (g g' : Gs) : Prop := g'.ms.length = g.ms.length ∧ g'.kind = g.kind ∧ g'.root = g.root ∧ g'.op = g.op
theorem sm.rfl {g : Gs} : sm g g := ⟨.refl _, .refl _, .refl _, .refl _⟩
theorem sm.trans {a b c : Gs} (h : sm a b) (h2 : sm b c) : sm a c := ⟨h2.1.trans h.1, h2.2.1.trans h.2.1, h2.2.2.1.trans h.2.2.1, h2.2.2.2.trans h.2.2.2⟩
theorem sm_put (g : Gs) (m : Ms) : sm g (put g m) := ⟨.refl _, .refl _, .refl _, .refl _⟩
theorem sm_set (g : Gs) (p : Nat) (m : Mm) : sm g (setM g p m) := ⟨set_len _ _ _, .refl _, .refl _, .refl _⟩
theorem sm_pk (p : Nat) (v : Int) : ∀ (cs : List Nat) (g : Gs), sm g (pk g p v cs)
  | [], g => sm.rfl
  | c :: cs, g => (sm_put g _).trans (sm_pk p v cs _)
theorem pk_fly (p : Nat) (v : Int) : ∀ (cs : List Nat) (g : Gs), (pk g p v cs).fly = g.fly ++ cs.map (fun c => (⟨p, c, v, false, 0⟩ : Ms))
  | [], g => (List.append_nil _).symm
  | c :: cs, g => by
    show (pk (put g _) p v cs).fly = _
    rw [pk_fly p v cs, List.map_cons, put]; simp
theorem pk_ms (p : Nat) (v : Int) : ∀ (cs : List Nat) (g : Gs), (pk g p v cs).ms = g.ms
  | [], g => .refl _
  | c :: cs, g => pk_ms p v cs _
theorem pk_snoc (g : Gs) (p : Nat) (v : Int) (cs : List Nat) (c : Nat) : pk g p v (cs ++ [c]) = put (pk g p v cs) ⟨p, c, v, false, 0⟩ := by unfold pk; rw [List.foldl_append]; rfl
theorem wf_pk {g : Gs} (h : wf g) {p : Nat} (hp : p < g.ms.length) (v : Int) (cs : List Nat) (hc : ∀ c ∈ cs, c < g.ms.length) : wf (pk g p v cs) := by
  refine ⟨by rw [pk_ms]; exact h.1, by rw [pk_ms]; exact h.2.1, by rw [pk_ms]; exact h.2.2.1, fun m hm => ?_⟩
  rw [pk_ms]
  rw [pk_fly] at hm
  rcases List.mem_append.1 hm with hm | hm
  · exact h.2.2.2 m hm
  · obtain ⟨c, hc1, rfl⟩ := List.mem_map.1 hm
    exact ⟨hc c hc1, hp, Nat.zero_le _⟩
theorem sm_cast (g : Gs) (p : Nat) (v : Int) : sm g (castG g p v) := (sm_set g p _).trans (sm_pk p v _ _)
theorem wf_cast {g : Gs} (h : wf g) {p : Nat} (hp : p < g.ms.length) (v : Int) : wf (castG g p v) := by
  have h9 := h.2.2.1 _ (mem_mem hp)
  have w1 := wf_set (p := p) (m := { mem g p with res := v, has := true }) h h9
  exact wf_pk w1 (by rw [set_len]; exact hp) v _ fun c hc => by rw [set_len]; exact ch_lt hc h.1
theorem cast_fly (g : Gs) (p : Nat) (v : Int) : (castG g p v).fly.length ≤ g.fly.length + 3 := by
  unfold castG
  rw [pk_fly, List.length_append, List.length_map]
  have := chP_len g.ms.length (rt g) p
  show g.fly.length + (chP g.ms.length (rt g) p).length ≤ _
  omega
theorem sm_comb (g : Gs) (p : Nat) : sm g (combG g p) := by
  unfold combG; split
  · exact sm_put _ _
  · split
    · exact sm_set _ _ _
    · exact sm_cast _ _ _
theorem wf_comb {g : Gs} (h : wf g) {p : Nat} (hp : p < g.ms.length) : wf (combG g p) := by
  unfold combG; split
  · exact wf_put h ⟨par_lt h.1, hp, Nat.zero_le _⟩
  · split
    · have h9 := h.2.2.1 _ (mem_mem hp)
      exact wf_set h h9
    · exact wf_cast h hp _
theorem comb_fly (g : Gs) (p : Nat) : (combG g p).fly.length ≤ g.fly.length + 3 := by
  unfold combG; split
  · simp [put]
  · split
    · show g.fly.length ≤ _; omega
    · exact cast_fly _ _ _
theorem begT_keep {g : Gs} (h : wf g) : ∀ k, k ≤ g.ms.length → wf (begT g k) ∧ sm g (begT g k) ∧ (begT g k).fly.length ≤ g.fly.length + 3 * k
  | 0, _ => ⟨h, sm.rfl, Nat.le_refl _⟩
  | k + 1, hk => by
    obtain ⟨a1, a2, a3⟩ := begT_keep h k (by omega)
    unfold begT; split
    · have := comb_fly (begT g k) k
      exact ⟨wf_comb a1 (by have := a2.1; omega), a2.trans (sm_comb _ _), by omega⟩
    · exact ⟨a1, a2, by omega⟩
theorem sm.wfT {g g' : Gs} (h : sm g g') (w : wf g') (ht : wfT g) : wfT g' := ⟨w, by rw [h.2.2.1]; exact ht.2.1, by rw [h.2.2.1, h.1]; exact ht.2.2⟩
end Gr
