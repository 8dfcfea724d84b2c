/-
  A part of the proof of the claim that this folder bears.
-/
import Derived.Test.YtoikjjpleonllaaPAC
/- The text G5. -/
set_option linter.unusedVariables false
set_option linter.unusedSimpArgs false
set_option maxRecDepth 10000
namespace Go.Proofs.Ytoikjjpleonllaa
open Go Go.KK Gr

theorem result_ok {L : List Asn} {p : Nat} {am : Option Addr} {cm : Nat} {bs : List Nat} {g : Gs} {q : Int} (hw : wf g) :
    CallS Try.prog 20 [.pointer (some ⟨p, 0, none⟩), .int .i64 q].toArray (GB p am cm bs g :: L) (fun v M => v = .tuple #[.int .i64 (resV g q).1, .int .i64 (resV g q).2] ∧ M = GB p am cm bs g :: L) := by
  have hn8 := hw.2.1
  have hn1 := hw.1
  refine CallS.ent ?_
  refine CallS.enter Try.func20 rfl rfl rfl rfl rfl ?_
  refine GB_open fun af cf hb => ?_
  refine J.seq rfl ?_
  refine J.region rfl ?_
  refine JO.pur rfl rfl rfl (Pur.assign rfl) ?_
  refine JO.pur rfl rfl rfl (Pur.assign rfl) ?_
  refine JO.nil ?_
  refine J.seq rfl ?_
  refine J.block rfl ?_
  refine J.seq rfl ?_
  refine J.region rfl ?_
  refine JO.pur rfl rfl rfl (Pur.move rfl) ?_
  refine JO.effR rfl rfl rfl (Eff.call rfl (none_ok)) ?_
  refine JO.pur rfl rfl rfl (Pur.assign rfl) ?_
  refine JO.nil ?_
  refine J.setv (u' := .bool false) 6 rfl (congrArg Value.bool (decide_eq_false (by omega))) ?_
  refine J.condF rfl rfl ?_
  refine J.seq rfl ?_
  refine J.region rfl ?_
  refine JO.pur rfl rfl rfl (Pur.move rfl) ?_
  refine JO.pur rfl rfl rfl (Pur.lss rfl rfl) ?_
  refine JO.pur rfl rfl rfl (Pur.move rfl) ?_
  refine JO.splitB 12 rfl (fun h12 => ?_) (fun h12 => ?_)
  · try simp only [bSimp, bSimp2, ne_eq] at h12
    have hbad : resV g q = (0, 2) := by unfold resV; rw [if_pos (.inl (by omega))]
    refine JO.no rfl rfl rfl ?_
    refine JO.no rfl rfl rfl ?_
    refine JO.no rfl rfl rfl ?_
    refine JO.no rfl rfl rfl ?_
    refine JO.no rfl rfl rfl ?_
    refine JO.no rfl rfl rfl ?_
    refine JO.no rfl rfl rfl ?_
    refine JO.pur rfl rfl rfl (Pur.pickT rfl rfl) ?_
    refine JO.pur rfl rfl rfl (Pur.move rfl) ?_
    refine JO.no rfl rfl rfl ?_
    refine JO.no rfl rfl rfl ?_
    refine JO.no rfl rfl rfl ?_
    refine JO.no rfl rfl rfl ?_
    refine JO.no rfl rfl rfl ?_
    refine JO.no rfl rfl rfl ?_
    refine JO.no rfl rfl rfl ?_
    refine JO.no rfl rfl rfl ?_
    refine JO.no rfl rfl rfl ?_
    refine JO.no rfl rfl rfl ?_
    refine JO.no rfl rfl rfl ?_
    refine JO.no rfl rfl rfl ?_
    refine JO.no rfl rfl rfl ?_
    refine JO.pur rfl rfl rfl (Pur.pickT rfl rfl) ?_
    refine JO.pur rfl rfl rfl (Pur.assign rfl) ?_
    refine JO.nil ?_
    refine J.condT rfl rfl ?_
    refine J.seq rfl ?_
    refine J.region rfl ?_
    refine JO.pur rfl rfl rfl (Pur.assign rfl) ?_
    refine JO.pur rfl rfl rfl (Pur.assign rfl) ?_
    refine JO.nil ?_
    refine J.ret rfl rfl ?_
    refine ⟨_, _, ⟨rfl, rfl⟩, ?_, fun h s => GB_mk (g := g) (af := af) (cf := cf) hb (SubC.out (M := blk p (gC g.kind g.op g.root am g.ms.length cm af g.fly.length cf g.sent) :: sl memE am cm (g.ms.zip bs) :: sl msgE af cf g.fly :: star (List.zipWith mpA bs g.ms) :: L) h s)⟩
    rw [hbad]; rfl
  · try simp only [bSimp, bSimp2, ne_eq] at h12
    refine JO.pur rfl rfl rfl (Pur.move rfl) ?_
    refine JO.pur rfl rfl rfl (Pur.move rfl) ?_
    refine JO.pur rfl rfl rfl (Pur.nilCheck rfl) ?_
    refine JO.pur rfl rfl rfl (Pur.fieldAddr rfl) ?_
    refine JO.pur rfl rfl rfl (Pur.load rfl (CellIn.blk rfl)) ?_
    refine JO.pur rfl rfl rfl (Pur.len rfl) ?_
    refine JO.pur rfl rfl rfl (Pur.geq rfl rfl) ?_
    refine JO.pur rfl rfl rfl (Pur.pickF rfl rfl) ?_
    refine JO.pur rfl rfl rfl (Pur.move rfl) ?_
    refine JO.splitB 21 rfl (fun h21 => ?_) (fun h21 => ?_)
    · try simp only [bSimp, bSimp2, ne_eq] at h21
      have hbad : resV g q = (0, 2) := by unfold resV; rw [if_pos (.inr (.inl (by omega)))]
      refine JO.no rfl rfl rfl ?_
      refine JO.no rfl rfl rfl ?_
      refine JO.no rfl rfl rfl ?_
      refine JO.no rfl rfl rfl ?_
      refine JO.no rfl rfl rfl ?_
      refine JO.no rfl rfl rfl ?_
      refine JO.no rfl rfl rfl ?_
      refine JO.no rfl rfl rfl ?_
      refine JO.no rfl rfl rfl ?_
      refine JO.no rfl rfl rfl ?_
      refine JO.no rfl rfl rfl ?_
      refine JO.no rfl rfl rfl ?_
      refine JO.no rfl rfl rfl ?_
      refine JO.pur rfl rfl rfl (Pur.pickT rfl rfl) ?_
      refine JO.pur rfl rfl rfl (Pur.assign rfl) ?_
      refine JO.nil ?_
      refine J.condT rfl rfl ?_
      refine J.seq rfl ?_
      refine J.region rfl ?_
      refine JO.pur rfl rfl rfl (Pur.assign rfl) ?_
      refine JO.pur rfl rfl rfl (Pur.assign rfl) ?_
      refine JO.nil ?_
      refine J.ret rfl rfl ?_
      refine ⟨_, _, ⟨rfl, rfl⟩, ?_, fun h s => GB_mk (g := g) (af := af) (cf := cf) hb (SubC.out (M := blk p (gC g.kind g.op g.root am g.ms.length cm af g.fly.length cf g.sent) :: sl memE am cm (g.ms.zip bs) :: sl msgE af cf g.fly :: star (List.zipWith mpA bs g.ms) :: L) h s)⟩
      rw [hbad]; rfl
    · try simp only [bSimp, bSimp2, ne_eq] at h21
      refine JO.pur rfl rfl rfl (Pur.move rfl) ?_
      refine JO.pur rfl rfl rfl (Pur.nilCheck rfl) ?_
      refine JO.pur rfl rfl rfl (Pur.fieldAddr rfl) ?_
      refine JO.pur rfl rfl rfl (Pur.load rfl (CellIn.blk rfl)) ?_
      refine JO.pur rfl rfl rfl (Pur.eqlT rfl rfl) ?_
      refine JO.pur rfl rfl rfl (Pur.move rfl) ?_
      refine JO.splitB 27 rfl (fun h27 => ?_) (fun h27 => ?_)
      · try simp only [bSimp, bSimp2, ne_eq] at h27
        refine JO.pur rfl rfl rfl (Pur.move rfl) ?_
        refine JO.pur rfl rfl rfl (Pur.move rfl) ?_
        refine JO.pur rfl rfl rfl (Pur.nilCheck rfl) ?_
        refine JO.pur rfl rfl rfl (Pur.fieldAddr rfl) ?_
        refine JO.pur rfl rfl rfl (Pur.load rfl (CellIn.blk rfl)) ?_
        refine JO.pur rfl rfl rfl (Pur.neqI rfl rfl) ?_
        refine JO.pur rfl rfl rfl (Pur.pickT rfl rfl) ?_
        refine JO.pur rfl rfl rfl (Pur.pickF rfl rfl) ?_
        refine JO.pur rfl rfl rfl (Pur.assign rfl) ?_
        refine JO.nil ?_
        refine J.splitB 9 rfl (fun h9 => ?_) (fun h9 => ?_)
        · try simp only [bSimp, bSimp2, ne_eq] at h9
          have hbad : resV g q = (0, 2) := by unfold resV; rw [if_pos (.inr (.inr ⟨h27, by simpa using h9⟩))]
          refine J.condT rfl rfl ?_
          refine J.seq rfl ?_
          refine J.region rfl ?_
          refine JO.pur rfl rfl rfl (Pur.assign rfl) ?_
          refine JO.pur rfl rfl rfl (Pur.assign rfl) ?_
          refine JO.nil ?_
          refine J.ret rfl rfl ?_
          refine ⟨_, _, ⟨rfl, rfl⟩, ?_, fun h s => GB_mk (g := g) (af := af) (cf := cf) hb (SubC.out (M := blk p (gC g.kind g.op g.root am g.ms.length cm af g.fly.length cf g.sent) :: sl memE am cm (g.ms.zip bs) :: sl msgE af cf g.fly :: star (List.zipWith mpA bs g.ms) :: L) h s)⟩
          rw [hbad]; rfl
        · try simp only [bSimp, bSimp2, ne_eq] at h9
          have hq0 : 0 ≤ q := by omega
          have hqn : q.toNat < g.ms.length := by omega
          obtain ⟨b, hbi⟩ : ∃ b, bs[q.toNat]? = some b := ⟨_, List.getElem?_eq_getElem (by omega)⟩
          have hzm := zip_get (mem_get hqn) hbi
          have hng : ¬ (q < 0 ∨ (g.ms.length : Int) ≤ q ∨ (g.kind = sRed ∧ q ≠ g.root)) := by
            rintro (g1 | g1 | g1)
            · omega
            · omega
            · exact g1.2 (by simpa using h9)
          refine J.condF rfl rfl ?_
          refine J.seq rfl ?_
          refine J.region rfl ?_
          refine JO.pur rfl rfl rfl (Pur.move rfl) ?_
          refine JO.pur rfl rfl rfl (Pur.nilCheck rfl) ?_
          refine JO.pur rfl rfl rfl (Pur.fieldAddr rfl) ?_
          refine JO.pur rfl rfl rfl (Pur.load rfl (CellIn.blk rfl)) ?_
          refine JO.pur rfl rfl rfl (Pur.move rfl) ?_
          refine JO.pur rfl rfl rfl (Pur.idx rfl rfl rfl (by first | rfl | (simp; done) | omega | (rw [List.length_zip]; omega)) (Int.toNat_of_nonneg hq0).symm (by rw [List.length_zip]; omega)) ?_
          refine JO.pur rfl rfl rfl (Pur.fieldAddr rfl) ?_
          refine JO.pur rfl rfl rfl (Pur.load rfl (CellIn.el rfl hzm rfl)) ?_
          refine JO.setv (u' := .bool (mem g q.toNat).has) 44 rfl rfl ?_
          refine JO.pur rfl rfl rfl (Pur.not rfl) ?_
          refine JO.pur rfl rfl rfl (Pur.assign rfl) ?_
          refine JO.nil ?_
          refine J.splitB 36 rfl (fun h36 => ?_) (fun h36 => ?_)
          · try simp only [bSimp, bSimp2, ne_eq] at h36
            have hbad : resV g q = (0, 171) := by unfold resV; rw [if_neg hng, if_neg (by simpa using h36)]
            refine J.condT rfl rfl ?_
            refine J.seq rfl ?_
            refine J.region rfl ?_
            refine JO.pur rfl rfl rfl (Pur.assign rfl) ?_
            refine JO.pur rfl rfl rfl (Pur.assign rfl) ?_
            refine JO.nil ?_
            refine J.ret rfl rfl ?_
            refine ⟨_, _, ⟨rfl, rfl⟩, ?_, fun h s => GB_mk (g := g) (af := af) (cf := cf) hb (SubC.out (M := blk p (gC g.kind g.op g.root am g.ms.length cm af g.fly.length cf g.sent) :: sl memE am cm (g.ms.zip bs) :: sl msgE af cf g.fly :: star (List.zipWith mpA bs g.ms) :: L) h s)⟩
            rw [hbad]; rfl
          · try simp only [bSimp, bSimp2, ne_eq] at h36
            have hbad : resV g q = ((mem g q.toNat).res, 0) := by unfold resV; rw [if_neg hng, if_pos (by simpa using h36)]
            refine J.condF rfl rfl ?_
            refine J.skip rfl ?_
            refine J.inBlock ?_
            refine J.seq rfl ?_
            refine J.region rfl ?_
            refine JO.pur rfl rfl rfl (Pur.move rfl) ?_
            refine JO.pur rfl rfl rfl (Pur.nilCheck rfl) ?_
            refine JO.pur rfl rfl rfl (Pur.fieldAddr rfl) ?_
            refine JO.pur rfl rfl rfl (Pur.load rfl (CellIn.blk rfl)) ?_
            refine JO.pur rfl rfl rfl (Pur.move rfl) ?_
            refine JO.pur rfl rfl rfl (Pur.idx rfl rfl rfl (by first | rfl | (simp; done) | omega | (rw [List.length_zip]; omega)) (Int.toNat_of_nonneg hq0).symm (by rw [List.length_zip]; omega)) ?_
            refine JO.pur rfl rfl rfl (Pur.fieldAddr rfl) ?_
            refine JO.pur rfl rfl rfl (Pur.load rfl (CellIn.el rfl hzm rfl)) ?_
            refine JO.setv (u' := .int .i64 (mem g q.toNat).res) 53 rfl rfl ?_
            refine JO.pur rfl rfl rfl (Pur.assign rfl) ?_
            refine JO.pur rfl rfl rfl (Pur.assign rfl) ?_
            refine JO.nil ?_
            refine J.ret rfl rfl ?_
            refine ⟨_, _, ⟨rfl, rfl⟩, ?_, fun h s => GB_mk (g := g) (af := af) (cf := cf) hb (SubC.out (M := blk p (gC g.kind g.op g.root am g.ms.length cm af g.fly.length cf g.sent) :: sl memE am cm (g.ms.zip bs) :: sl msgE af cf g.fly :: star (List.zipWith mpA bs g.ms) :: L) h s)⟩
            rw [hbad]; rfl
      · try simp only [bSimp, bSimp2, ne_eq] at h27
        have hq0 : 0 ≤ q := by omega
        have hqn : q.toNat < g.ms.length := by omega
        obtain ⟨b, hbi⟩ : ∃ b, bs[q.toNat]? = some b := ⟨_, List.getElem?_eq_getElem (by omega)⟩
        have hzm := zip_get (mem_get hqn) hbi
        have hng : ¬ (q < 0 ∨ (g.ms.length : Int) ≤ q ∨ (g.kind = sRed ∧ q ≠ g.root)) := by
          rintro (g1 | g1 | g1)
          · omega
          · omega
          · exact h27 g1.1
        refine JO.no rfl rfl rfl ?_
        refine JO.no rfl rfl rfl ?_
        refine JO.no rfl rfl rfl ?_
        refine JO.no rfl rfl rfl ?_
        refine JO.no rfl rfl rfl ?_
        refine JO.no rfl rfl rfl ?_
        refine JO.pur rfl rfl rfl (Pur.pickF rfl rfl) ?_
        refine JO.pur rfl rfl rfl (Pur.pickF rfl rfl) ?_
        refine JO.pur rfl rfl rfl (Pur.assign rfl) ?_
        refine JO.nil ?_
        refine J.condF rfl rfl ?_
        refine J.seq rfl ?_
        refine J.region rfl ?_
        refine JO.pur rfl rfl rfl (Pur.move rfl) ?_
        refine JO.pur rfl rfl rfl (Pur.nilCheck rfl) ?_
        refine JO.pur rfl rfl rfl (Pur.fieldAddr rfl) ?_
        refine JO.pur rfl rfl rfl (Pur.load rfl (CellIn.blk rfl)) ?_
        refine JO.pur rfl rfl rfl (Pur.move rfl) ?_
        refine JO.pur rfl rfl rfl (Pur.idx rfl rfl rfl (by first | rfl | (simp; done) | omega | (rw [List.length_zip]; omega)) (Int.toNat_of_nonneg hq0).symm (by rw [List.length_zip]; omega)) ?_
        refine JO.pur rfl rfl rfl (Pur.fieldAddr rfl) ?_
        refine JO.pur rfl rfl rfl (Pur.load rfl (CellIn.el rfl hzm rfl)) ?_
        refine JO.setv (u' := .bool (mem g q.toNat).has) 44 rfl rfl ?_
        refine JO.pur rfl rfl rfl (Pur.not rfl) ?_
        refine JO.pur rfl rfl rfl (Pur.assign rfl) ?_
        refine JO.nil ?_
        refine J.splitB 36 rfl (fun h36 => ?_) (fun h36 => ?_)
        · try simp only [bSimp, bSimp2, ne_eq] at h36
          have hbad : resV g q = (0, 171) := by unfold resV; rw [if_neg hng, if_neg (by simpa using h36)]
          refine J.condT rfl rfl ?_
          refine J.seq rfl ?_
          refine J.region rfl ?_
          refine JO.pur rfl rfl rfl (Pur.assign rfl) ?_
          refine JO.pur rfl rfl rfl (Pur.assign rfl) ?_
          refine JO.nil ?_
          refine J.ret rfl rfl ?_
          refine ⟨_, _, ⟨rfl, rfl⟩, ?_, fun h s => GB_mk (g := g) (af := af) (cf := cf) hb (SubC.out (M := blk p (gC g.kind g.op g.root am g.ms.length cm af g.fly.length cf g.sent) :: sl memE am cm (g.ms.zip bs) :: sl msgE af cf g.fly :: star (List.zipWith mpA bs g.ms) :: L) h s)⟩
          rw [hbad]; rfl
        · try simp only [bSimp, bSimp2, ne_eq] at h36
          have hbad : resV g q = ((mem g q.toNat).res, 0) := by unfold resV; rw [if_neg hng, if_pos (by simpa using h36)]
          refine J.condF rfl rfl ?_
          refine J.skip rfl ?_
          refine J.inBlock ?_
          refine J.seq rfl ?_
          refine J.region rfl ?_
          refine JO.pur rfl rfl rfl (Pur.move rfl) ?_
          refine JO.pur rfl rfl rfl (Pur.nilCheck rfl) ?_
          refine JO.pur rfl rfl rfl (Pur.fieldAddr rfl) ?_
          refine JO.pur rfl rfl rfl (Pur.load rfl (CellIn.blk rfl)) ?_
          refine JO.pur rfl rfl rfl (Pur.move rfl) ?_
          refine JO.pur rfl rfl rfl (Pur.idx rfl rfl rfl (by first | rfl | (simp; done) | omega | (rw [List.length_zip]; omega)) (Int.toNat_of_nonneg hq0).symm (by rw [List.length_zip]; omega)) ?_
          refine JO.pur rfl rfl rfl (Pur.fieldAddr rfl) ?_
          refine JO.pur rfl rfl rfl (Pur.load rfl (CellIn.el rfl hzm rfl)) ?_
          refine JO.setv (u' := .int .i64 (mem g q.toNat).res) 53 rfl rfl ?_
          refine JO.pur rfl rfl rfl (Pur.assign rfl) ?_
          refine JO.pur rfl rfl rfl (Pur.assign rfl) ?_
          refine JO.nil ?_
          refine J.ret rfl rfl ?_
          refine ⟨_, _, ⟨rfl, rfl⟩, ?_, fun h s => GB_mk (g := g) (af := af) (cf := cf) hb (SubC.out (M := blk p (gC g.kind g.op g.root am g.ms.length cm af g.fly.length cf g.sent) :: sl memE am cm (g.ms.zip bs) :: sl msgE af cf g.fly :: star (List.zipWith mpA bs g.ms) :: L) h s)⟩
          rw [hbad]; rfl

theorem sent_ok {L : List Asn} {p : Nat} {am : Option Addr} {cm : Nat} {bs : List Nat} {g : Gs} (hw : wf g) :
    CallS Try.prog 22 [.pointer (some ⟨p, 0, none⟩)].toArray (GB p am cm bs g :: L) (fun v M => v = .int .i64 g.sent ∧ M = GB p am cm bs g :: L) := by
  have hn8 := hw.2.1
  have hn1 := hw.1
  refine CallS.ent ?_
  refine CallS.enter Try.func22 rfl rfl rfl rfl rfl ?_
  refine GB_open fun af cf hb => ?_
  refine J.seq rfl ?_
  refine J.region rfl ?_
  refine JO.pur rfl rfl rfl (Pur.assign rfl) ?_
  refine JO.nil ?_
  refine J.seq rfl ?_
  refine J.seq rfl ?_
  refine J.region rfl ?_
  refine JO.pur rfl rfl rfl (Pur.move rfl) ?_
  refine JO.effR rfl rfl rfl (Eff.call rfl (none_ok)) ?_
  refine JO.setv (u' := .bool false) 4 rfl (congrArg Value.bool (decide_eq_false (by omega))) ?_
  refine JO.nil ?_
  refine J.condF rfl rfl ?_
  refine J.skip rfl ?_
  refine J.seq rfl ?_
  refine J.region rfl ?_
  refine JO.pur rfl rfl rfl (Pur.move rfl) ?_
  refine JO.pur rfl rfl rfl (Pur.nilCheck rfl) ?_
  refine JO.pur rfl rfl rfl (Pur.fieldAddr rfl) ?_
  refine JO.pur rfl rfl rfl (Pur.load rfl (CellIn.blk rfl)) ?_
  refine JO.pur rfl rfl rfl (Pur.assign rfl) ?_
  refine JO.nil ?_
  refine J.ret rfl rfl ?_
  refine ⟨_, _, ⟨rfl, rfl⟩, rfl, fun h s => GB_mk (g := g) (af := af) (cf := cf) hb (SubC.out (M := blk p (gC g.kind g.op g.root am g.ms.length cm af g.fly.length cf g.sent) :: sl memE am cm (g.ms.zip bs) :: sl msgE af cf g.fly :: star (List.zipWith mpA bs g.ms) :: L) h s)⟩

theorem drainS_ok {L : List Asn} {p : Nat} {am : Option Addr} {cm : Nat} {bs : List Nat} {g : Gs} {K : Nat} (hw : wf g) (hkd : g.kind = sScan) (ho : okOp g.op) (hpos : ∀ i, i < K → 0 < (dlvN g i).fly.length) (hend : (dlvN g K).fly = []) (hf : g.fly.length + 4 * K + 4 ≤ 1000000) :
    CallS Try.prog 16 [.pointer (some ⟨p, 0, none⟩)].toArray (GB p am cm bs g :: L) (fun v M => v = .tuple #[.int .i64 (K : Int), .int .i64 0] ∧ M = GB p am cm bs (dlvN g K) :: L) := by
  have hn8 := hw.2.1
  have hn1 := hw.1
  refine CallS.ent ?_
  refine CallS.enter Try.func16 rfl rfl rfl rfl rfl ?_
  refine GB_open fun af cf hb => ?_
  refine J.seq rfl ?_
  refine J.region rfl ?_
  refine JO.pur rfl rfl rfl (Pur.assign rfl) ?_
  refine JO.pur rfl rfl rfl (Pur.assign rfl) ?_
  refine JO.nil ?_
  refine J.seq rfl ?_
  refine J.seq rfl ?_
  refine J.region rfl ?_
  refine JO.pur rfl rfl rfl (Pur.move rfl) ?_
  refine JO.effR rfl rfl rfl (Eff.call rfl (none_ok)) ?_
  refine JO.setv (u' := .bool false) 6 rfl (congrArg Value.bool (decide_eq_false (by omega))) ?_
  refine JO.nil ?_
  refine J.condF rfl rfl ?_
  refine J.skip rfl ?_
  refine J.seq rfl ?_
  refine J.region rfl ?_
  refine JO.pur rfl rfl rfl (Pur.assign rfl) ?_
  refine JO.nil ?_
  refine J.seq rfl ?_
  refine J.block rfl ?_
  refine J.loopF (ι := Nat) (fun q => q ≤ K) (fun q => [(4, .int .i64 (q : Int))]) [(0, _)] (fun q => GB p am cm bs (dlvN g q) :: L) (fun q => K - q) 0 rfl (.cons rfl rfl .nil) (.cons rfl rfl .nil) (fun h s => GB_mk (g := g) (af := af) (cf := cf) hb (SubC.out (M := blk p (gC g.kind g.op g.root am g.ms.length cm af g.fly.length cf g.sent) :: sl memE am cm (g.ms.zip bs) :: sl msgE af cf g.fly :: star (List.zipWith mpA bs g.ms) :: L) h s)) (Nat.zero_le _) ?_
  rintro q hq ihq
  try dsimp only
  obtain ⟨k1, k2, k3, k4, k5, k6⟩ := dlvN_keep hw q (fun i hi => hpos i (by omega))
  clear hb
  refine GB_open fun af cf hb => ?_
  refine J.seq rfl ?_
  refine J.seq rfl ?_
  refine J.region rfl ?_
  refine JO.pur rfl rfl rfl (Pur.move rfl) ?_
  refine JO.pur rfl rfl rfl (Pur.nilCheck rfl) ?_
  refine JO.pur rfl rfl rfl (Pur.fieldAddr rfl) ?_
  refine JO.pur rfl rfl rfl (Pur.load rfl (CellIn.blk rfl)) ?_
  refine JO.pur rfl rfl rfl (Pur.len rfl) ?_
  refine JO.pur rfl rfl rfl (Pur.gtr rfl rfl) ?_
  refine JO.nil ?_
  refine J.splitB 12 rfl (fun h12 => ?_) (fun h12 => ?_)
  · try simp only [bSimp, bSimp2, ne_eq] at h12
    have hql : q < K := by
      rcases Nat.lt_or_ge q K with h | h
      · exact h
      · have : q = K := by omega
        rw [this, hend] at h12; simp at h12
    refine J.condT rfl rfl ?_
    refine J.skip rfl ?_
    refine J.seq rfl ?_
    refine J.block rfl ?_
    refine J.region rfl ?_
    refine JO.pur rfl rfl rfl (Pur.move rfl) ?_
    refine JO.imp (M := GB p am cm bs (dlvN g q) :: L) (fun h s => GB_mk (g := dlvN g q) (af := af) (cf := cf) hb (SubC.out (M := blk p (gC (dlvN g q).kind (dlvN g q).op (dlvN g q).root am (dlvN g q).ms.length cm af (dlvN g q).fly.length cf (dlvN g q).sent) :: sl memE am cm ((dlvN g q).ms.zip bs) :: sl msgE af cf (dlvN g q).fly :: star (List.zipWith mpA bs (dlvN g q).ms) :: L) h s)) ?_
    refine JO.eff rfl rfl rfl (Eff.call rfl (deliverS_ok (g := dlvN g q) (k := 0) k1 (hpos q hql) (k5.trans hkd) (by rw [k4]; exact ho) (by omega))) ?_
    rintro _ _ ⟨rfl, rfl⟩
    refine JO.nil ?_
    refine J.inBlock ?_
    refine J.region rfl ?_
    refine JO.pur rfl rfl rfl (Pur.move rfl) ?_
    refine JO.pur rfl rfl rfl (Pur.add rfl rfl (wr64 (by omega))) ?_
    refine JO.pur rfl rfl rfl (Pur.assign rfl) ?_
    refine JO.nil ?_
    exact J.weaken (.cons rfl (congrArg (Value.int .i64) (by first | rfl | (dsimp only; omega))) (.cons rfl rfl .nil)) (fun h s => by show Sat h (GB p am cm bs (dlvS (dlvN g q) 0) :: L); exact SubC.out h s) (ihq (q + 1) (by omega) (by omega))
  · try simp only [bSimp, bSimp2, ne_eq] at h12
    have hqe : q = K := by
      rcases Nat.lt_or_ge q K with h | h
      · have := hpos q h; omega
      · omega
    refine J.condF rfl rfl ?_
    refine J.exit rfl rfl ?_
    refine J.seq rfl ?_
    refine J.region rfl ?_
    refine JO.pur rfl rfl rfl (Pur.move rfl) ?_
    refine JO.pur rfl rfl rfl (Pur.assign rfl) ?_
    refine JO.pur rfl rfl rfl (Pur.assign rfl) ?_
    refine JO.nil ?_
    refine J.ret rfl rfl ?_
    subst hqe
    refine ⟨_, _, ⟨rfl, rfl⟩, rfl, fun h s => GB_mk (g := dlvN g q) (af := af) (cf := cf) hb (SubC.out (M := blk p (gC (dlvN g q).kind (dlvN g q).op (dlvN g q).root am (dlvN g q).ms.length cm af (dlvN g q).fly.length cf (dlvN g q).sent) :: sl memE am cm ((dlvN g q).ms.zip bs) :: sl msgE af cf (dlvN g q).fly :: star (List.zipWith mpA bs (dlvN g q).ms) :: L) h s)⟩

instance memD (t : ByteArray) (ss : List ByteArray) : Decidable (t ∈ ss) := decidable_of_iff (ss.any (fun x => decide (t = x)) = true) (by simp)
theorem index_ok {L : List Asn} {sa : Option Addr} {n cap : Nat} {ss : List ByteArray} {t : ByteArray} [SlIn strE L sa ss] (hn : n = ss.length) (hs : ss.length ≤ 1000000) :
    CallS Try.prog 90 [.slice sa n cap, .string t].toArray L (fun v M => ∃ z : Int, v = .int .i64 z ∧ (0 ≤ z ↔ t ∈ ss) ∧ M = L) := by
  subst hn
  refine CallS.ent ?_
  refine CallS.enter Try.func90 rfl rfl rfl rfl rfl ?_
  refine J.seq rfl ?_
  refine J.region rfl ?_
  refine JO.pur rfl rfl rfl (Pur.assign rfl) ?_
  refine JO.nil ?_
  refine J.seq rfl ?_
  refine J.seq rfl ?_
  refine J.region rfl ?_
  refine JO.pur rfl rfl rfl (Pur.move rfl) ?_
  refine JO.pur rfl rfl rfl (Pur.len rfl) ?_
  refine JO.pur rfl rfl rfl (Pur.move rfl) ?_
  refine JO.nil ?_
  refine J.block rfl ?_
  refine J.loopF (ι := Nat) (fun q => q ≤ ss.length ∧ ∀ j x, j < q → ss[j]? = some x → ¬ t = x) (fun q => [(8, .int .i64 (q : Int))]) [(0, _), (1, _), (7, _)] (fun q => L) (fun q => ss.length - q) 0 rfl (.cons rfl rfl (.cons rfl rfl (.cons rfl rfl .nil))) (.cons rfl rfl .nil) (by first | exact fun _ h => h | exact SubC.out | (dsimp only; exact SubC.out)) ⟨Nat.zero_le _, fun j x hj => absurd hj (Nat.not_lt_zero j)⟩ ?_
  rintro q ⟨hq, hno⟩ ihq
  try dsimp only
  refine J.seq rfl ?_
  refine J.region rfl ?_
  refine JO.pur rfl rfl rfl (Pur.lss rfl rfl) ?_
  refine JO.nil ?_
  refine J.seq rfl ?_
  refine J.splitB 9 rfl (fun h9 => ?_) (fun h9 => ?_)
  · try simp only [bSimp, bSimp2, ne_eq] at h9
    have hql : q < ss.length := by omega
    obtain ⟨x, hX⟩ : ∃ x, ss[q]? = some x := ⟨_, List.getElem?_eq_getElem hql⟩
    refine J.condT rfl rfl ?_
    refine J.skip rfl ?_
    refine J.seq rfl ?_
    refine J.block rfl ?_
    refine J.seq rfl ?_
    refine J.region rfl ?_
    refine JO.pur rfl rfl rfl (Pur.move rfl) ?_
    refine JO.pur rfl rfl rfl (Pur.assign rfl) ?_
    refine JO.nil ?_
    refine J.seq rfl ?_
    refine J.region rfl ?_
    refine JO.pur rfl rfl rfl (Pur.move rfl) ?_
    refine JO.pur rfl rfl rfl (Pur.move rfl) ?_
    refine JO.pur rfl rfl rfl (Pur.move rfl) ?_
    refine JO.pur rfl rfl rfl (Pur.idx rfl rfl rfl (by first | rfl | (simp; done) | omega) rfl (by omega)) ?_
    refine JO.pur rfl rfl rfl (Pur.load rfl (CellIn.el0 rfl hX rfl)) ?_
    refine JO.setv (u' := .string x) 15 rfl rfl ?_
    refine JO.pur rfl rfl rfl (Pur.eqlT rfl rfl) ?_
    refine JO.nil ?_
    refine J.splitB 16 rfl (fun h16 => ?_) (fun h16 => ?_)
    · try simp only [bSimp, bSimp2, ne_eq] at h16
      have hin : t ∈ ss := by rw [h16]; exact List.mem_of_getElem? hX
      refine J.condT rfl rfl ?_
      refine J.seq rfl ?_
      refine J.region rfl ?_
      refine JO.pur rfl rfl rfl (Pur.move rfl) ?_
      refine JO.pur rfl rfl rfl (Pur.assign rfl) ?_
      refine JO.nil ?_
      refine J.ret rfl rfl ?_
      refine ⟨_, _, ⟨_, rfl, ⟨fun _ => hin, fun _ => by omega⟩, rfl⟩, rfl, SubC.out⟩
    · try simp only [bSimp, bSimp2, ne_eq] at h16
      have hno2 : ∀ j y, j < q + 1 → ss[j]? = some y → ¬ t = y := fun j y hj hy => by
        rcases Nat.lt_or_ge j q with h | h
        · exact hno j y h hy
        · obtain rfl : j = q := by omega
          rw [hX] at hy; rw [← Option.some.inj hy]; exact h16
      refine J.condF rfl rfl ?_
      refine J.skip rfl ?_
      refine J.inBlock ?_
      refine J.region rfl ?_
      refine JO.pur rfl rfl rfl (Pur.add rfl rfl (wr64 (by omega))) ?_
      refine JO.pur rfl rfl rfl (Pur.move rfl) ?_
      refine JO.nil ?_
      exact J.weaken (.cons rfl (congrArg (Value.int .i64) (by first | rfl | (dsimp only; omega))) (.cons rfl rfl (.cons rfl rfl (.cons rfl rfl .nil)))) (by first | exact fun _ h => h | exact SubC.out | (dsimp only; exact SubC.out)) (ihq (q + 1) ⟨by omega, hno2⟩ (by omega))
  · try simp only [bSimp, bSimp2, ne_eq] at h9
    have hni : ¬ t ∈ ss := fun g => by obtain ⟨j, hj, e⟩ := List.getElem_of_mem g; exact hno j t (by omega) (by rw [List.getElem?_eq_getElem hj, e]) rfl
    refine J.condF rfl rfl ?_
    refine J.exit rfl rfl ?_
    refine J.seq rfl ?_
    refine J.region rfl ?_
    refine JO.pur rfl rfl rfl (Pur.assign rfl) ?_
    refine JO.nil ?_
    refine J.ret rfl rfl ?_
    refine ⟨_, _, ⟨_, rfl, ⟨fun g => absurd g (by decide), fun g => absurd g hni⟩, rfl⟩, rfl, SubC.out⟩

theorem contains_ok {L : List Asn} {sa : Option Addr} {n cap : Nat} {ss : List ByteArray} {t : ByteArray} [SlIn strE L sa ss] (hn : n = ss.length) (hs : ss.length ≤ 1000000) :
    CallS Try.prog 76 [.slice sa n cap, .string t].toArray L (fun v M => v = .bool (decide (t ∈ ss)) ∧ M = L) := by
  subst hn
  refine CallS.ent ?_
  refine CallS.enter Try.func76 rfl rfl rfl rfl rfl ?_
  refine J.seq rfl ?_
  refine J.region rfl ?_
  refine JO.pur rfl rfl rfl (Pur.assign rfl) ?_
  refine JO.nil ?_
  refine J.seq rfl ?_
  refine J.region rfl ?_
  refine JO.pur rfl rfl rfl (Pur.move rfl) ?_
  refine JO.pur rfl rfl rfl (Pur.move rfl) ?_
  refine JO.eff rfl rfl rfl (Eff.call rfl (index_ok (ss := ss) (t := t) rfl hs)) ?_
  rintro _ _ ⟨z, rfl, hz, rfl⟩
  refine JO.pur rfl rfl rfl (Pur.geq rfl rfl) ?_
  refine JO.pur rfl rfl rfl (Pur.assign rfl) ?_
  refine JO.nil ?_
  refine J.ret rfl rfl ?_
  refine ⟨_, _, ⟨rfl, rfl⟩, congrArg Value.bool (decide_eq_decide.2 hz), SubC.out⟩

def kinds : List ByteArray := [⟨#[99, 97, 115, 116]⟩, ⟨#[114, 101, 100, 117, 99, 101]⟩, ⟨#[97, 108, 108]⟩, ⟨#[98, 97, 114, 114, 105, 101, 114]⟩, ⟨#[115, 99, 97, 110]⟩]
def opsL : List ByteArray := [⟨#[43]⟩, ⟨#[42]⟩, ⟨#[109, 105, 110]⟩, ⟨#[109, 97, 120]⟩, ⟨#[38]⟩, ⟨#[124]⟩]
def nonV (o : ByteArray) : Int := if o = ⟨#[42]⟩ ∨ o = ⟨#[38]⟩ then 1 else if o = ⟨#[109, 105, 110]⟩ then 9223372036854775807 else if o = ⟨#[109, 97, 120]⟩ then -9223372036854775808 else 0
theorem isKind_ok {L : List Asn} {t : ByteArray} :
    CallS Try.prog 40 [.string t].toArray L (fun v M => v = .bool (decide (t ∈ kinds)) ∧ M = L) := by
  refine CallS.ent ?_
  refine CallS.enter Try.func40 rfl rfl rfl rfl rfl ?_
  refine J.seq rfl ?_
  refine J.region rfl ?_
  refine JO.pur rfl rfl rfl (Pur.assign rfl) ?_
  refine JO.nil ?_
  refine J.seq rfl ?_
  refine J.region rfl ?_
  refine JO.eff rfl rfl rfl (Eff.buildSlice strE kinds rfl rfl rfl rfl rfl rfl rfl) ?_
  rintro _ _ ⟨b3, rfl, -, rfl⟩
  refine JO.pur rfl rfl rfl (Pur.move rfl) ?_
  refine JO.effR rfl rfl rfl (Eff.call rfl (contains_ok (ss := kinds) (t := t) rfl (by decide))) ?_
  refine JO.pur rfl rfl rfl (Pur.assign rfl) ?_
  refine JO.nil ?_
  refine J.ret rfl rfl ?_
  refine ⟨_, _, ⟨rfl, rfl⟩, rfl, SubC.out⟩

theorem isSize_ok {L : List Asn} {n : Int} :
    CallS Try.prog 41 [.int .i64 n].toArray L (fun v M => v = .bool (decide (1 ≤ n ∧ n ≤ 8)) ∧ M = L) := by
  refine CallS.ent ?_
  refine CallS.enter Try.func41 rfl rfl rfl rfl rfl ?_
  refine J.seq rfl ?_
  refine J.region rfl ?_
  refine JO.pur rfl rfl rfl (Pur.assign rfl) ?_
  refine JO.nil ?_
  refine J.seq rfl ?_
  refine J.region rfl ?_
  refine JO.pur rfl rfl rfl (Pur.move rfl) ?_
  refine JO.pur rfl rfl rfl (Pur.geq rfl rfl) ?_
  refine JO.pur rfl rfl rfl (Pur.move rfl) ?_
  refine JO.splitB 5 rfl (fun h5 => ?_) (fun h5 => ?_)
  · try simp only [bSimp, bSimp2, ne_eq] at h5
    refine JO.pur rfl rfl rfl (Pur.move rfl) ?_
    refine JO.pur rfl rfl rfl (Pur.leq rfl rfl) ?_
    refine JO.pur rfl rfl rfl (Pur.pickT rfl rfl) ?_
    refine JO.pur rfl rfl rfl (Pur.assign rfl) ?_
    refine JO.nil ?_
    refine J.ret rfl rfl ?_
    refine ⟨_, _, ⟨rfl, rfl⟩, congrArg Value.bool (by first | exact decide_eq_decide.2 (by omega) | exact (decide_eq_false (by omega)).symm), SubC.out⟩
  · try simp only [bSimp, bSimp2, ne_eq] at h5
    refine JO.no rfl rfl rfl ?_
    refine JO.no rfl rfl rfl ?_
    refine JO.pur rfl rfl rfl (Pur.pickF rfl rfl) ?_
    refine JO.pur rfl rfl rfl (Pur.assign rfl) ?_
    refine JO.nil ?_
    refine J.ret rfl rfl ?_
    refine ⟨_, _, ⟨rfl, rfl⟩, congrArg Value.bool (by first | exact decide_eq_decide.2 (by omega) | exact (decide_eq_false (by omega)).symm), SubC.out⟩

theorem eNone_ok {L : List Asn} {t : ByteArray} :
    CallS Try.prog 77 [.string t].toArray L (fun v M => v = .int .i64 (nonV t) ∧ M = L) := by
  refine CallS.ent ?_
  refine CallS.enter Try.func77 rfl rfl rfl rfl rfl ?_
  refine J.seq rfl ?_
  refine J.region rfl ?_
  refine JO.pur rfl rfl rfl (Pur.assign rfl) ?_
  refine JO.nil ?_
  refine J.seq rfl ?_
  refine J.seq rfl ?_
  refine J.region rfl ?_
  refine JO.pur rfl rfl rfl (Pur.move rfl) ?_
  refine JO.nil ?_
  refine J.block rfl ?_
  refine J.seq rfl ?_
  refine J.seq rfl ?_
  refine J.region rfl ?_
  refine JO.pur rfl rfl rfl (Pur.eqlT rfl rfl) ?_
  refine JO.pur rfl rfl rfl (Pur.assign rfl) ?_
  refine JO.nil ?_
  refine J.splitB 4 rfl (fun h4 => ?_) (fun h4 => ?_)
  · try simp only [bSimp, bSimp2, ne_eq] at h4
    refine J.condT rfl rfl ?_
    refine J.skip rfl ?_
    refine J.condT rfl rfl ?_
    refine J.seq rfl ?_
    refine J.region rfl ?_
    refine JO.pur rfl rfl rfl (Pur.assign rfl) ?_
    refine JO.nil ?_
    refine J.ret rfl rfl ?_
    refine ⟨_, _, ⟨rfl, rfl⟩, by simp_all [nonV] <;> rfl, SubC.out⟩
  · try simp only [bSimp, bSimp2, ne_eq] at h4
    refine J.condF rfl rfl ?_
    refine J.region rfl ?_
    refine JO.pur rfl rfl rfl (Pur.eqlT rfl rfl) ?_
    refine JO.pur rfl rfl rfl (Pur.assign rfl) ?_
    refine JO.nil ?_
    refine J.splitB 4 rfl (fun h4 => ?_) (fun h4 => ?_)
    · try simp only [bSimp, bSimp2, ne_eq] at h4
      refine J.condT rfl rfl ?_
      refine J.seq rfl ?_
      refine J.region rfl ?_
      refine JO.pur rfl rfl rfl (Pur.assign rfl) ?_
      refine JO.nil ?_
      refine J.ret rfl rfl ?_
      refine ⟨_, _, ⟨rfl, rfl⟩, by simp_all [nonV] <;> rfl, SubC.out⟩
    · try simp only [bSimp, bSimp2, ne_eq] at h4
      refine J.condF rfl rfl ?_
      refine J.seq rfl ?_
      refine J.region rfl ?_
      refine JO.pur rfl rfl rfl (Pur.eqlT rfl rfl) ?_
      refine JO.pur rfl rfl rfl (Pur.assign rfl) ?_
      refine JO.nil ?_
      refine J.splitB 7 rfl (fun h7 => ?_) (fun h7 => ?_)
      · try simp only [bSimp, bSimp2, ne_eq] at h7
        refine J.condT rfl rfl ?_
        refine J.seq rfl ?_
        refine J.region rfl ?_
        refine JO.pur rfl rfl rfl (Pur.assign rfl) ?_
        refine JO.nil ?_
        refine J.ret rfl rfl ?_
        refine ⟨_, _, ⟨rfl, rfl⟩, by simp_all [nonV] <;> rfl, SubC.out⟩
      · try simp only [bSimp, bSimp2, ne_eq] at h7
        refine J.condF rfl rfl ?_
        refine J.seq rfl ?_
        refine J.region rfl ?_
        refine JO.pur rfl rfl rfl (Pur.eqlT rfl rfl) ?_
        refine JO.pur rfl rfl rfl (Pur.assign rfl) ?_
        refine JO.nil ?_
        refine J.splitB 9 rfl (fun h9 => ?_) (fun h9 => ?_)
        · try simp only [bSimp, bSimp2, ne_eq] at h9
          refine J.condT rfl rfl ?_
          refine J.seq rfl ?_
          refine J.region rfl ?_
          refine JO.pur rfl rfl rfl (Pur.assign rfl) ?_
          refine JO.nil ?_
          refine J.ret rfl rfl ?_
          refine ⟨_, _, ⟨rfl, rfl⟩, by simp_all [nonV] <;> rfl, SubC.out⟩
        · try simp only [bSimp, bSimp2, ne_eq] at h9
          refine J.condF rfl rfl ?_
          refine J.skip rfl ?_
          refine J.inBlock ?_
          refine J.seq rfl ?_
          refine J.region rfl ?_
          refine JO.pur rfl rfl rfl (Pur.assign rfl) ?_
          refine JO.nil ?_
          refine J.ret rfl rfl ?_
          refine ⟨_, _, ⟨rfl, rfl⟩, by simp_all [nonV] <;> rfl, SubC.out⟩

theorem pNone_ok {L : List Asn} {t : ByteArray} :
    CallS Try.prog 39 [.string t].toArray L (fun v M => v = (if t ∈ opsL then .tuple #[.int .i64 (nonV t), .int .i64 0] else .tuple #[.int .i64 0, .int .i64 2]) ∧ M = L) := by
  refine CallS.ent ?_
  refine CallS.enter Try.func39 rfl rfl rfl rfl rfl ?_
  refine J.seq rfl ?_
  refine J.region rfl ?_
  refine JO.pur rfl rfl rfl (Pur.assign rfl) ?_
  refine JO.pur rfl rfl rfl (Pur.assign rfl) ?_
  refine JO.nil ?_
  refine J.seq rfl ?_
  refine J.seq rfl ?_
  refine J.region rfl ?_
  refine JO.eff rfl rfl rfl (Eff.buildSlice strE opsL rfl rfl rfl rfl rfl rfl rfl) ?_
  rintro _ _ ⟨b4, rfl, -, rfl⟩
  refine JO.pur rfl rfl rfl (Pur.move rfl) ?_
  refine JO.effR rfl rfl rfl (Eff.call rfl (contains_ok (ss := opsL) (t := t) rfl (by decide))) ?_
  refine JO.pur rfl rfl rfl (Pur.not rfl) ?_
  refine JO.nil ?_
  refine J.splitB 7 rfl (fun h7 => ?_) (fun h7 => ?_)
  · try simp only [bSimp, bSimp2, ne_eq] at h7
    refine J.condT rfl rfl ?_
    refine J.seq rfl ?_
    refine J.region rfl ?_
    refine JO.pur rfl rfl rfl (Pur.assign rfl) ?_
    refine JO.pur rfl rfl rfl (Pur.assign rfl) ?_
    refine JO.nil ?_
    refine J.ret rfl rfl ?_
    refine ⟨_, _, ⟨rfl, rfl⟩, by rw [if_neg (by simpa using h7)]; rfl, SubC.out⟩
  · try simp only [bSimp, bSimp2, ne_eq] at h7
    refine J.condF rfl rfl ?_
    refine J.skip rfl ?_
    refine J.seq rfl ?_
    refine J.region rfl ?_
    refine JO.pur rfl rfl rfl (Pur.move rfl) ?_
    refine JO.effR rfl rfl rfl (Eff.call rfl (eNone_ok (t := t))) ?_
    refine JO.pur rfl rfl rfl (Pur.assign rfl) ?_
    refine JO.pur rfl rfl rfl (Pur.assign rfl) ?_
    refine JO.nil ?_
    refine J.ret rfl rfl ?_
    refine ⟨_, _, ⟨rfl, rfl⟩, by rw [if_pos (by simpa using h7)]; rfl, SubC.out⟩

end Go.Proofs.Ytoikjjpleonllaa

/- The text G6. -/
set_option linter.unusedVariables false
set_option linter.unusedSimpArgs false
set_option maxRecDepth 10000
namespace Go.Proofs.Ytoikjjpleonllaa
open Go Go.KK Gr

def ms0 (vs : List Int) : List Mm := vs.map fun v => ⟨v, 0, [], false, 0⟩
def newS (vs : List Int) : Gs := begS (scan0 vs) vs.length
theorem ms0_len (vs : List Int) : (ms0 vs).length = vs.length := by simp [ms0]
theorem take_get {α : Type} {l : List α} {k : Nat} {x : α} (h : l[k]? = some x) : l.take (k + 1) = l.take k ++ [x] := by
  rw [List.take_add_one, h]; rfl
theorem newS_ok {L : List Asn} {va : Option Addr} {n cap : Nat} {vs : List Int} [SlIn intE L va vs] (hn : n = vs.length) (h1 : 1 ≤ vs.length) (h8 : vs.length ≤ 8) :
    CallS Try.prog 10 [.string sScan, .string ⟨#[43]⟩, .int .i64 0, .slice va n cap].toArray L (fun v M => ∃ p am cm bs, v = .tuple #[.pointer (some ⟨p, 0, none⟩), .int .i64 0] ∧ M = GB p am cm bs (newS vs) :: L) := by
  subst hn
  refine CallS.ent ?_
  refine CallS.enter Try.func10 rfl rfl rfl rfl rfl ?_
  refine J.seq rfl ?_
  refine J.region rfl ?_
  refine JO.pur rfl rfl rfl (Pur.assign rfl) ?_
  refine JO.pur rfl rfl rfl (Pur.assign rfl) ?_
  refine JO.nil ?_
  refine J.seq rfl ?_
  refine J.region rfl ?_
  refine JO.pur rfl rfl rfl (Pur.move rfl) ?_
  refine JO.effR rfl rfl rfl (Eff.call rfl (pNone_ok (t := ⟨#[43]⟩))) ?_
  rw [if_pos (by decide)]
  refine JO.pur rfl rfl rfl (Pur.move rfl) ?_
  refine JO.pur rfl rfl rfl (Pur.extract rfl rfl) ?_
  refine JO.pur rfl rfl rfl (Pur.extract rfl rfl) ?_
  refine JO.pur rfl rfl rfl (Pur.assign rfl) ?_
  refine JO.pur rfl rfl rfl (Pur.assign rfl) ?_
  refine JO.nil ?_
  refine J.seq rfl ?_
  refine J.region rfl ?_
  refine JO.pur rfl rfl rfl (Pur.move rfl) ?_
  refine JO.pur rfl rfl rfl (Pur.len rfl) ?_
  refine JO.pur rfl rfl rfl (Pur.assign rfl) ?_
  refine JO.nil ?_
  refine J.seq rfl ?_
  refine J.seq rfl ?_
  refine J.region rfl ?_
  refine JO.pur rfl rfl rfl (Pur.move rfl) ?_
  refine JO.effR rfl rfl rfl (Eff.call rfl (isKind_ok (t := sScan))) ?_
  refine JO.setv (u' := .bool true) 26 rfl (congrArg Value.bool (by decide)) ?_
  refine JO.pur rfl rfl rfl (Pur.not rfl) ?_
  refine JO.pur rfl rfl rfl (Pur.move rfl) ?_
  refine JO.pur rfl rfl rfl (Pur.move rfl) ?_
  refine JO.pur rfl rfl rfl (Pur.neqI rfl rfl) ?_
  refine JO.pur rfl rfl rfl (Pur.pickF rfl rfl) ?_
  refine JO.pur rfl rfl rfl (Pur.move rfl) ?_
  refine JO.setv (u' := .bool false) 32 rfl (congrArg Value.bool (decide_eq_false (fun h => h rfl))) ?_
  refine JO.pur rfl rfl rfl (Pur.move rfl) ?_
  refine JO.effR rfl rfl rfl (Eff.call rfl (isSize_ok)) ?_
  refine JO.setv (u' := .bool true) 34 rfl (congrArg Value.bool (decide_eq_true (by omega))) ?_
  refine JO.pur rfl rfl rfl (Pur.not rfl) ?_
  refine JO.pur rfl rfl rfl (Pur.pickF rfl rfl) ?_
  refine JO.pur rfl rfl rfl (Pur.move rfl) ?_
  refine JO.pur rfl rfl rfl (Pur.move rfl) ?_
  refine JO.pur rfl rfl rfl (Pur.neqT rfl rfl) ?_
  refine JO.pur rfl rfl rfl (Pur.move rfl) ?_
  refine JO.setv (u' := .bool false) 40 rfl (congrArg Value.bool ((by decide))) ?_
  refine JO.no rfl rfl rfl ?_
  refine JO.no rfl rfl rfl ?_
  refine JO.no rfl rfl rfl ?_
  refine JO.no rfl rfl rfl ?_
  refine JO.no rfl rfl rfl ?_
  refine JO.no rfl rfl rfl ?_
  refine JO.no rfl rfl rfl ?_
  refine JO.pur rfl rfl rfl (Pur.pickF rfl rfl) ?_
  refine JO.pur rfl rfl rfl (Pur.pickF rfl rfl) ?_
  refine JO.nil ?_
  refine J.condF rfl rfl ?_
  refine J.skip rfl ?_
  refine J.seq rfl ?_
  refine J.region rfl ?_
  refine JO.pur rfl rfl rfl (Pur.move rfl) ?_
  refine JO.pur rfl rfl rfl (Pur.eqlT rfl rfl) ?_
  refine JO.pur rfl rfl rfl (Pur.move rfl) ?_
  refine JO.setv (u' := .bool false) 52 rfl (congrArg Value.bool ((by decide))) ?_
  refine JO.pur rfl rfl rfl (Pur.move rfl) ?_
  refine JO.pur rfl rfl rfl (Pur.eqlT rfl rfl) ?_
  refine JO.pur rfl rfl rfl (Pur.pickF rfl rfl) ?_
  refine JO.pur rfl rfl rfl (Pur.move rfl) ?_
  refine JO.setv (u' := .bool false) 56 rfl (congrArg Value.bool ((by decide))) ?_
  refine JO.pur rfl rfl rfl (Pur.move rfl) ?_
  refine JO.pur rfl rfl rfl (Pur.eqlT rfl rfl) ?_
  refine JO.pur rfl rfl rfl (Pur.pickF rfl rfl) ?_
  refine JO.pur rfl rfl rfl (Pur.assign rfl) ?_
  refine JO.nil ?_
  refine J.seq rfl ?_
  refine J.seq rfl ?_
  refine J.region rfl ?_
  refine JO.pur rfl rfl rfl (Pur.move rfl) ?_
  refine JO.pur rfl rfl rfl (Pur.move rfl) ?_
  refine JO.setv (u' := .bool true) 61 rfl (congrArg Value.bool ((by decide))) ?_
  refine JO.pur rfl rfl rfl (Pur.move rfl) ?_
  refine JO.pur rfl rfl rfl (Pur.eqlT rfl rfl) ?_
  refine JO.pur rfl rfl rfl (Pur.move rfl) ?_
  refine JO.setv (u' := .bool false) 64 rfl (congrArg Value.bool ((by decide))) ?_
  refine JO.pur rfl rfl rfl (Pur.move rfl) ?_
  refine JO.pur rfl rfl rfl (Pur.eqlT rfl rfl) ?_
  refine JO.pur rfl rfl rfl (Pur.pickF rfl rfl) ?_
  refine JO.pur rfl rfl rfl (Pur.pickT rfl rfl) ?_
  refine JO.pur rfl rfl rfl (Pur.move rfl) ?_
  refine JO.setv (u' := .bool false) 69 rfl (congrArg Value.bool ((by decide))) ?_
  refine JO.no rfl rfl rfl ?_
  refine JO.no rfl rfl rfl ?_
  refine JO.pur rfl rfl rfl (Pur.pickF rfl rfl) ?_
  refine JO.nil ?_
  refine J.condF rfl rfl ?_
  refine J.skip rfl ?_
  refine J.seq rfl ?_
  refine J.region rfl ?_
  refine JO.pur rfl rfl rfl (Pur.move rfl) ?_
  refine JO.pur rfl rfl rfl (Pur.move rfl) ?_
  refine JO.pur rfl rfl rfl (Pur.move rfl) ?_
  refine JO.pur rfl rfl rfl (Pur.build (cs := [_, _, _, _, _, _]) rfl rfl) ?_
  refine JO.eff rfl rfl rfl (Eff.box (cs := [_, _, _, _, _, _]) rfl rfl) ?_
  rintro _ _ ⟨b77, rfl, rfl⟩
  refine JO.pur rfl rfl rfl (Pur.assign rfl) ?_
  refine JO.nil ?_
  refine J.seq rfl ?_
  refine J.seq rfl ?_
  refine J.region rfl ?_
  refine JO.pur rfl rfl rfl (Pur.move rfl) ?_
  refine JO.pur rfl rfl rfl (Pur.len rfl) ?_
  refine JO.pur rfl rfl rfl (Pur.move rfl) ?_
  refine JO.nil ?_
  refine J.block rfl ?_
  refine J.loopF (ι := Nat × Option Addr × Nat × List Nat) (fun q => q.1 ≤ vs.length ∧ q.2.2.2.length = q.1) (fun q => [(80, .int .i64 (q.1 : Int))]) [(0, _), (14, _), (78, _), (79, _)] (fun q => blk b77 (.cells #[.string sScan, .string ⟨#[43]⟩, .int .i64 0, .slice q.2.1 q.1 q.2.2.1, .slice none 0 0, .int .i64 0] 47) :: sl memE q.2.1 q.2.2.1 ((ms0 (vs.take (q.1))).zip q.2.2.2) :: star (List.zipWith mpA q.2.2.2 (ms0 (vs.take (q.1)))) :: L) (fun q => vs.length - q.1) (0, none, 0, []) rfl (.cons rfl rfl (.cons rfl rfl (.cons rfl rfl (.cons rfl rfl .nil)))) (.cons rfl rfl .nil) (fun h s => by have s2 := sl_nil_new (E := memE) (zw_nil (A := mpA) s); have s3 : Sat h (blk b77 (.cells #[.string sScan, .string ⟨#[43]⟩, .int .i64 0, .slice none 0 0, .slice none 0 0, .int .i64 0] 47) :: sl memE none 0 [] :: star (List.zipWith mpA [] []) :: L) := SubC.out (L := sl memE none 0 [] :: star (List.zipWith mpA [] []) :: _) h s2; exact s3) ⟨Nat.zero_le _, rfl⟩ ?_
  rintro ⟨k, am, cm, bs⟩ ⟨hk, hbl⟩ ihk
  try dsimp only
  dsimp only at hk hbl
  have hml : (ms0 (vs.take k)).length = k := by rw [ms0_len, List.length_take]; omega
  have hzl : ((ms0 (vs.take k)).zip bs).length = k := by rw [List.length_zip]; omega
  refine J.seq rfl ?_
  refine J.region rfl ?_
  refine JO.pur rfl rfl rfl (Pur.lss rfl rfl) ?_
  refine JO.nil ?_
  refine J.seq rfl ?_
  refine J.splitB 81 rfl (fun h81 => ?_) (fun h81 => ?_)
  · try simp only [bSimp, bSimp2, ne_eq] at h81
    have hkl : k < vs.length := by omega
    obtain ⟨x, hX⟩ : ∃ x, vs[k]? = some x := ⟨_, List.getElem?_eq_getElem hkl⟩
    have htk : vs.take (k + 1) = vs.take k ++ [x] := take_get hX
    have hms : ms0 (vs.take (k + 1)) = ms0 (vs.take k) ++ [⟨x, 0, [], false, 0⟩] := by rw [htk]; simp [ms0]
    refine J.condT rfl rfl ?_
    refine J.skip rfl ?_
    refine J.seq rfl ?_
    refine J.block rfl ?_
    refine J.seq rfl ?_
    refine J.region rfl ?_
    refine JO.pur rfl rfl rfl (Pur.idx rfl rfl rfl (by first | rfl | (simp; done) | omega) rfl (by omega)) ?_
    refine JO.pur rfl rfl rfl (Pur.load rfl (CellIn.el0 rfl hX rfl)) ?_
    refine JO.pur rfl rfl rfl (Pur.assign rfl) ?_
    refine JO.nil ?_
    refine J.region rfl ?_
    refine JO.pur rfl rfl rfl (Pur.move rfl) ?_
    refine JO.pur rfl rfl rfl (Pur.move rfl) ?_
    refine JO.pur rfl rfl rfl (Pur.nilCheck rfl) ?_
    refine JO.pur rfl rfl rfl (Pur.fieldAddr rfl) ?_
    refine JO.pur rfl rfl rfl (Pur.load rfl (CellIn.blk rfl)) ?_
    refine JO.pur rfl rfl rfl (Pur.move rfl) ?_
    refine JO.eff rfl rfl rfl (Eff.makeMap intK) ?_
    rintro _ _ ⟨b90, rfl, rfl⟩
    refine JO.pur rfl rfl rfl (Pur.build (cs := [_, _, _, _, _]) rfl rfl) ?_
    refine JO.eff rfl rfl rfl (Eff.buildSlice memE [((⟨x, 0, [], false, 0⟩ : Mm), b90)] rfl rfl rfl rfl rfl rfl rfl) ?_
    rintro _ _ ⟨b92, rfl, -, rfl⟩
    refine JO.eff rfl rfl rfl (Eff.append rfl rfl rfl rfl (by first | rfl | omega | (simp; done) | (simp; omega)) (by first | rfl | omega | (simp; done) | (simp; omega)) (by decide) (by rw [hzl]; simp; omega) (by rw [hzl]; simp; omega) (fun h => by cases h)) ?_
    rintro _ _ ⟨a93, c93, rfl, rfl⟩
    refine JO.setv (u' := .slice a93 (k + 1) c93) 93 rfl (by rw [hzl]; rfl) ?_
    have hzp : (ms0 (vs.take k) ++ [(⟨x, 0, [], false, 0⟩ : Mm)]).zip (bs ++ [b90]) = (ms0 (vs.take k)).zip bs ++ [(⟨x, 0, [], false, 0⟩, b90)] := by rw [List.zip_append (hml.trans hbl.symm)]; rfl
    refine JO.pur rfl rfl rfl (Pur.nilCheck rfl) ?_
    refine JO.pur rfl rfl rfl (Pur.fieldAddr rfl) ?_
    refine JO.effN rfl rfl (Eff.storeB rfl rfl rfl (.tail (.tail (.tail .head)))) ?_
    rintro _ _ ⟨rfl, rfl⟩
    refine JO.nil ?_
    refine J.inBlock ?_
    refine J.region rfl ?_
    refine JO.pur rfl rfl rfl (Pur.add rfl rfl (wr64 (by omega))) ?_
    refine JO.pur rfl rfl rfl (Pur.move rfl) ?_
    refine JO.nil ?_
    exact J.weaken (.cons rfl (congrArg (Value.int .i64) (by first | rfl | (dsimp only; omega))) (.cons rfl rfl (.cons rfl rfl (.cons rfl rfl (.cons rfl rfl .nil))))) (fun h s => by have s1 : Sat h (mp intK b90 [] :: star (List.zipWith mpA bs (ms0 (vs.take k))) :: blk b77 (.cells #[.string sScan, .string ⟨#[43]⟩, .int .i64 0, .slice a93 (k + 1) c93, .slice none 0 0, .int .i64 0] 47) :: sl memE a93 c93 ((ms0 (vs.take k)).zip bs ++ [((⟨x, 0, [], false, 0⟩ : Mm), b90)]) :: L) := SubC.out h s; have s2 : Sat h (mpA b90 ⟨x, 0, [], false, 0⟩ :: star (List.zipWith mpA bs (ms0 (vs.take k))) :: blk b77 (.cells #[.string sScan, .string ⟨#[43]⟩, .int .i64 0, .slice a93 (k + 1) c93, .slice none 0 0, .int .i64 0] 47) :: sl memE a93 c93 ((ms0 (vs.take k)).zip bs ++ [((⟨x, 0, [], false, 0⟩ : Mm), b90)]) :: L) := s1; have s3 := zw_snoc (A := mpA) (hbl.trans hml.symm) s2; dsimp only; rw [hms, hzp]; exact SubC.out h s3) (ihk (k + 1, a93, c93, bs ++ [b90]) ⟨by dsimp only; omega, by dsimp only; simp [hbl]⟩ (by dsimp only; omega))
  · try simp only [bSimp, bSimp2, ne_eq] at h81
    have hke : k = vs.length := by omega
    subst hke
    rw [List.take_length]
    have hbl2 : bs.length = (scan0 vs).ms.length := by rw [hbl]; simp [scan0]
    refine J.condF rfl rfl ?_
    refine J.exit rfl rfl ?_
    refine J.seq rfl ?_
    refine J.seq rfl ?_
    refine J.region rfl ?_
    refine JO.pur rfl rfl rfl (Pur.move rfl) ?_
    refine JO.pur rfl rfl rfl (Pur.eqlT rfl rfl) ?_
    refine JO.nil ?_
    refine J.setv (u' := .bool false) 98 rfl (congrArg Value.bool ((by decide))) ?_
    refine J.condF rfl rfl ?_
    refine J.skip rfl ?_
    refine J.seq rfl ?_
    refine J.region rfl ?_
    refine JO.pur rfl rfl rfl (Pur.move rfl) ?_
    refine JO.imp (M := GB b77 am cm bs (scan0 vs) :: L) (fun h s => by have s2 := sl_nil_new (E := msgE) s; have s3 : Sat h (blk b77 (.cells #[.string sScan, .string ⟨#[43]⟩, .int .i64 0, .slice am vs.length cm, .slice none 0 0, .int .i64 0] 47) :: sl memE am cm ((ms0 vs).zip bs) :: sl msgE none 0 [] :: star (List.zipWith mpA bs (ms0 vs)) :: L) := SubC.out h s2; rw [← ms0_len vs] at s3; exact GB_mk (g := scan0 vs) (af := none) (cf := 0) hbl2 s3) ?_
    refine JO.eff rfl rfl rfl (Eff.call rfl (beginS_ok (g := scan0 vs) (wf_scan0 h1 h8) rfl (.inl rfl) (by show (0 : Nat) ≤ 1000; omega))) ?_
    rintro _ _ ⟨rfl, rfl⟩
    refine JO.nil ?_
    refine J.seq rfl ?_
    refine J.region rfl ?_
    refine JO.pur rfl rfl rfl (Pur.move rfl) ?_
    refine JO.pur rfl rfl rfl (Pur.assign rfl) ?_
    refine JO.pur rfl rfl rfl (Pur.assign rfl) ?_
    refine JO.nil ?_
    refine J.ret rfl rfl ?_
    refine ⟨_, _, ⟨b77, am, cm, bs, rfl, rfl⟩, rfl, fun h s => ?_⟩
    have e : begS (scan0 vs) (scan0 vs).ms.length = newS vs := by unfold newS; congr 1; simp [scan0]
    rw [e] at s
    exact SubC.out h s

abbrev aw0 : Gs := newS [1, 2, 3]
theorem aw_wf : wf aw0 := (begS_keep (wf_scan0 (vs := [1, 2, 3]) (by decide) (by decide)) 3 (by decide)).1
theorem aw_kind : aw0.kind = sScan ∧ okOp aw0.op := by
  obtain ⟨-, -, -, h4, h5, -⟩ := begS_keep (wf_scan0 (vs := [1, 2, 3]) (by decide) (by decide)) 3 (by decide)
  exact ⟨h5, by show okOp (begS _ 3).op; rw [h4]; exact .inl rfl⟩
theorem aw_pos : ∀ i, i < 3 → 0 < (dlvN aw0 i).fly.length := by decide +kernel
theorem aw_end : (dlvN aw0 3).fly = [] := by
  have h : (dlvN aw0 3).fly.length = 0 := by decide +kernel
  exact List.eq_nil_of_length_eq_zero h
theorem aw_len : aw0.fly.length ≤ 100 := by decide +kernel
theorem aw_res : resV (dlvN aw0 3) 2 = (6, 0) := by decide +kernel
theorem aw_sent : (dlvN aw0 3).sent = 3 := by decide +kernel
theorem awake_ok {L : List Asn} :
    CallS Try.prog 12 [].toArray L (fun v M => v = .bool true ∧ M = L) := by
  refine CallS.ent ?_
  refine CallS.enter Try.func12 rfl rfl rfl rfl rfl ?_
  refine J.seq rfl ?_
  refine J.region rfl ?_
  refine JO.pur rfl rfl rfl (Pur.assign rfl) ?_
  refine JO.nil ?_
  refine J.seq rfl ?_
  refine J.region rfl ?_
  refine JO.eff rfl rfl rfl (Eff.buildSlice intE [1, 2, 3] rfl rfl rfl rfl rfl rfl rfl) ?_
  rintro _ _ ⟨b8, rfl, -, rfl⟩
  refine JO.eff rfl rfl rfl (Eff.call rfl (newS_ok (vs := [1, 2, 3]) rfl (by decide) (by decide))) ?_
  rintro _ _ ⟨p, am, cm, bs, rfl, rfl⟩
  refine JO.pur rfl rfl rfl (Pur.move rfl) ?_
  refine JO.pur rfl rfl rfl (Pur.extract rfl rfl) ?_
  refine JO.pur rfl rfl rfl (Pur.extract rfl rfl) ?_
  refine JO.pur rfl rfl rfl (Pur.assign rfl) ?_
  refine JO.pur rfl rfl rfl (Pur.assign rfl) ?_
  refine JO.nil ?_
  refine J.seq rfl ?_
  refine J.seq rfl ?_
  refine J.region rfl ?_
  refine JO.pur rfl rfl rfl (Pur.move rfl) ?_
  refine JO.pur rfl rfl rfl (Pur.neqI rfl rfl) ?_
  refine JO.pur rfl rfl rfl (Pur.move rfl) ?_
  refine JO.setv (u' := .bool false) 14 rfl (congrArg Value.bool (decide_eq_false (fun h => h rfl))) ?_
  refine JO.pur rfl rfl rfl (Pur.move rfl) ?_
  refine JO.pur rfl rfl rfl (Pur.eqlPtrNil rfl) ?_
  refine JO.pur rfl rfl rfl (Pur.pickF rfl rfl) ?_
  refine JO.nil ?_
  refine J.setv (u' := .bool false) 17 rfl (congrArg Value.bool (rfl)) ?_
  refine J.condF rfl rfl ?_
  refine J.skip rfl ?_
  refine J.seq rfl ?_
  refine J.region rfl ?_
  refine JO.pur rfl rfl rfl (Pur.move rfl) ?_
  refine JO.eff rfl rfl rfl (Eff.call rfl (drainS_ok (g := aw0) (K := 3) aw_wf aw_kind.1 aw_kind.2 aw_pos aw_end (by have := aw_len; omega))) ?_
  rintro _ _ ⟨rfl, rfl⟩
  refine JO.pur rfl rfl rfl (Pur.move rfl) ?_
  refine JO.pur rfl rfl rfl (Pur.extract rfl rfl) ?_
  refine JO.pur rfl rfl rfl (Pur.extract rfl rfl) ?_
  refine JO.pur rfl rfl rfl (Pur.assign rfl) ?_
  refine JO.pur rfl rfl rfl (Pur.assign rfl) ?_
  refine JO.nil ?_
  refine J.seq rfl ?_
  refine J.region rfl ?_
  refine JO.pur rfl rfl rfl (Pur.move rfl) ?_
  refine JO.eff rfl rfl rfl (Eff.call rfl (result_ok (g := dlvN aw0 3) (q := 2) (dlvN_keep aw_wf 3 aw_pos).1)) ?_
  rintro _ _ ⟨rfl, rfl⟩
  rw [aw_res]
  refine JO.pur rfl rfl rfl (Pur.move rfl) ?_
  refine JO.pur rfl rfl rfl (Pur.extract rfl rfl) ?_
  refine JO.pur rfl rfl rfl (Pur.extract rfl rfl) ?_
  refine JO.pur rfl rfl rfl (Pur.assign rfl) ?_
  refine JO.pur rfl rfl rfl (Pur.assign rfl) ?_
  refine JO.nil ?_
  refine J.seq rfl ?_
  refine J.region rfl ?_
  refine JO.pur rfl rfl rfl (Pur.move rfl) ?_
  refine JO.pur rfl rfl rfl (Pur.eqlI rfl rfl) ?_
  refine JO.pur rfl rfl rfl (Pur.move rfl) ?_
  refine JO.setv (u' := .bool true) 30 rfl (congrArg Value.bool (decide_eq_true rfl)) ?_
  refine JO.pur rfl rfl rfl (Pur.move rfl) ?_
  refine JO.pur rfl rfl rfl (Pur.eqlI rfl rfl) ?_
  refine JO.pur rfl rfl rfl (Pur.pickT rfl rfl) ?_
  refine JO.pur rfl rfl rfl (Pur.move rfl) ?_
  refine JO.setv (u' := .bool true) 34 rfl (congrArg Value.bool (decide_eq_true rfl)) ?_
  refine JO.pur rfl rfl rfl (Pur.move rfl) ?_
  refine JO.pur rfl rfl rfl (Pur.eqlI rfl rfl) ?_
  refine JO.pur rfl rfl rfl (Pur.pickT rfl rfl) ?_
  refine JO.pur rfl rfl rfl (Pur.move rfl) ?_
  refine JO.setv (u' := .bool true) 38 rfl (congrArg Value.bool (decide_eq_true rfl)) ?_
  refine JO.pur rfl rfl rfl (Pur.move rfl) ?_
  refine JO.pur rfl rfl rfl (Pur.eqlI rfl rfl) ?_
  refine JO.pur rfl rfl rfl (Pur.pickT rfl rfl) ?_
  refine JO.pur rfl rfl rfl (Pur.move rfl) ?_
  refine JO.setv (u' := .bool true) 42 rfl (congrArg Value.bool (decide_eq_true rfl)) ?_
  refine JO.pur rfl rfl rfl (Pur.move rfl) ?_
  refine JO.eff rfl rfl rfl (Eff.call rfl (sent_ok (g := dlvN aw0 3) (dlvN_keep aw_wf 3 aw_pos).1)) ?_
  rintro _ _ ⟨rfl, rfl⟩
  rw [aw_sent]
  refine JO.pur rfl rfl rfl (Pur.eqlI rfl rfl) ?_
  refine JO.pur rfl rfl rfl (Pur.pickT rfl rfl) ?_
  refine JO.pur rfl rfl rfl (Pur.assign rfl) ?_
  refine JO.nil ?_
  refine J.ret rfl rfl ?_
  refine ⟨_, _, ⟨rfl, rfl⟩, rfl, SubC.out⟩

end Go.Proofs.Ytoikjjpleonllaa

/- The text G7. -/
set_option linter.unusedVariables false
set_option linter.unusedSimpArgs false
set_option maxRecDepth 10000
namespace Go.Proofs.Ytoikjjpleonllaa
open Go Go.KK Gr

def ptrE : Enc (Option Nat) := ⟨25, 1, fun o => [.pointer (o.map fun b => (⟨b, 0, none⟩ : Addr))], fun _ => rfl, fun s v h => by
  simp only [List.mem_cons, List.not_mem_nil, or_false] at h; rcases h with rfl; rfl⟩
end Go.Proofs.Ytoikjjpleonllaa
