/-
  A part of the proof of the claim that this folder bears.
-/
import Derived.Test.YtoikjjpleonllaaPAM
import Derived.Test.YtoikjjpleonllaaPAN
/- The text R4. -/
set_option linter.unusedVariables false
set_option linter.unusedSimpArgs false
set_option maxRecDepth 10000
namespace Go.Proofs.Ytoikjjpleonllaa
open Go Go.KK Gr Rg

def prsR (l : List Rm) : List (Nat × Nat) := l.map fun m => (m.fr, m.to)
theorem prsR_len (l : List Rm) : (prsR l).length = l.length := by simp [prsR]
theorem flyR_len {X : Rs} {k : Nat} (h : k ≤ X.fly.length) : (prsR (X.fly.take k)).length = k := by rw [prsR_len, List.length_take]; omega
theorem rresult_ok {L : List Asn} {p n : Nat} {X : Rs} (hw : WR n X) {q : Int} :
    CallS Try.prog 50 [.pointer (some ⟨p, 0, none⟩), .int .i64 q].toArray (RB p X :: L) (fun v M => v = .tuple #[.int .i64 (resR X q).1, .int .i64 (resR X q).2] ∧ M = RB p X :: L) := by
  have wn1 := hw.n1
  have wn8 := hw.n8
  have wls := hw.ls
  have wlh := hw.lh
  have wlg := hw.lg
  have wlr := hw.lr
  have wlb := hw.lb
  refine CallS.ent ?_
  refine CallS.enter Try.func50 rfl rfl rfl rfl rfl ?_
  refine RB_open fun sa sc ha hc ga gc ra rc ba bc fa fc hs hb => ?_
  refine J.imp (M := blk p (rC X.kind X.op X.root X.sum.length sa sc ha X.has.length hc ga X.got.length gc ra X.rnd.length rc ba X.beg.length bc fa X.fly.length fc X.sent) :: sl intE sa sc X.sum :: sl boE ha hc X.has :: sl grE ga gc (hs.zip X.got) :: star (List.zipWith gA hs X.got) :: sl natE ra rc X.rnd :: sl boE ba bc X.beg :: slQ rmE fa fc X.fly :: L) (fun h s => s) ?_
  refine J.seq rfl ?_
  refine J.region rfl ?_
  refine JO.pur rfl rfl rfl (Pur.assign rfl) ?_
  refine JO.pur rfl rfl rfl (Pur.assign rfl) ?_
  refine JO.nil ?_
  refine J.seq rfl ?_
  refine J.block rfl ?_
  refine J.seq rfl ?_
  refine J.region rfl ?_
  refine JO.pur rfl rfl rfl (Pur.move rfl) ?_
  refine JO.pur rfl rfl rfl (Pur.lss rfl rfl) ?_
  refine JO.pur rfl rfl rfl (Pur.move rfl) ?_
  refine JO.splitB 9 rfl (fun h9 => ?_) (fun h9 => ?_)
  · try simp only [bSimp, bSimp2, ne_eq] at h9
    have hbad : resR X q = (0, 2) := by unfold resR; rw [if_pos (.inl (by omega))]
    refine JO.no rfl rfl rfl ?_
    refine JO.no rfl rfl rfl ?_
    refine JO.no rfl rfl rfl ?_
    refine JO.no rfl rfl rfl ?_
    refine JO.no rfl rfl rfl ?_
    refine JO.no rfl rfl rfl ?_
    refine JO.pur rfl rfl rfl (Pur.pickT rfl rfl) ?_
    refine JO.pur rfl rfl rfl (Pur.move rfl) ?_
    refine JO.no rfl rfl rfl ?_
    refine JO.no rfl rfl rfl ?_
    refine JO.no rfl rfl rfl ?_
    refine JO.no rfl rfl rfl ?_
    refine JO.no rfl rfl rfl ?_
    refine JO.no rfl rfl rfl ?_
    refine JO.no rfl rfl rfl ?_
    refine JO.no rfl rfl rfl ?_
    refine JO.no rfl rfl rfl ?_
    refine JO.no rfl rfl rfl ?_
    refine JO.no rfl rfl rfl ?_
    refine JO.no rfl rfl rfl ?_
    refine JO.no rfl rfl rfl ?_
    refine JO.pur rfl rfl rfl (Pur.pickT rfl rfl) ?_
    refine JO.pur rfl rfl rfl (Pur.assign rfl) ?_
    refine JO.nil ?_
    refine J.condT rfl rfl ?_
    refine J.seq rfl ?_
    refine J.region rfl ?_
    refine JO.pur rfl rfl rfl (Pur.assign rfl) ?_
    refine JO.pur rfl rfl rfl (Pur.assign rfl) ?_
    refine JO.nil ?_
    refine J.ret rfl rfl ?_
    refine ⟨_, _, ⟨rfl, rfl⟩, ?_, (fun h s => RB_mk (R := X) (L := L) ⟨sa, sc, ha, hc, ga, gc, ra, rc, ba, bc, fa, fc, hs⟩ hb (show Sat h (blk p (rC X.kind X.op X.root X.sum.length sa sc ha X.has.length hc ga X.got.length gc ra X.rnd.length rc ba X.beg.length bc fa X.fly.length fc X.sent) :: sl intE sa sc X.sum :: sl boE ha hc X.has :: sl grE ga gc (hs.zip X.got) :: star (List.zipWith gA hs X.got) :: sl natE ra rc X.rnd :: sl boE ba bc X.beg :: slQ rmE fa fc X.fly :: L) from SubC.out h s))⟩
    rw [hbad]; rfl
  · try simp only [bSimp, bSimp2, ne_eq] at h9
    refine JO.pur rfl rfl rfl (Pur.move rfl) ?_
    refine JO.pur rfl rfl rfl (Pur.move rfl) ?_
    refine JO.pur rfl rfl rfl (Pur.nilCheck rfl) ?_
    refine JO.pur rfl rfl rfl (Pur.fieldAddr rfl) ?_
    refine JO.pur rfl rfl rfl (Pur.load rfl (CellIn.blk rfl)) ?_
    refine JO.pur rfl rfl rfl (Pur.geq rfl rfl) ?_
    refine JO.pur rfl rfl rfl (Pur.pickF rfl rfl) ?_
    refine JO.pur rfl rfl rfl (Pur.move rfl) ?_
    refine JO.splitB 17 rfl (fun h17 => ?_) (fun h17 => ?_)
    · try simp only [bSimp, bSimp2, ne_eq] at h17
      have hbad : resR X q = (0, 2) := by unfold resR; rw [if_pos (.inr (.inl (by omega)))]
      refine JO.no rfl rfl rfl ?_
      refine JO.no rfl rfl rfl ?_
      refine JO.no rfl rfl rfl ?_
      refine JO.no rfl rfl rfl ?_
      refine JO.no rfl rfl rfl ?_
      refine JO.no rfl rfl rfl ?_
      refine JO.no rfl rfl rfl ?_
      refine JO.no rfl rfl rfl ?_
      refine JO.no rfl rfl rfl ?_
      refine JO.no rfl rfl rfl ?_
      refine JO.no rfl rfl rfl ?_
      refine JO.no rfl rfl rfl ?_
      refine JO.no rfl rfl rfl ?_
      refine JO.pur rfl rfl rfl (Pur.pickT rfl rfl) ?_
      refine JO.pur rfl rfl rfl (Pur.assign rfl) ?_
      refine JO.nil ?_
      refine J.condT rfl rfl ?_
      refine J.seq rfl ?_
      refine J.region rfl ?_
      refine JO.pur rfl rfl rfl (Pur.assign rfl) ?_
      refine JO.pur rfl rfl rfl (Pur.assign rfl) ?_
      refine JO.nil ?_
      refine J.ret rfl rfl ?_
      refine ⟨_, _, ⟨rfl, rfl⟩, ?_, (fun h s => RB_mk (R := X) (L := L) ⟨sa, sc, ha, hc, ga, gc, ra, rc, ba, bc, fa, fc, hs⟩ hb (show Sat h (blk p (rC X.kind X.op X.root X.sum.length sa sc ha X.has.length hc ga X.got.length gc ra X.rnd.length rc ba X.beg.length bc fa X.fly.length fc X.sent) :: sl intE sa sc X.sum :: sl boE ha hc X.has :: sl grE ga gc (hs.zip X.got) :: star (List.zipWith gA hs X.got) :: sl natE ra rc X.rnd :: sl boE ba bc X.beg :: slQ rmE fa fc X.fly :: L) from SubC.out h s))⟩
      rw [hbad]; rfl
    · try simp only [bSimp, bSimp2, ne_eq] at h17
      refine JO.pur rfl rfl rfl (Pur.move rfl) ?_
      refine JO.pur rfl rfl rfl (Pur.nilCheck rfl) ?_
      refine JO.pur rfl rfl rfl (Pur.fieldAddr rfl) ?_
      refine JO.pur rfl rfl rfl (Pur.load rfl (CellIn.blk rfl)) ?_
      refine JO.pur rfl rfl rfl (Pur.eqlT rfl rfl) ?_
      refine JO.pur rfl rfl rfl (Pur.move rfl) ?_
      refine JO.splitB 23 rfl (fun h23 => ?_) (fun h23 => ?_)
      · try simp only [bSimp, bSimp2, ne_eq] at h23
        refine JO.pur rfl rfl rfl (Pur.move rfl) ?_
        refine JO.pur rfl rfl rfl (Pur.move rfl) ?_
        refine JO.pur rfl rfl rfl (Pur.nilCheck rfl) ?_
        refine JO.pur rfl rfl rfl (Pur.fieldAddr rfl) ?_
        refine JO.pur rfl rfl rfl (Pur.load rfl (CellIn.blk rfl)) ?_
        refine JO.pur rfl rfl rfl (Pur.neqI rfl rfl) ?_
        refine JO.pur rfl rfl rfl (Pur.pickT rfl rfl) ?_
        refine JO.pur rfl rfl rfl (Pur.pickF rfl rfl) ?_
        refine JO.pur rfl rfl rfl (Pur.assign rfl) ?_
        refine JO.nil ?_
        refine J.splitB 6 rfl (fun h6 => ?_) (fun h6 => ?_)
        · try simp only [bSimp, bSimp2, ne_eq] at h6
          have hbad : resR X q = (0, 2) := by unfold resR; rw [if_pos (.inr (.inr ⟨h23, by simpa using h6⟩))]
          refine J.condT rfl rfl ?_
          refine J.seq rfl ?_
          refine J.region rfl ?_
          refine JO.pur rfl rfl rfl (Pur.assign rfl) ?_
          refine JO.pur rfl rfl rfl (Pur.assign rfl) ?_
          refine JO.nil ?_
          refine J.ret rfl rfl ?_
          refine ⟨_, _, ⟨rfl, rfl⟩, ?_, (fun h s => RB_mk (R := X) (L := L) ⟨sa, sc, ha, hc, ga, gc, ra, rc, ba, bc, fa, fc, hs⟩ hb (show Sat h (blk p (rC X.kind X.op X.root X.sum.length sa sc ha X.has.length hc ga X.got.length gc ra X.rnd.length rc ba X.beg.length bc fa X.fly.length fc X.sent) :: sl intE sa sc X.sum :: sl boE ha hc X.has :: sl grE ga gc (hs.zip X.got) :: star (List.zipWith gA hs X.got) :: sl natE ra rc X.rnd :: sl boE ba bc X.beg :: slQ rmE fa fc X.fly :: L) from SubC.out h s))⟩
          rw [hbad]; rfl
        · try simp only [bSimp, bSimp2, ne_eq] at h6
          have hq0 : 0 ≤ q := by omega
          have hqn : q.toNat < n := by omega
          have hng : ¬ (q < 0 ∨ (X.sum.length : Int) ≤ q ∨ (X.kind = sRed ∧ q ≠ X.root)) := by
            rintro (g1 | g1 | g1)
            · omega
            · omega
            · exact g1.2 (by simpa using h6)
          refine J.condF rfl rfl ?_
          refine J.seq rfl ?_
          refine J.region rfl ?_
          refine JO.pur rfl rfl rfl (Pur.move rfl) ?_
          refine JO.pur rfl rfl rfl (Pur.nilCheck rfl) ?_
          refine JO.pur rfl rfl rfl (Pur.fieldAddr rfl) ?_
          refine JO.pur rfl rfl rfl (Pur.load rfl (CellIn.blk rfl)) ?_
          refine JO.pur rfl rfl rfl (Pur.move rfl) ?_
          refine JO.pur rfl rfl rfl (Pur.idx rfl rfl rfl (by first | rfl | (simp; done) | omega) (Int.toNat_of_nonneg hq0).symm (by rw [wlh]; exact hqn)) ?_
          refine JO.pur rfl rfl rfl (Pur.load rfl (CellIn.el0 rfl (getD_get false (by rw [wlh]; exact hqn)) rfl)) ?_
          refine JO.setv (u' := .bool (rhas X q.toNat)) 39 rfl rfl ?_
          refine JO.pur rfl rfl rfl (Pur.not rfl) ?_
          refine JO.pur rfl rfl rfl (Pur.assign rfl) ?_
          refine JO.nil ?_
          refine J.splitB 32 rfl (fun h32 => ?_) (fun h32 => ?_)
          · try simp only [bSimp, bSimp2, ne_eq] at h32
            have hbad : resR X q = (0, 171) := by unfold resR; rw [if_neg hng, if_neg (by simpa using h32)]
            refine J.condT rfl rfl ?_
            refine J.seq rfl ?_
            refine J.region rfl ?_
            refine JO.pur rfl rfl rfl (Pur.assign rfl) ?_
            refine JO.pur rfl rfl rfl (Pur.assign rfl) ?_
            refine JO.nil ?_
            refine J.ret rfl rfl ?_
            refine ⟨_, _, ⟨rfl, rfl⟩, ?_, (fun h s => RB_mk (R := X) (L := L) ⟨sa, sc, ha, hc, ga, gc, ra, rc, ba, bc, fa, fc, hs⟩ hb (show Sat h (blk p (rC X.kind X.op X.root X.sum.length sa sc ha X.has.length hc ga X.got.length gc ra X.rnd.length rc ba X.beg.length bc fa X.fly.length fc X.sent) :: sl intE sa sc X.sum :: sl boE ha hc X.has :: sl grE ga gc (hs.zip X.got) :: star (List.zipWith gA hs X.got) :: sl natE ra rc X.rnd :: sl boE ba bc X.beg :: slQ rmE fa fc X.fly :: L) from SubC.out h s))⟩
            rw [hbad]; rfl
          · try simp only [bSimp, bSimp2, ne_eq] at h32
            have hbad : resR X q = (rsum X q.toNat, 0) := by unfold resR; rw [if_neg hng, if_pos (by simpa using h32)]
            refine J.condF rfl rfl ?_
            refine J.skip rfl ?_
            refine J.inBlock ?_
            refine J.seq rfl ?_
            refine J.region rfl ?_
            refine JO.pur rfl rfl rfl (Pur.move rfl) ?_
            refine JO.pur rfl rfl rfl (Pur.nilCheck rfl) ?_
            refine JO.pur rfl rfl rfl (Pur.fieldAddr rfl) ?_
            refine JO.pur rfl rfl rfl (Pur.load rfl (CellIn.blk rfl)) ?_
            refine JO.pur rfl rfl rfl (Pur.move rfl) ?_
            refine JO.pur rfl rfl rfl (Pur.idx rfl rfl rfl (by first | rfl | (simp; done) | omega) (Int.toNat_of_nonneg hq0).symm (by rw [wls]; exact hqn)) ?_
            refine JO.pur rfl rfl rfl (Pur.load rfl (CellIn.el0 rfl (getD_get 0 (by rw [wls]; exact hqn)) rfl)) ?_
            refine JO.setv (u' := .int .i64 (rsum X q.toNat)) 47 rfl rfl ?_
            refine JO.pur rfl rfl rfl (Pur.assign rfl) ?_
            refine JO.pur rfl rfl rfl (Pur.assign rfl) ?_
            refine JO.nil ?_
            refine J.ret rfl rfl ?_
            refine ⟨_, _, ⟨rfl, rfl⟩, ?_, (fun h s => RB_mk (R := X) (L := L) ⟨sa, sc, ha, hc, ga, gc, ra, rc, ba, bc, fa, fc, hs⟩ hb (show Sat h (blk p (rC X.kind X.op X.root X.sum.length sa sc ha X.has.length hc ga X.got.length gc ra X.rnd.length rc ba X.beg.length bc fa X.fly.length fc X.sent) :: sl intE sa sc X.sum :: sl boE ha hc X.has :: sl grE ga gc (hs.zip X.got) :: star (List.zipWith gA hs X.got) :: sl natE ra rc X.rnd :: sl boE ba bc X.beg :: slQ rmE fa fc X.fly :: L) from SubC.out h s))⟩
            rw [hbad]; rfl
      · try simp only [bSimp, bSimp2, ne_eq] at h23
        have hq0 : 0 ≤ q := by omega
        have hqn : q.toNat < n := by omega
        have hng : ¬ (q < 0 ∨ (X.sum.length : Int) ≤ q ∨ (X.kind = sRed ∧ q ≠ X.root)) := by
          rintro (g1 | g1 | g1)
          · omega
          · omega
          · exact h23 g1.1
        refine JO.no rfl rfl rfl ?_
        refine JO.no rfl rfl rfl ?_
        refine JO.no rfl rfl rfl ?_
        refine JO.no rfl rfl rfl ?_
        refine JO.no rfl rfl rfl ?_
        refine JO.no rfl rfl rfl ?_
        refine JO.pur rfl rfl rfl (Pur.pickF rfl rfl) ?_
        refine JO.pur rfl rfl rfl (Pur.pickF rfl rfl) ?_
        refine JO.pur rfl rfl rfl (Pur.assign rfl) ?_
        refine JO.nil ?_
        refine J.condF rfl rfl ?_
        refine J.seq rfl ?_
        refine J.region rfl ?_
        refine JO.pur rfl rfl rfl (Pur.move rfl) ?_
        refine JO.pur rfl rfl rfl (Pur.nilCheck rfl) ?_
        refine JO.pur rfl rfl rfl (Pur.fieldAddr rfl) ?_
        refine JO.pur rfl rfl rfl (Pur.load rfl (CellIn.blk rfl)) ?_
        refine JO.pur rfl rfl rfl (Pur.move rfl) ?_
        refine JO.pur rfl rfl rfl (Pur.idx rfl rfl rfl (by first | rfl | (simp; done) | omega) (Int.toNat_of_nonneg hq0).symm (by rw [wlh]; exact hqn)) ?_
        refine JO.pur rfl rfl rfl (Pur.load rfl (CellIn.el0 rfl (getD_get false (by rw [wlh]; exact hqn)) rfl)) ?_
        refine JO.setv (u' := .bool (rhas X q.toNat)) 39 rfl rfl ?_
        refine JO.pur rfl rfl rfl (Pur.not rfl) ?_
        refine JO.pur rfl rfl rfl (Pur.assign rfl) ?_
        refine JO.nil ?_
        refine J.splitB 32 rfl (fun h32 => ?_) (fun h32 => ?_)
        · try simp only [bSimp, bSimp2, ne_eq] at h32
          have hbad : resR X q = (0, 171) := by unfold resR; rw [if_neg hng, if_neg (by simpa using h32)]
          refine J.condT rfl rfl ?_
          refine J.seq rfl ?_
          refine J.region rfl ?_
          refine JO.pur rfl rfl rfl (Pur.assign rfl) ?_
          refine JO.pur rfl rfl rfl (Pur.assign rfl) ?_
          refine JO.nil ?_
          refine J.ret rfl rfl ?_
          refine ⟨_, _, ⟨rfl, rfl⟩, ?_, (fun h s => RB_mk (R := X) (L := L) ⟨sa, sc, ha, hc, ga, gc, ra, rc, ba, bc, fa, fc, hs⟩ hb (show Sat h (blk p (rC X.kind X.op X.root X.sum.length sa sc ha X.has.length hc ga X.got.length gc ra X.rnd.length rc ba X.beg.length bc fa X.fly.length fc X.sent) :: sl intE sa sc X.sum :: sl boE ha hc X.has :: sl grE ga gc (hs.zip X.got) :: star (List.zipWith gA hs X.got) :: sl natE ra rc X.rnd :: sl boE ba bc X.beg :: slQ rmE fa fc X.fly :: L) from SubC.out h s))⟩
          rw [hbad]; rfl
        · try simp only [bSimp, bSimp2, ne_eq] at h32
          have hbad : resR X q = (rsum X q.toNat, 0) := by unfold resR; rw [if_neg hng, if_pos (by simpa using h32)]
          refine J.condF rfl rfl ?_
          refine J.skip rfl ?_
          refine J.inBlock ?_
          refine J.seq rfl ?_
          refine J.region rfl ?_
          refine JO.pur rfl rfl rfl (Pur.move rfl) ?_
          refine JO.pur rfl rfl rfl (Pur.nilCheck rfl) ?_
          refine JO.pur rfl rfl rfl (Pur.fieldAddr rfl) ?_
          refine JO.pur rfl rfl rfl (Pur.load rfl (CellIn.blk rfl)) ?_
          refine JO.pur rfl rfl rfl (Pur.move rfl) ?_
          refine JO.pur rfl rfl rfl (Pur.idx rfl rfl rfl (by first | rfl | (simp; done) | omega) (Int.toNat_of_nonneg hq0).symm (by rw [wls]; exact hqn)) ?_
          refine JO.pur rfl rfl rfl (Pur.load rfl (CellIn.el0 rfl (getD_get 0 (by rw [wls]; exact hqn)) rfl)) ?_
          refine JO.setv (u' := .int .i64 (rsum X q.toNat)) 47 rfl rfl ?_
          refine JO.pur rfl rfl rfl (Pur.assign rfl) ?_
          refine JO.pur rfl rfl rfl (Pur.assign rfl) ?_
          refine JO.nil ?_
          refine J.ret rfl rfl ?_
          refine ⟨_, _, ⟨rfl, rfl⟩, ?_, (fun h s => RB_mk (R := X) (L := L) ⟨sa, sc, ha, hc, ga, gc, ra, rc, ba, bc, fa, fc, hs⟩ hb (show Sat h (blk p (rC X.kind X.op X.root X.sum.length sa sc ha X.has.length hc ga X.got.length gc ra X.rnd.length rc ba X.beg.length bc fa X.fly.length fc X.sent) :: sl intE sa sc X.sum :: sl boE ha hc X.has :: sl grE ga gc (hs.zip X.got) :: star (List.zipWith gA hs X.got) :: sl natE ra rc X.rnd :: sl boE ba bc X.beg :: slQ rmE fa fc X.fly :: L) from SubC.out h s))⟩
          rw [hbad]; rfl

theorem rover_ok {L : List Asn} {p n : Nat} {X : Rs} (hw : WR n X) :
    CallS Try.prog 52 [.pointer (some ⟨p, 0, none⟩)].toArray (RB p X :: L) (fun v M => v = .bool (decide (X.fly.length = 0)) ∧ M = RB p X :: L) := by
  have wn1 := hw.n1
  have wn8 := hw.n8
  have wls := hw.ls
  have wlh := hw.lh
  have wlg := hw.lg
  have wlr := hw.lr
  have wlb := hw.lb
  refine CallS.ent ?_
  refine CallS.enter Try.func52 rfl rfl rfl rfl rfl ?_
  refine RB_open fun sa sc ha hc ga gc ra rc ba bc fa fc hs hb => ?_
  refine J.imp (M := blk p (rC X.kind X.op X.root X.sum.length sa sc ha X.has.length hc ga X.got.length gc ra X.rnd.length rc ba X.beg.length bc fa X.fly.length fc X.sent) :: sl intE sa sc X.sum :: sl boE ha hc X.has :: sl grE ga gc (hs.zip X.got) :: star (List.zipWith gA hs X.got) :: sl natE ra rc X.rnd :: sl boE ba bc X.beg :: slQ rmE fa fc X.fly :: L) (fun h s => s) ?_
  refine J.seq rfl ?_
  refine J.region rfl ?_
  refine JO.pur rfl rfl rfl (Pur.assign rfl) ?_
  refine JO.nil ?_
  refine J.seq rfl ?_
  refine J.region rfl ?_
  refine JO.pur rfl rfl rfl (Pur.move rfl) ?_
  refine JO.pur rfl rfl rfl (Pur.nilCheck rfl) ?_
  refine JO.pur rfl rfl rfl (Pur.fieldAddr rfl) ?_
  refine JO.pur rfl rfl rfl (Pur.load rfl (CellIn.blk rfl)) ?_
  refine JO.pur rfl rfl rfl (Pur.len rfl) ?_
  refine JO.pur rfl rfl rfl (Pur.eqlI rfl rfl) ?_
  refine JO.pur rfl rfl rfl (Pur.assign rfl) ?_
  refine JO.nil ?_
  refine J.ret rfl rfl ?_
  refine ⟨_, _, ⟨rfl, rfl⟩, congrArg Value.bool (decide_eq_decide.2 (by omega)), (fun h s => RB_mk (R := X) (L := L) ⟨sa, sc, ha, hc, ga, gc, ra, rc, ba, bc, fa, fc, hs⟩ hb (show Sat h (blk p (rC X.kind X.op X.root X.sum.length sa sc ha X.has.length hc ga X.got.length gc ra X.rnd.length rc ba X.beg.length bc fa X.fly.length fc X.sent) :: sl intE sa sc X.sum :: sl boE ha hc X.has :: sl grE ga gc (hs.zip X.got) :: star (List.zipWith gA hs X.got) :: sl natE ra rc X.rnd :: sl boE ba bc X.beg :: slQ rmE fa fc X.fly :: L) from SubC.out h s))⟩

theorem rflying_ok {L : List Asn} {p n : Nat} {X : Rs} (hw : WR n X) (hf : X.fly.length ≤ 10000) :
    CallS Try.prog 17 [.pointer (some ⟨p, 0, none⟩)].toArray (RB p X :: L) (fun v M => ∃ a' c', v = .slice a' X.fly.length c' ∧ M = sl pairE a' c' (prsR X.fly) :: RB p X :: L) := by
  have wn1 := hw.n1
  have wn8 := hw.n8
  have wls := hw.ls
  have wlh := hw.lh
  have wlg := hw.lg
  have wlr := hw.lr
  have wlb := hw.lb
  refine CallS.ent ?_
  refine CallS.enter Try.func17 rfl rfl rfl rfl rfl ?_
  refine RB_open fun sa sc ha hc ga gc ra rc ba bc fa fc hs hb => ?_
  refine J.imp (M := blk p (rC X.kind X.op X.root X.sum.length sa sc ha X.has.length hc ga X.got.length gc ra X.rnd.length rc ba X.beg.length bc fa X.fly.length fc X.sent) :: sl intE sa sc X.sum :: sl boE ha hc X.has :: sl grE ga gc (hs.zip X.got) :: star (List.zipWith gA hs X.got) :: sl natE ra rc X.rnd :: sl boE ba bc X.beg :: slQ rmE fa fc X.fly :: L) (fun h s => s) ?_
  refine J.seq rfl ?_
  refine J.region rfl ?_
  refine JO.pur rfl rfl rfl (Pur.assign rfl) ?_
  refine JO.nil ?_
  refine J.seq rfl ?_
  refine J.region rfl ?_
  refine JO.pur rfl rfl rfl (Pur.assign rfl) ?_
  refine JO.nil ?_
  refine J.seq rfl ?_
  refine J.seq rfl ?_
  refine J.region rfl ?_
  refine JO.pur rfl rfl rfl (Pur.assign rfl) ?_
  refine JO.nil ?_
  refine J.block rfl ?_
  refine J.loopF (ι := Nat × Option Addr × Nat) (fun q => q.1 ≤ X.fly.length) (fun q => [(3, .slice q.2.1 q.1 q.2.2), (4, .int .i64 (q.1 : Int))]) [(0, _)] (fun q => sl pairE q.2.1 q.2.2 (prsR (X.fly.take q.1)) :: blk p (rC X.kind X.op X.root X.sum.length sa sc ha X.has.length hc ga X.got.length gc ra X.rnd.length rc ba X.beg.length bc fa X.fly.length fc X.sent) :: sl intE sa sc X.sum :: sl boE ha hc X.has :: sl grE ga gc (hs.zip X.got) :: star (List.zipWith gA hs X.got) :: sl natE ra rc X.rnd :: sl boE ba bc X.beg :: slQ rmE fa fc X.fly :: L) (fun q => X.fly.length - q.1) (0, none, 0) rfl (.cons rfl rfl .nil) (.cons rfl rfl (.cons rfl rfl .nil)) (fun h s => by have s2 := sl_nil_new (E := pairE) s; exact s2) (Nat.zero_le _) ?_
  rintro ⟨q, a3, c3⟩ hq ihq
  try dsimp only
  dsimp only at hq
  have hpl := flyR_len hq
  refine J.seq rfl ?_
  refine J.seq rfl ?_
  refine J.region rfl ?_
  refine JO.pur rfl rfl rfl (Pur.move rfl) ?_
  refine JO.pur rfl rfl rfl (Pur.move rfl) ?_
  refine JO.pur rfl rfl rfl (Pur.nilCheck rfl) ?_
  refine JO.pur rfl rfl rfl (Pur.fieldAddr rfl) ?_
  refine JO.pur rfl rfl rfl (Pur.load rfl (CellIn.blk rfl)) ?_
  refine JO.pur rfl rfl rfl (Pur.len rfl) ?_
  refine JO.pur rfl rfl rfl (Pur.lss rfl rfl) ?_
  refine JO.nil ?_
  refine J.splitB 11 rfl (fun h11 => ?_) (fun h11 => ?_)
  · try simp only [bSimp, bSimp2, ne_eq] at h11
    have hql : q < X.fly.length := by omega
    have hMq : X.fly[q]? = some (msgR X q) := getD_get default hql
    have htk : prsR (X.fly.take (q + 1)) = prsR (X.fly.take q) ++ [((msgR X q).fr, (msgR X q).to)] := by rw [take_get hMq]; simp [prsR]
    refine J.condT rfl rfl ?_
    refine J.skip rfl ?_
    refine J.seq rfl ?_
    refine J.block rfl ?_
    refine J.mask0 (n := 21) [18, 19] rfl Try.mixed rfl (by kernel_rfl) ?_
    refine JM.takeF 0 (.inr (fun _ h => h)) rfl (by kernel_rfl) rfl rfl rfl (m' := 1) rfl (Pur.move rfl) ?_
    refine JM.takeF 1 (.inr (fun _ h => h)) rfl (by kernel_rfl) rfl rfl rfl (m' := 3) rfl (Pur.move rfl) ?_
    refine JM.takeF 2 (.inr (fun _ h => h)) rfl (by kernel_rfl) rfl rfl rfl (m' := 7) rfl (Pur.nilCheck rfl) ?_
    refine JM.takeF 3 (.inr (fun _ h => h)) rfl (by kernel_rfl) rfl rfl rfl (m' := 15) rfl (Pur.fieldAddr rfl) ?_
    refine JM.takeF 5 (.inr (fun _ h => h)) rfl (by kernel_rfl) rfl rfl rfl (m' := 47) rfl (Pur.move rfl) ?_
    refine JM.takeF 9 (.inr (fun _ h => h)) rfl (by kernel_rfl) rfl rfl rfl (m' := 559) rfl (Pur.move rfl) ?_
    refine JM.takeF 10 (.inr (fun _ h => h)) rfl (by kernel_rfl) rfl rfl rfl (m' := 1583) rfl (Pur.nilCheck rfl) ?_
    refine JM.takeF 11 (.inr (fun _ h => h)) rfl (by kernel_rfl) rfl rfl rfl (m' := 3631) rfl (Pur.fieldAddr rfl) ?_
    refine JM.takeF 13 (.inr (fun _ h => h)) rfl (by kernel_rfl) rfl rfl rfl (m' := 11823) rfl (Pur.move rfl) ?_
    refine JM.many (rs := [4, 12]) (by kernel_rfl) rfl (fun i hi => ?_)
    simp only [List.mem_cons, List.not_mem_nil, or_false] at hi
    rcases hi with rfl | rfl
    · skip
      refine JMi.eff rfl rfl rfl rfl (m' := 11839) rfl (Pur.eff (Pur.load rfl (CellIn.blk rfl))) ?_
      rintro _ _ ⟨rfl, rfl⟩
      refine ⟨.inr (fun _ h => h), ?_⟩
      refine JM.many (rs := [6, 12]) (by kernel_rfl) rfl (fun i hi => ?_)
      simp only [List.mem_cons, List.not_mem_nil, or_false] at hi
      rcases hi with rfl | rfl
      · skip
        refine JMi.eff rfl rfl rfl rfl (m' := 11903) rfl (Pur.eff (Pur.idx rfl rfl rfl (by first | rfl | (simp; done) | omega) rfl hql)) ?_
        rintro _ _ ⟨rfl, rfl⟩
        refine ⟨.inr (fun _ h => h), ?_⟩
        refine JM.take 7 (fun _ h => h) rfl (by kernel_rfl) rfl rfl rfl (m' := 12031) rfl (Pur.fieldAddr rfl) ?_
        refine JM.take 8 (fun _ h => h) rfl (by kernel_rfl) rfl rfl rfl (m' := 12287) rfl (Pur.load rfl (CellIn.el rfl hMq rfl)) ?_
        refine JM.setv (u' := .int .i64 ((msgR X q).fr : Int)) 22 rfl rfl ?_
        refine JM.one (i := 12) (by kernel_rfl) ?_
        refine JMi.eff rfl rfl rfl rfl (m' := 16383) rfl (Pur.eff (Pur.load rfl (CellIn.blk rfl))) ?_
        rintro _ _ ⟨rfl, rfl⟩
        refine ⟨.inr (fun _ h => h), ?_⟩
        refine JM.one (i := 14) (by kernel_rfl) ?_
        refine JMi.eff rfl rfl rfl rfl (m' := 32767) rfl (Pur.eff (Pur.idx rfl rfl rfl (by first | rfl | (simp; done) | omega) rfl hql)) ?_
        rintro _ _ ⟨rfl, rfl⟩
        refine ⟨.inr (fun _ h => h), ?_⟩
        refine JM.take 15 (fun _ h => h) rfl (by kernel_rfl) rfl rfl rfl (m' := 65535) rfl (Pur.fieldAddr rfl) ?_
        refine JM.take 16 (fun _ h => h) rfl (by kernel_rfl) rfl rfl rfl (m' := 131071) rfl (Pur.load rfl (CellIn.el rfl hMq rfl)) ?_
        refine JM.setv (u' := .int .i64 ((msgR X q).to : Int)) 30 rfl rfl ?_
        refine JM.take 17 (fun _ h => h) rfl (by kernel_rfl) rfl rfl rfl (m' := 262143) rfl (Pur.build (cs := [_, _]) rfl rfl) ?_
        refine JM.one (i := 18) (by kernel_rfl) ?_
        refine JMi.eff rfl rfl rfl rfl (m' := 524287) rfl (Eff.buildSlice pairE [((msgR X q).fr, (msgR X q).to)] rfl rfl rfl rfl rfl rfl rfl) ?_
        rintro _ _ ⟨b32, rfl, -, rfl⟩
        refine ⟨.inl (by simp), ?_⟩
        refine JM.one (i := 19) (by kernel_rfl) ?_
        refine JMi.eff rfl rfl rfl rfl (m' := 1048575) rfl (Eff.append rfl rfl rfl rfl (by first | rfl | omega | (simp; done) | (simp; omega)) (by first | rfl | omega | (simp; done) | (simp; omega)) (by decide) (by rw [hpl]; simp; omega) (by rw [hpl]; simp; omega) (fun h => by cases h)) ?_
        rintro _ _ ⟨a33, c33, rfl, rfl⟩
        refine ⟨.inl (by simp), ?_⟩
        refine JM.setv (u' := .slice a33 (q + 1) c33) 33 rfl (by rw [hpl]; rfl) ?_
        refine JM.takeF 20 (.inl (by kernel_rfl)) rfl (by kernel_rfl) rfl rfl rfl (m' := 2097151) rfl (Pur.assign rfl) ?_
        refine JM.done rfl ?_
        refine J.inBlock ?_
        refine J.region rfl ?_
        refine JO.pur rfl rfl rfl (Pur.move rfl) ?_
        refine JO.pur rfl rfl rfl (Pur.add rfl rfl (wr64 (by omega))) ?_
        refine JO.pur rfl rfl rfl (Pur.assign rfl) ?_
        refine JO.nil ?_
        exact J.weaken (.cons rfl rfl (.cons rfl (congrArg (Value.int .i64) (by first | rfl | (dsimp only; omega))) (.cons rfl rfl .nil))) (fun h s => by dsimp only; rw [htk]; exact SubC.out h s) (ihq (q + 1, a33, c33) (by dsimp only; omega) (by dsimp only; omega))
      · skip
        refine JMi.eff rfl rfl rfl rfl (m' := 15935) rfl (Pur.eff (Pur.load rfl (CellIn.blk rfl))) ?_
        rintro _ _ ⟨rfl, rfl⟩
        refine ⟨.inr (fun _ h => h), ?_⟩
        refine JM.many (rs := [6, 14]) (by kernel_rfl) rfl (fun i hi => ?_)
        simp only [List.mem_cons, List.not_mem_nil, or_false] at hi
        rcases hi with rfl | rfl
        · skip
          refine JMi.eff rfl rfl rfl rfl (m' := 15999) rfl (Pur.eff (Pur.idx rfl rfl rfl (by first | rfl | (simp; done) | omega) rfl hql)) ?_
          rintro _ _ ⟨rfl, rfl⟩
          refine ⟨.inr (fun _ h => h), ?_⟩
          refine JM.take 7 (fun _ h => h) rfl (by kernel_rfl) rfl rfl rfl (m' := 16127) rfl (Pur.fieldAddr rfl) ?_
          refine JM.take 8 (fun _ h => h) rfl (by kernel_rfl) rfl rfl rfl (m' := 16383) rfl (Pur.load rfl (CellIn.el rfl hMq rfl)) ?_
          refine JM.setv (u' := .int .i64 ((msgR X q).fr : Int)) 22 rfl rfl ?_
          refine JM.one (i := 14) (by kernel_rfl) ?_
          refine JMi.eff rfl rfl rfl rfl (m' := 32767) rfl (Pur.eff (Pur.idx rfl rfl rfl (by first | rfl | (simp; done) | omega) rfl hql)) ?_
          rintro _ _ ⟨rfl, rfl⟩
          refine ⟨.inr (fun _ h => h), ?_⟩
          refine JM.take 15 (fun _ h => h) rfl (by kernel_rfl) rfl rfl rfl (m' := 65535) rfl (Pur.fieldAddr rfl) ?_
          refine JM.take 16 (fun _ h => h) rfl (by kernel_rfl) rfl rfl rfl (m' := 131071) rfl (Pur.load rfl (CellIn.el rfl hMq rfl)) ?_
          refine JM.setv (u' := .int .i64 ((msgR X q).to : Int)) 30 rfl rfl ?_
          refine JM.take 17 (fun _ h => h) rfl (by kernel_rfl) rfl rfl rfl (m' := 262143) rfl (Pur.build (cs := [_, _]) rfl rfl) ?_
          refine JM.one (i := 18) (by kernel_rfl) ?_
          refine JMi.eff rfl rfl rfl rfl (m' := 524287) rfl (Eff.buildSlice pairE [((msgR X q).fr, (msgR X q).to)] rfl rfl rfl rfl rfl rfl rfl) ?_
          rintro _ _ ⟨b32, rfl, -, rfl⟩
          refine ⟨.inl (by simp), ?_⟩
          refine JM.one (i := 19) (by kernel_rfl) ?_
          refine JMi.eff rfl rfl rfl rfl (m' := 1048575) rfl (Eff.append rfl rfl rfl rfl (by first | rfl | omega | (simp; done) | (simp; omega)) (by first | rfl | omega | (simp; done) | (simp; omega)) (by decide) (by rw [hpl]; simp; omega) (by rw [hpl]; simp; omega) (fun h => by cases h)) ?_
          rintro _ _ ⟨a33, c33, rfl, rfl⟩
          refine ⟨.inl (by simp), ?_⟩
          refine JM.setv (u' := .slice a33 (q + 1) c33) 33 rfl (by rw [hpl]; rfl) ?_
          refine JM.takeF 20 (.inl (by kernel_rfl)) rfl (by kernel_rfl) rfl rfl rfl (m' := 2097151) rfl (Pur.assign rfl) ?_
          refine JM.done rfl ?_
          refine J.inBlock ?_
          refine J.region rfl ?_
          refine JO.pur rfl rfl rfl (Pur.move rfl) ?_
          refine JO.pur rfl rfl rfl (Pur.add rfl rfl (wr64 (by omega))) ?_
          refine JO.pur rfl rfl rfl (Pur.assign rfl) ?_
          refine JO.nil ?_
          exact J.weaken (.cons rfl rfl (.cons rfl (congrArg (Value.int .i64) (by first | rfl | (dsimp only; omega))) (.cons rfl rfl .nil))) (fun h s => by dsimp only; rw [htk]; exact SubC.out h s) (ihq (q + 1, a33, c33) (by dsimp only; omega) (by dsimp only; omega))
        · skip
          refine JMi.eff rfl rfl rfl rfl (m' := 32319) rfl (Pur.eff (Pur.idx rfl rfl rfl (by first | rfl | (simp; done) | omega) rfl hql)) ?_
          rintro _ _ ⟨rfl, rfl⟩
          refine ⟨.inr (fun _ h => h), ?_⟩
          refine JM.take 15 (fun _ h => h) rfl (by kernel_rfl) rfl rfl rfl (m' := 65087) rfl (Pur.fieldAddr rfl) ?_
          refine JM.take 16 (fun _ h => h) rfl (by kernel_rfl) rfl rfl rfl (m' := 130623) rfl (Pur.load rfl (CellIn.el rfl hMq rfl)) ?_
          refine JM.setv (u' := .int .i64 ((msgR X q).to : Int)) 30 rfl rfl ?_
          refine JM.one (i := 6) (by kernel_rfl) ?_
          refine JMi.eff rfl rfl rfl rfl (m' := 130687) rfl (Pur.eff (Pur.idx rfl rfl rfl (by first | rfl | (simp; done) | omega) rfl hql)) ?_
          rintro _ _ ⟨rfl, rfl⟩
          refine ⟨.inr (fun _ h => h), ?_⟩
          refine JM.take 7 (fun _ h => h) rfl (by kernel_rfl) rfl rfl rfl (m' := 130815) rfl (Pur.fieldAddr rfl) ?_
          refine JM.take 8 (fun _ h => h) rfl (by kernel_rfl) rfl rfl rfl (m' := 131071) rfl (Pur.load rfl (CellIn.el rfl hMq rfl)) ?_
          refine JM.setv (u' := .int .i64 ((msgR X q).fr : Int)) 22 rfl rfl ?_
          refine JM.take 17 (fun _ h => h) rfl (by kernel_rfl) rfl rfl rfl (m' := 262143) rfl (Pur.build (cs := [_, _]) rfl rfl) ?_
          refine JM.one (i := 18) (by kernel_rfl) ?_
          refine JMi.eff rfl rfl rfl rfl (m' := 524287) rfl (Eff.buildSlice pairE [((msgR X q).fr, (msgR X q).to)] rfl rfl rfl rfl rfl rfl rfl) ?_
          rintro _ _ ⟨b32, rfl, -, rfl⟩
          refine ⟨.inl (by simp), ?_⟩
          refine JM.one (i := 19) (by kernel_rfl) ?_
          refine JMi.eff rfl rfl rfl rfl (m' := 1048575) rfl (Eff.append rfl rfl rfl rfl (by first | rfl | omega | (simp; done) | (simp; omega)) (by first | rfl | omega | (simp; done) | (simp; omega)) (by decide) (by rw [hpl]; simp; omega) (by rw [hpl]; simp; omega) (fun h => by cases h)) ?_
          rintro _ _ ⟨a33, c33, rfl, rfl⟩
          refine ⟨.inl (by simp), ?_⟩
          refine JM.setv (u' := .slice a33 (q + 1) c33) 33 rfl (by rw [hpl]; rfl) ?_
          refine JM.takeF 20 (.inl (by kernel_rfl)) rfl (by kernel_rfl) rfl rfl rfl (m' := 2097151) rfl (Pur.assign rfl) ?_
          refine JM.done rfl ?_
          refine J.inBlock ?_
          refine J.region rfl ?_
          refine JO.pur rfl rfl rfl (Pur.move rfl) ?_
          refine JO.pur rfl rfl rfl (Pur.add rfl rfl (wr64 (by omega))) ?_
          refine JO.pur rfl rfl rfl (Pur.assign rfl) ?_
          refine JO.nil ?_
          exact J.weaken (.cons rfl rfl (.cons rfl (congrArg (Value.int .i64) (by first | rfl | (dsimp only; omega))) (.cons rfl rfl .nil))) (fun h s => by dsimp only; rw [htk]; exact SubC.out h s) (ihq (q + 1, a33, c33) (by dsimp only; omega) (by dsimp only; omega))
    · skip
      refine JMi.eff rfl rfl rfl rfl (m' := 15919) rfl (Pur.eff (Pur.load rfl (CellIn.blk rfl))) ?_
      rintro _ _ ⟨rfl, rfl⟩
      refine ⟨.inr (fun _ h => h), ?_⟩
      refine JM.many (rs := [4, 14]) (by kernel_rfl) rfl (fun i hi => ?_)
      simp only [List.mem_cons, List.not_mem_nil, or_false] at hi
      rcases hi with rfl | rfl
      · skip
        refine JMi.eff rfl rfl rfl rfl (m' := 15935) rfl (Pur.eff (Pur.load rfl (CellIn.blk rfl))) ?_
        rintro _ _ ⟨rfl, rfl⟩
        refine ⟨.inr (fun _ h => h), ?_⟩
        refine JM.many (rs := [6, 14]) (by kernel_rfl) rfl (fun i hi => ?_)
        simp only [List.mem_cons, List.not_mem_nil, or_false] at hi
        rcases hi with rfl | rfl
        · skip
          refine JMi.eff rfl rfl rfl rfl (m' := 15999) rfl (Pur.eff (Pur.idx rfl rfl rfl (by first | rfl | (simp; done) | omega) rfl hql)) ?_
          rintro _ _ ⟨rfl, rfl⟩
          refine ⟨.inr (fun _ h => h), ?_⟩
          refine JM.take 7 (fun _ h => h) rfl (by kernel_rfl) rfl rfl rfl (m' := 16127) rfl (Pur.fieldAddr rfl) ?_
          refine JM.take 8 (fun _ h => h) rfl (by kernel_rfl) rfl rfl rfl (m' := 16383) rfl (Pur.load rfl (CellIn.el rfl hMq rfl)) ?_
          refine JM.setv (u' := .int .i64 ((msgR X q).fr : Int)) 22 rfl rfl ?_
          refine JM.one (i := 14) (by kernel_rfl) ?_
          refine JMi.eff rfl rfl rfl rfl (m' := 32767) rfl (Pur.eff (Pur.idx rfl rfl rfl (by first | rfl | (simp; done) | omega) rfl hql)) ?_
          rintro _ _ ⟨rfl, rfl⟩
          refine ⟨.inr (fun _ h => h), ?_⟩
          refine JM.take 15 (fun _ h => h) rfl (by kernel_rfl) rfl rfl rfl (m' := 65535) rfl (Pur.fieldAddr rfl) ?_
          refine JM.take 16 (fun _ h => h) rfl (by kernel_rfl) rfl rfl rfl (m' := 131071) rfl (Pur.load rfl (CellIn.el rfl hMq rfl)) ?_
          refine JM.setv (u' := .int .i64 ((msgR X q).to : Int)) 30 rfl rfl ?_
          refine JM.take 17 (fun _ h => h) rfl (by kernel_rfl) rfl rfl rfl (m' := 262143) rfl (Pur.build (cs := [_, _]) rfl rfl) ?_
          refine JM.one (i := 18) (by kernel_rfl) ?_
          refine JMi.eff rfl rfl rfl rfl (m' := 524287) rfl (Eff.buildSlice pairE [((msgR X q).fr, (msgR X q).to)] rfl rfl rfl rfl rfl rfl rfl) ?_
          rintro _ _ ⟨b32, rfl, -, rfl⟩
          refine ⟨.inl (by simp), ?_⟩
          refine JM.one (i := 19) (by kernel_rfl) ?_
          refine JMi.eff rfl rfl rfl rfl (m' := 1048575) rfl (Eff.append rfl rfl rfl rfl (by first | rfl | omega | (simp; done) | (simp; omega)) (by first | rfl | omega | (simp; done) | (simp; omega)) (by decide) (by rw [hpl]; simp; omega) (by rw [hpl]; simp; omega) (fun h => by cases h)) ?_
          rintro _ _ ⟨a33, c33, rfl, rfl⟩
          refine ⟨.inl (by simp), ?_⟩
          refine JM.setv (u' := .slice a33 (q + 1) c33) 33 rfl (by rw [hpl]; rfl) ?_
          refine JM.takeF 20 (.inl (by kernel_rfl)) rfl (by kernel_rfl) rfl rfl rfl (m' := 2097151) rfl (Pur.assign rfl) ?_
          refine JM.done rfl ?_
          refine J.inBlock ?_
          refine J.region rfl ?_
          refine JO.pur rfl rfl rfl (Pur.move rfl) ?_
          refine JO.pur rfl rfl rfl (Pur.add rfl rfl (wr64 (by omega))) ?_
          refine JO.pur rfl rfl rfl (Pur.assign rfl) ?_
          refine JO.nil ?_
          exact J.weaken (.cons rfl rfl (.cons rfl (congrArg (Value.int .i64) (by first | rfl | (dsimp only; omega))) (.cons rfl rfl .nil))) (fun h s => by dsimp only; rw [htk]; exact SubC.out h s) (ihq (q + 1, a33, c33) (by dsimp only; omega) (by dsimp only; omega))
        · skip
          refine JMi.eff rfl rfl rfl rfl (m' := 32319) rfl (Pur.eff (Pur.idx rfl rfl rfl (by first | rfl | (simp; done) | omega) rfl hql)) ?_
          rintro _ _ ⟨rfl, rfl⟩
          refine ⟨.inr (fun _ h => h), ?_⟩
          refine JM.take 15 (fun _ h => h) rfl (by kernel_rfl) rfl rfl rfl (m' := 65087) rfl (Pur.fieldAddr rfl) ?_
          refine JM.take 16 (fun _ h => h) rfl (by kernel_rfl) rfl rfl rfl (m' := 130623) rfl (Pur.load rfl (CellIn.el rfl hMq rfl)) ?_
          refine JM.setv (u' := .int .i64 ((msgR X q).to : Int)) 30 rfl rfl ?_
          refine JM.one (i := 6) (by kernel_rfl) ?_
          refine JMi.eff rfl rfl rfl rfl (m' := 130687) rfl (Pur.eff (Pur.idx rfl rfl rfl (by first | rfl | (simp; done) | omega) rfl hql)) ?_
          rintro _ _ ⟨rfl, rfl⟩
          refine ⟨.inr (fun _ h => h), ?_⟩
          refine JM.take 7 (fun _ h => h) rfl (by kernel_rfl) rfl rfl rfl (m' := 130815) rfl (Pur.fieldAddr rfl) ?_
          refine JM.take 8 (fun _ h => h) rfl (by kernel_rfl) rfl rfl rfl (m' := 131071) rfl (Pur.load rfl (CellIn.el rfl hMq rfl)) ?_
          refine JM.setv (u' := .int .i64 ((msgR X q).fr : Int)) 22 rfl rfl ?_
          refine JM.take 17 (fun _ h => h) rfl (by kernel_rfl) rfl rfl rfl (m' := 262143) rfl (Pur.build (cs := [_, _]) rfl rfl) ?_
          refine JM.one (i := 18) (by kernel_rfl) ?_
          refine JMi.eff rfl rfl rfl rfl (m' := 524287) rfl (Eff.buildSlice pairE [((msgR X q).fr, (msgR X q).to)] rfl rfl rfl rfl rfl rfl rfl) ?_
          rintro _ _ ⟨b32, rfl, -, rfl⟩
          refine ⟨.inl (by simp), ?_⟩
          refine JM.one (i := 19) (by kernel_rfl) ?_
          refine JMi.eff rfl rfl rfl rfl (m' := 1048575) rfl (Eff.append rfl rfl rfl rfl (by first | rfl | omega | (simp; done) | (simp; omega)) (by first | rfl | omega | (simp; done) | (simp; omega)) (by decide) (by rw [hpl]; simp; omega) (by rw [hpl]; simp; omega) (fun h => by cases h)) ?_
          rintro _ _ ⟨a33, c33, rfl, rfl⟩
          refine ⟨.inl (by simp), ?_⟩
          refine JM.setv (u' := .slice a33 (q + 1) c33) 33 rfl (by rw [hpl]; rfl) ?_
          refine JM.takeF 20 (.inl (by kernel_rfl)) rfl (by kernel_rfl) rfl rfl rfl (m' := 2097151) rfl (Pur.assign rfl) ?_
          refine JM.done rfl ?_
          refine J.inBlock ?_
          refine J.region rfl ?_
          refine JO.pur rfl rfl rfl (Pur.move rfl) ?_
          refine JO.pur rfl rfl rfl (Pur.add rfl rfl (wr64 (by omega))) ?_
          refine JO.pur rfl rfl rfl (Pur.assign rfl) ?_
          refine JO.nil ?_
          exact J.weaken (.cons rfl rfl (.cons rfl (congrArg (Value.int .i64) (by first | rfl | (dsimp only; omega))) (.cons rfl rfl .nil))) (fun h s => by dsimp only; rw [htk]; exact SubC.out h s) (ihq (q + 1, a33, c33) (by dsimp only; omega) (by dsimp only; omega))
      · skip
        refine JMi.eff rfl rfl rfl rfl (m' := 32303) rfl (Pur.eff (Pur.idx rfl rfl rfl (by first | rfl | (simp; done) | omega) rfl hql)) ?_
        rintro _ _ ⟨rfl, rfl⟩
        refine ⟨.inr (fun _ h => h), ?_⟩
        refine JM.take 15 (fun _ h => h) rfl (by kernel_rfl) rfl rfl rfl (m' := 65071) rfl (Pur.fieldAddr rfl) ?_
        refine JM.take 16 (fun _ h => h) rfl (by kernel_rfl) rfl rfl rfl (m' := 130607) rfl (Pur.load rfl (CellIn.el rfl hMq rfl)) ?_
        refine JM.setv (u' := .int .i64 ((msgR X q).to : Int)) 30 rfl rfl ?_
        refine JM.one (i := 4) (by kernel_rfl) ?_
        refine JMi.eff rfl rfl rfl rfl (m' := 130623) rfl (Pur.eff (Pur.load rfl (CellIn.blk rfl))) ?_
        rintro _ _ ⟨rfl, rfl⟩
        refine ⟨.inr (fun _ h => h), ?_⟩
        refine JM.one (i := 6) (by kernel_rfl) ?_
        refine JMi.eff rfl rfl rfl rfl (m' := 130687) rfl (Pur.eff (Pur.idx rfl rfl rfl (by first | rfl | (simp; done) | omega) rfl hql)) ?_
        rintro _ _ ⟨rfl, rfl⟩
        refine ⟨.inr (fun _ h => h), ?_⟩
        refine JM.take 7 (fun _ h => h) rfl (by kernel_rfl) rfl rfl rfl (m' := 130815) rfl (Pur.fieldAddr rfl) ?_
        refine JM.take 8 (fun _ h => h) rfl (by kernel_rfl) rfl rfl rfl (m' := 131071) rfl (Pur.load rfl (CellIn.el rfl hMq rfl)) ?_
        refine JM.setv (u' := .int .i64 ((msgR X q).fr : Int)) 22 rfl rfl ?_
        refine JM.take 17 (fun _ h => h) rfl (by kernel_rfl) rfl rfl rfl (m' := 262143) rfl (Pur.build (cs := [_, _]) rfl rfl) ?_
        refine JM.one (i := 18) (by kernel_rfl) ?_
        refine JMi.eff rfl rfl rfl rfl (m' := 524287) rfl (Eff.buildSlice pairE [((msgR X q).fr, (msgR X q).to)] rfl rfl rfl rfl rfl rfl rfl) ?_
        rintro _ _ ⟨b32, rfl, -, rfl⟩
        refine ⟨.inl (by simp), ?_⟩
        refine JM.one (i := 19) (by kernel_rfl) ?_
        refine JMi.eff rfl rfl rfl rfl (m' := 1048575) rfl (Eff.append rfl rfl rfl rfl (by first | rfl | omega | (simp; done) | (simp; omega)) (by first | rfl | omega | (simp; done) | (simp; omega)) (by decide) (by rw [hpl]; simp; omega) (by rw [hpl]; simp; omega) (fun h => by cases h)) ?_
        rintro _ _ ⟨a33, c33, rfl, rfl⟩
        refine ⟨.inl (by simp), ?_⟩
        refine JM.setv (u' := .slice a33 (q + 1) c33) 33 rfl (by rw [hpl]; rfl) ?_
        refine JM.takeF 20 (.inl (by kernel_rfl)) rfl (by kernel_rfl) rfl rfl rfl (m' := 2097151) rfl (Pur.assign rfl) ?_
        refine JM.done rfl ?_
        refine J.inBlock ?_
        refine J.region rfl ?_
        refine JO.pur rfl rfl rfl (Pur.move rfl) ?_
        refine JO.pur rfl rfl rfl (Pur.add rfl rfl (wr64 (by omega))) ?_
        refine JO.pur rfl rfl rfl (Pur.assign rfl) ?_
        refine JO.nil ?_
        exact J.weaken (.cons rfl rfl (.cons rfl (congrArg (Value.int .i64) (by first | rfl | (dsimp only; omega))) (.cons rfl rfl .nil))) (fun h s => by dsimp only; rw [htk]; exact SubC.out h s) (ihq (q + 1, a33, c33) (by dsimp only; omega) (by dsimp only; omega))
  · try simp only [bSimp, bSimp2, ne_eq] at h11
    have hqe : q = X.fly.length := by omega
    subst hqe
    rw [List.take_length]
    refine J.condF rfl rfl ?_
    refine J.exit rfl rfl ?_
    refine J.seq rfl ?_
    refine J.region rfl ?_
    refine JO.pur rfl rfl rfl (Pur.move rfl) ?_
    refine JO.pur rfl rfl rfl (Pur.assign rfl) ?_
    refine JO.nil ?_
    refine J.ret rfl rfl ?_
    refine ⟨_, _, ⟨a3, c3, rfl, rfl⟩, rfl, fun h s => ?_⟩
    have s5 : Sat h (blk p (rC X.kind X.op X.root X.sum.length sa sc ha X.has.length hc ga X.got.length gc ra X.rnd.length rc ba X.beg.length bc fa X.fly.length fc X.sent) :: sl intE sa sc X.sum :: sl boE ha hc X.has :: sl grE ga gc (hs.zip X.got) :: star (List.zipWith gA hs X.got) :: sl natE ra rc X.rnd :: sl boE ba bc X.beg :: slQ rmE fa fc X.fly :: sl pairE a3 c3 (prsR X.fly) :: L) := SubC.out h s
    have s6 : Sat h (RB p X :: sl pairE a3 c3 (prsR X.fly) :: L) := (fun h s => RB_mk (R := X) (L := (sl pairE a3 c3 (prsR X.fly) :: L)) ⟨sa, sc, ha, hc, ga, gc, ra, rc, ba, bc, fa, fc, hs⟩ hb (show Sat h (blk p (rC X.kind X.op X.root X.sum.length sa sc ha X.has.length hc ga X.got.length gc ra X.rnd.length rc ba X.beg.length bc fa X.fly.length fc X.sent) :: sl intE sa sc X.sum :: sl boE ha hc X.has :: sl grE ga gc (hs.zip X.got) :: star (List.zipWith gA hs X.got) :: sl natE ra rc X.rnd :: sl boE ba bc X.beg :: slQ rmE fa fc X.fly :: sl pairE a3 c3 (prsR X.fly) :: L) from SubC.out h s)) h s5
    exact SubC.out h s6

end Go.Proofs.Ytoikjjpleonllaa
