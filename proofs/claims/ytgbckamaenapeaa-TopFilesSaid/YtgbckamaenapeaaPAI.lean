/-
  A part of the proof of the claim that this folder bears.
-/
import Derived.Test.YtgbckamaenapeaaPAH
/- The text HRf5. -/
set_option linter.unusedVariables false
set_option linter.unusedSimpArgs false
set_option maxRecDepth 10000
namespace Go.Proofs.Ytgbckamaenapeaa
open Go Go.KK Hf

theorem rCommit_no {L : List Asn} {p : Nat} {F : Fl} {n : Int} {k : Nat} (g : Hf.Good F k) (hk : k ≤ 100000) (hx : ix F n = none) :
    CallS Try.prog 52 [.pointer (some ⟨p, 0, none⟩), .int .i64 n].toArray (RA p F :: L) (fun v M => v = .int .i64 (commitF F n).2 ∧ M = RA p (commitF F n).1 :: L) := by
  refine CallS.ent ?_
  refine CallS.enter Try.func52 rfl rfl rfl rfl rfl ?_
  refine J.seq rfl ?_
  refine RA_open fun ab cb ao co rs hr => ?_
  refine J.region rfl ?_
  refine JO.pur rfl rfl rfl (Pur.assign rfl) ?_
  refine JO.nil ?_
  refine J.seq rfl ?_
  refine J.region rfl ?_
  refine JO.pur rfl rfl rfl (Pur.move rfl) ?_
  refine JO.pur rfl rfl rfl (Pur.move rfl) ?_
  refine JO.effR rfl rfl rfl (Eff.call rfl (rfind_no hr (Nat.le_trans g.ol hk) hx)) ?_
  refine JO.pur rfl rfl rfl (Pur.assign rfl) ?_
  refine JO.nil ?_
  refine J.seq rfl ?_
  refine J.block rfl ?_
  refine J.seq rfl ?_
  refine J.region rfl ?_
  refine JO.pur rfl rfl rfl (Pur.move rfl) ?_
  refine JO.pur rfl rfl rfl (Pur.lss rfl rfl) ?_
  refine JO.setv (u' := .bool true) 11 rfl (congrArg Value.bool (rfl)) ?_
  refine JO.pur rfl rfl rfl (Pur.assign rfl) ?_
  refine JO.nil ?_
  refine J.condT rfl rfl ?_
  refine J.seq rfl ?_
  refine J.region rfl ?_
  refine JO.pur rfl rfl rfl (Pur.assign rfl) ?_
  refine JO.nil ?_
  refine J.ret rfl rfl ?_
  have hv : commitF F n = (F, 5) := by unfold commitF; rw [hx]
  refine ⟨_, _, ⟨rfl, rfl⟩, by rw [hv]; rfl, fun h s => ?_⟩
  rw [hv]
  exact RA_mk (ab := ab) (cb := cb) (ao := ao) (co := co) hr (SubC.out h s)

theorem rCommit_yes {L : List Asn} {p : Nat} {F : Fl} {n : Int} {i : Nat} {k : Nat} (g : Hf.Good F k) (hk : k ≤ 100000) (hx : ix F n = some i) :
    CallS Try.prog 52 [.pointer (some ⟨p, 0, none⟩), .int .i64 n].toArray (RA p F :: L) (fun v M => v = .int .i64 (commitF F n).2 ∧ M = RA p (commitF F n).1 :: L) := by
  refine CallS.ent ?_
  refine CallS.enter Try.func52 rfl rfl rfl rfl rfl ?_
  refine J.seq rfl ?_
  refine RA_open fun ab cb ao co rs hr => ?_
  obtain ⟨hil, hch, hnum⟩ := ix_some hx
  obtain ⟨r, hrg⟩ : ∃ r, rs[i]? = some r := ⟨_, List.getElem?_eq_getElem (by omega)⟩
  have hrl := rcL_len hr
  have hrc := rcL_get hrg hch
  have gc := g.gc _ (ch_mem hx)
  have gmk := g.mks _ (ch_mem hx)
  have gb := g.b4
  have gf0 := gc.f0
  have gft := gc.ft
  have gt4 := gc.t4
  have gfa := gc.fa
  have ga4 := gc.at4
  refine J.region rfl ?_
  refine JO.pur rfl rfl rfl (Pur.assign rfl) ?_
  refine JO.nil ?_
  refine J.seq rfl ?_
  refine J.region rfl ?_
  refine JO.pur rfl rfl rfl (Pur.move rfl) ?_
  refine JO.pur rfl rfl rfl (Pur.move rfl) ?_
  refine JO.effR rfl rfl rfl (Eff.call rfl (rfind_yes hr (Nat.le_trans g.ol hk) hx)) ?_
  refine JO.pur rfl rfl rfl (Pur.assign rfl) ?_
  refine JO.nil ?_
  refine J.seq rfl ?_
  refine J.block rfl ?_
  refine J.seq rfl ?_
  refine J.region rfl ?_
  refine JO.pur rfl rfl rfl (Pur.move rfl) ?_
  refine JO.pur rfl rfl rfl (Pur.lss rfl rfl) ?_
  refine JO.setv (u' := .bool false) 11 rfl (congrArg Value.bool (by simp)) ?_
  refine JO.pur rfl rfl rfl (Pur.assign rfl) ?_
  refine JO.nil ?_
  refine J.condF rfl rfl ?_
  refine J.seq rfl ?_
  refine J.region rfl ?_
  refine JO.pur rfl rfl rfl (Pur.move rfl) ?_
  refine JO.pur rfl rfl rfl (Pur.nilCheck rfl) ?_
  refine JO.pur rfl rfl rfl (Pur.fieldAddr rfl) ?_
  refine JO.pur rfl rfl rfl (Pur.load rfl (CellIn.blk rfl)) ?_
  refine JO.pur rfl rfl rfl (Pur.move rfl) ?_
  refine JO.pur rfl rfl rfl (Pur.idx rfl rfl rfl (by first | rfl | (simp; done) | omega) rfl (by omega)) ?_
  refine JO.pur rfl rfl rfl (Pur.fieldAddr rfl) ?_
  refine JO.pur rfl rfl rfl (Pur.load rfl (CellIn.el rfl hrc rfl)) ?_
  refine JO.setv (u' := .bool (ch F i).wr) 20 rfl rfl ?_
  refine JO.pur rfl rfl rfl (Pur.not rfl) ?_
  refine JO.pur rfl rfl rfl (Pur.move rfl) ?_
  refine JO.splitB 22 rfl (fun h22 => ?_) (fun h22 => ?_)
  · try simp only [decide_eq_true_eq, decide_eq_false_iff_not, Bool.not_eq_true', Bool.not_eq_false', Bool.and_eq_true, Bool.or_eq_true, Bool.and_eq_false_iff, Bool.or_eq_false_iff, Option.isNone_some, Option.isSome_some, Option.isNone_none, Option.isSome_none, Int.not_lt, Int.not_le, beq_iff_eq, beq_eq_false_iff_ne, bne_iff_ne, ne_eq, Bool.not_not, Decidable.not_not] at h22
    have hw : (ch F i).wr = false := by simpa using h22
    refine JO.no rfl rfl rfl ?_
    refine JO.no rfl rfl rfl ?_
    refine JO.no rfl rfl rfl ?_
    refine JO.no rfl rfl rfl ?_
    refine JO.no rfl rfl rfl ?_
    refine JO.no rfl rfl rfl ?_
    refine JO.no rfl rfl rfl ?_
    refine JO.no rfl rfl rfl ?_
    refine JO.no rfl rfl rfl ?_
    refine JO.no rfl rfl rfl ?_
    refine JO.pur rfl rfl rfl (Pur.pickT rfl rfl) ?_
    refine JO.pur rfl rfl rfl (Pur.assign rfl) ?_
    refine JO.nil ?_
    refine J.condT rfl rfl ?_
    refine J.seq rfl ?_
    refine J.region rfl ?_
    refine JO.pur rfl rfl rfl (Pur.assign rfl) ?_
    refine JO.nil ?_
    refine J.ret rfl rfl ?_
    have hv : commitF F n = (F, 230) := by unfold commitF; rw [hx]; dsimp only; rw [if_pos (.inl hw)]
    refine ⟨_, _, ⟨rfl, rfl⟩, by rw [hv]; rfl, fun h s => ?_⟩
    rw [hv]
    exact RA_mk (ab := ab) (cb := cb) (ao := ao) (co := co) hr (SubC.out h s)
  · try simp only [decide_eq_true_eq, decide_eq_false_iff_not, Bool.not_eq_true', Bool.not_eq_false', Bool.and_eq_true, Bool.or_eq_true, Bool.and_eq_false_iff, Bool.or_eq_false_iff, Option.isNone_some, Option.isSome_some, Option.isNone_none, Option.isSome_none, Int.not_lt, Int.not_le, beq_iff_eq, beq_eq_false_iff_ne, bne_iff_ne, ne_eq, Bool.not_not, Decidable.not_not] at h22
    have hw : (ch F i).wr = true := by simpa using h22
    refine JO.pur rfl rfl rfl (Pur.move rfl) ?_
    refine JO.pur rfl rfl rfl (Pur.nilCheck rfl) ?_
    refine JO.pur rfl rfl rfl (Pur.fieldAddr rfl) ?_
    refine JO.pur rfl rfl rfl (Pur.load rfl (CellIn.blk rfl)) ?_
    refine JO.pur rfl rfl rfl (Pur.move rfl) ?_
    refine JO.pur rfl rfl rfl (Pur.idx rfl rfl rfl (by first | rfl | (simp; done) | omega) rfl (by omega)) ?_
    refine JO.pur rfl rfl rfl (Pur.fieldAddr rfl) ?_
    refine JO.pur rfl rfl rfl (Pur.load rfl (CellIn.el rfl hrc rfl)) ?_
    refine JO.setv (u' := .slice r.am (ch F i).marks.length r.cm) 30 rfl rfl ?_
    refine JO.pur rfl rfl rfl (Pur.len rfl) ?_
    refine JO.pur rfl rfl rfl (Pur.gtr rfl rfl) ?_
    refine JO.pur rfl rfl rfl (Pur.pickF rfl rfl) ?_
    refine JO.pur rfl rfl rfl (Pur.assign rfl) ?_
    refine JO.nil ?_
    refine J.splitB 12 rfl (fun h12 => ?_) (fun h12 => ?_)
    · try simp only [decide_eq_true_eq, decide_eq_false_iff_not, Bool.not_eq_true', Bool.not_eq_false', Bool.and_eq_true, Bool.or_eq_true, Bool.and_eq_false_iff, Bool.or_eq_false_iff, Option.isNone_some, Option.isSome_some, Option.isNone_none, Option.isSome_none, Int.not_lt, Int.not_le, beq_iff_eq, beq_eq_false_iff_ne, bne_iff_ne, ne_eq, Bool.not_not, Decidable.not_not] at h12
      refine J.condT rfl rfl ?_
      refine J.seq rfl ?_
      refine J.region rfl ?_
      refine JO.pur rfl rfl rfl (Pur.assign rfl) ?_
      refine JO.nil ?_
      refine J.ret rfl rfl ?_
      have hme : ¬ (ch F i).marks = [] := by
        intro e
        have h0 : (ch F i).marks.length = 0 := by rw [e]; rfl
        omega
      have hv : commitF F n = (F, 230) := by unfold commitF; rw [hx]; dsimp only; rw [if_pos (.inr hme)]
      refine ⟨_, _, ⟨rfl, rfl⟩, by rw [hv]; rfl, fun h s => ?_⟩
      rw [hv]
      exact RA_mk (ab := ab) (cb := cb) (ao := ao) (co := co) hr (SubC.out h s)
    · try simp only [decide_eq_true_eq, decide_eq_false_iff_not, Bool.not_eq_true', Bool.not_eq_false', Bool.and_eq_true, Bool.or_eq_true, Bool.and_eq_false_iff, Bool.or_eq_false_iff, Option.isNone_some, Option.isSome_some, Option.isNone_none, Option.isSome_none, Int.not_lt, Int.not_le, beq_iff_eq, beq_eq_false_iff_ne, bne_iff_ne, ne_eq, Bool.not_not, Decidable.not_not] at h12
      refine J.condF rfl rfl ?_
      refine J.skip rfl ?_
      refine J.inBlock ?_
      refine J.seq rfl ?_
      refine J.imp (M := RA p F :: L) (fun h s => RA_mk (ab := ab) (cb := cb) (ao := ao) (co := co) hr (SubC.out h s)) ?_
      refine J.region rfl ?_
      refine JO.pur rfl rfl rfl (Pur.move rfl) ?_
      refine JO.pur rfl rfl rfl (Pur.move rfl) ?_
      refine JO.eff rfl rfl rfl (Eff.call rfl (rput_ok g hk hil hw)) ?_
      rintro _ _ ⟨rfl, rfl⟩
      refine JO.nil ?_
      refine J.seq rfl ?_
      refine J.region rfl ?_
      refine JO.pur rfl rfl rfl (Pur.assign rfl) ?_
      refine JO.nil ?_
      refine J.ret rfl rfl ?_
      have hme : (ch F i).marks = [] := List.eq_nil_of_length_eq_zero (by omega)
      have hv : commitF F n = (putF F i, 0) := by unfold commitF; rw [hx]; dsimp only; rw [if_neg (by rintro (h | h); rw [hw] at h; cases h; exact h hme)]
      refine ⟨_, _, ⟨rfl, rfl⟩, by rw [hv]; rfl, fun h s => ?_⟩
      rw [hv]; exact s

theorem rCommit_ok {L : List Asn} {p : Nat} {F : Fl} {n : Int} {k : Nat} (g : Hf.Good F k) (hk : k ≤ 100000) : CallS Try.prog 52 [.pointer (some ⟨p, 0, none⟩), .int .i64 n].toArray (RA p F :: L) (fun v M => v = .int .i64 (commitF F n).2 ∧ M = RA p (commitF F n).1 :: L) := by
  cases hx : ix F n with
  | none => exact rCommit_no  g hk hx
  | some i => exact rCommit_yes  g hk hx
theorem rmeet_ok {L : List Asn} (a b c d : Int) :
    CallS Try.prog 72 [.int .i64 a, .int .i64 b, .int .i64 c, .int .i64 d].toArray L (fun v M => v = .bool (decide (max a c < min b d)) ∧ M = L) := by
  refine CallS.enter Try.func72 rfl rfl rfl rfl rfl ?_
  refine J.seq rfl ?_
  refine J.region rfl ?_
  refine JO.pur rfl rfl rfl (Pur.assign rfl) ?_
  refine JO.nil ?_
  refine J.seq rfl ?_
  refine J.region rfl ?_
  refine JO.pur rfl rfl rfl (Pur.move rfl) ?_
  refine JO.pur rfl rfl rfl (Pur.move rfl) ?_
  refine JO.pur rfl rfl rfl (Pur.max2 rfl rfl) ?_
  refine JO.pur rfl rfl rfl (Pur.move rfl) ?_
  refine JO.pur rfl rfl rfl (Pur.move rfl) ?_
  refine JO.pur rfl rfl rfl (Pur.min2 rfl rfl) ?_
  refine JO.pur rfl rfl rfl (Pur.lss rfl rfl) ?_
  refine JO.pur rfl rfl rfl (Pur.assign rfl) ?_
  refine JO.nil ?_
  refine J.ret rfl rfl ?_
  exact ⟨rfl, rfl⟩

theorem rbegin_ok {L : List Asn} {p : Nat} {F : Fl} {fr to : Int} {wr : Bool} {k : Nat} (g : Hf.Good F k) (hk : k ≤ 100000) :
    CallS Try.prog 64 [.pointer (some ⟨p, 0, none⟩), .int .i64 fr, .int .i64 to, .bool wr].toArray (RA p F :: L) (fun v M => v = .tuple #[.int .i64 (beginF F fr to wr).2.1, .int .i64 (beginF F fr to wr).2.2] ∧ M = RA p (beginF F fr to wr).1 :: L) := by
  refine CallS.ent ?_
  refine CallS.enter Try.func64 rfl rfl rfl rfl rfl ?_
  refine J.seq rfl ?_
  refine RA_open fun ab cb ao co rs hr => ?_
  have hrl := rcL_len hr
  have gol := g.ol
  have gn := g.nk
  have gn1 := g.n1
  refine J.region rfl ?_
  refine JO.pur rfl rfl rfl (Pur.assign rfl) ?_
  refine JO.pur rfl rfl rfl (Pur.assign rfl) ?_
  refine JO.nil ?_
  refine J.seq rfl ?_
  refine J.seq rfl ?_
  refine J.region rfl ?_
  refine JO.pur rfl rfl rfl (Pur.move rfl) ?_
  refine JO.pur rfl rfl rfl (Pur.lss rfl rfl) ?_
  refine JO.pur rfl rfl rfl (Pur.move rfl) ?_
  refine JO.splitB 14 rfl (fun h14 => ?_) (fun h14 => ?_)
  · try simp only [decide_eq_true_eq, decide_eq_false_iff_not, Bool.not_eq_true', Bool.not_eq_false', Bool.and_eq_true, Bool.or_eq_true, Bool.and_eq_false_iff, Bool.or_eq_false_iff, Option.isNone_some, Option.isSome_some, Option.isNone_none, Option.isSome_none, Int.not_lt, Int.not_le, beq_iff_eq, beq_eq_false_iff_ne, bne_iff_ne, ne_eq, Bool.not_not, Decidable.not_not] at h14
    refine JO.no rfl rfl rfl ?_
    refine JO.no rfl rfl rfl ?_
    refine JO.no rfl rfl rfl ?_
    refine JO.pur rfl rfl rfl (Pur.pickT rfl rfl) ?_
    refine JO.pur rfl rfl rfl (Pur.move rfl) ?_
    refine JO.no rfl rfl rfl ?_
    refine JO.no rfl rfl rfl ?_
    refine JO.pur rfl rfl rfl (Pur.pickT rfl rfl) ?_
    refine JO.nil ?_
    refine J.condT rfl rfl ?_
    refine J.seq rfl ?_
    refine J.region rfl ?_
    refine JO.pur rfl rfl rfl (Pur.assign rfl) ?_
    refine JO.pur rfl rfl rfl (Pur.assign rfl) ?_
    refine JO.nil ?_
    refine J.ret rfl rfl ?_
    have hbad : fr < 0 ∨ to < fr ∨ 400 < to := by omega
    have hv : (beginF F fr to wr) = (F, 0, 2) := by unfold beginF; rw [if_pos hbad]
    refine ⟨_, _, ⟨rfl, rfl⟩, by rw [hv]; rfl, fun h s => ?_⟩
    rw [hv]
    exact RA_mk (ab := ab) (cb := cb) (ao := ao) (co := co) hr (SubC.out h s)
  · try simp only [decide_eq_true_eq, decide_eq_false_iff_not, Bool.not_eq_true', Bool.not_eq_false', Bool.and_eq_true, Bool.or_eq_true, Bool.and_eq_false_iff, Bool.or_eq_false_iff, Option.isNone_some, Option.isSome_some, Option.isNone_none, Option.isSome_none, Int.not_lt, Int.not_le, beq_iff_eq, beq_eq_false_iff_ne, bne_iff_ne, ne_eq, Bool.not_not, Decidable.not_not] at h14
    refine JO.pur rfl rfl rfl (Pur.move rfl) ?_
    refine JO.pur rfl rfl rfl (Pur.move rfl) ?_
    refine JO.pur rfl rfl rfl (Pur.gtr rfl rfl) ?_
    refine JO.pur rfl rfl rfl (Pur.pickF rfl rfl) ?_
    refine JO.pur rfl rfl rfl (Pur.move rfl) ?_
    refine JO.splitB 19 rfl (fun h19 => ?_) (fun h19 => ?_)
    · try simp only [decide_eq_true_eq, decide_eq_false_iff_not, Bool.not_eq_true', Bool.not_eq_false', Bool.and_eq_true, Bool.or_eq_true, Bool.and_eq_false_iff, Bool.or_eq_false_iff, Option.isNone_some, Option.isSome_some, Option.isNone_none, Option.isSome_none, Int.not_lt, Int.not_le, beq_iff_eq, beq_eq_false_iff_ne, bne_iff_ne, ne_eq, Bool.not_not, Decidable.not_not] at h19
      refine JO.no rfl rfl rfl ?_
      refine JO.no rfl rfl rfl ?_
      refine JO.pur rfl rfl rfl (Pur.pickT rfl rfl) ?_
      refine JO.nil ?_
      refine J.condT rfl rfl ?_
      refine J.seq rfl ?_
      refine J.region rfl ?_
      refine JO.pur rfl rfl rfl (Pur.assign rfl) ?_
      refine JO.pur rfl rfl rfl (Pur.assign rfl) ?_
      refine JO.nil ?_
      refine J.ret rfl rfl ?_
      have hbad : fr < 0 ∨ to < fr ∨ 400 < to := by omega
      have hv : (beginF F fr to wr) = (F, 0, 2) := by unfold beginF; rw [if_pos hbad]
      refine ⟨_, _, ⟨rfl, rfl⟩, by rw [hv]; rfl, fun h s => ?_⟩
      rw [hv]
      exact RA_mk (ab := ab) (cb := cb) (ao := ao) (co := co) hr (SubC.out h s)
    · try simp only [decide_eq_true_eq, decide_eq_false_iff_not, Bool.not_eq_true', Bool.not_eq_false', Bool.and_eq_true, Bool.or_eq_true, Bool.and_eq_false_iff, Bool.or_eq_false_iff, Option.isNone_some, Option.isSome_some, Option.isNone_none, Option.isSome_none, Int.not_lt, Int.not_le, beq_iff_eq, beq_eq_false_iff_ne, bne_iff_ne, ne_eq, Bool.not_not, Decidable.not_not] at h19
      refine JO.pur rfl rfl rfl (Pur.move rfl) ?_
      refine JO.pur rfl rfl rfl (Pur.gtr rfl rfl) ?_
      refine JO.pur rfl rfl rfl (Pur.pickF rfl rfl) ?_
      refine JO.nil ?_
      refine J.splitB 22 rfl (fun h22 => ?_) (fun h22 => ?_)
      · try simp only [decide_eq_true_eq, decide_eq_false_iff_not, Bool.not_eq_true', Bool.not_eq_false', Bool.and_eq_true, Bool.or_eq_true, Bool.and_eq_false_iff, Bool.or_eq_false_iff, Option.isNone_some, Option.isSome_some, Option.isNone_none, Option.isSome_none, Int.not_lt, Int.not_le, beq_iff_eq, beq_eq_false_iff_ne, bne_iff_ne, ne_eq, Bool.not_not, Decidable.not_not] at h22
        refine J.condT rfl rfl ?_
        refine J.seq rfl ?_
        refine J.region rfl ?_
        refine JO.pur rfl rfl rfl (Pur.assign rfl) ?_
        refine JO.pur rfl rfl rfl (Pur.assign rfl) ?_
        refine JO.nil ?_
        refine J.ret rfl rfl ?_
        have hbad : fr < 0 ∨ to < fr ∨ 400 < to := by omega
        have hv : (beginF F fr to wr) = (F, 0, 2) := by unfold beginF; rw [if_pos hbad]
        refine ⟨_, _, ⟨rfl, rfl⟩, by rw [hv]; rfl, fun h s => ?_⟩
        rw [hv]
        exact RA_mk (ab := ab) (cb := cb) (ao := ao) (co := co) hr (SubC.out h s)
      · try simp only [decide_eq_true_eq, decide_eq_false_iff_not, Bool.not_eq_true', Bool.not_eq_false', Bool.and_eq_true, Bool.or_eq_true, Bool.and_eq_false_iff, Bool.or_eq_false_iff, Option.isNone_some, Option.isSome_some, Option.isNone_none, Option.isSome_none, Int.not_lt, Int.not_le, beq_iff_eq, beq_eq_false_iff_ne, bne_iff_ne, ne_eq, Bool.not_not, Decidable.not_not] at h22
        refine J.condF rfl rfl ?_
        refine J.skip rfl ?_
        refine J.seq rfl ?_
        refine J.seq rfl ?_
        refine J.region rfl ?_
        refine JO.pur rfl rfl rfl (Pur.assign rfl) ?_
        refine JO.nil ?_
        refine J.block rfl ?_
        refine J.loopF (ι := Nat) (fun q => q ≤ F.opens.length ∧ ∀ j, j < q → busy wr fr to (ch F j) = false) (fun q => [(10, .int .i64 (q : Int))]) [(0, _), (1, _), (2, _), (3, _)] (fun q => blk p (.cells #[.slice ab F.bytes.length cb, .slice ao F.opens.length co, .int .i64 F.next] 93) :: sl byE ab cb F.bytes :: sl rcE ao co (rcL rs F.opens) :: star (rmL rs F.opens) :: L) (fun q => F.opens.length - q) 0 rfl (.cons rfl rfl (.cons rfl rfl (.cons rfl rfl (.cons rfl rfl .nil)))) (.cons rfl rfl .nil) (by first | exact fun _ h => h | exact SubC.out | (dsimp only; exact SubC.out)) ⟨Nat.zero_le _, fun j hj => by omega⟩ ?_
        rintro k2 ⟨hk2, hb⟩ ih0
        try dsimp only
        refine J.seq rfl ?_
        refine J.seq rfl ?_
        refine J.region rfl ?_
        refine JO.pur rfl rfl rfl (Pur.move rfl) ?_
        refine JO.pur rfl rfl rfl (Pur.move rfl) ?_
        refine JO.pur rfl rfl rfl (Pur.nilCheck rfl) ?_
        refine JO.pur rfl rfl rfl (Pur.fieldAddr rfl) ?_
        refine JO.pur rfl rfl rfl (Pur.load rfl (CellIn.blk rfl)) ?_
        refine JO.pur rfl rfl rfl (Pur.len rfl) ?_
        refine JO.pur rfl rfl rfl (Pur.lss rfl rfl) ?_
        refine JO.nil ?_
        refine J.splitB 29 rfl (fun h29 => ?_) (fun h29 => ?_)
        · try simp only [decide_eq_true_eq, decide_eq_false_iff_not, Bool.not_eq_true', Bool.not_eq_false', Bool.and_eq_true, Bool.or_eq_true, Bool.and_eq_false_iff, Bool.or_eq_false_iff, Option.isNone_some, Option.isSome_some, Option.isNone_none, Option.isSome_none, Int.not_lt, Int.not_le, beq_iff_eq, beq_eq_false_iff_ne, bne_iff_ne, ne_eq, Bool.not_not, Decidable.not_not] at h29
          have hkl : k2 < F.opens.length := by omega
          have hch := ch_get hkl
          obtain ⟨r, hrg⟩ : ∃ r, rs[k2]? = some r := ⟨_, List.getElem?_eq_getElem (by omega)⟩
          have hrc := rcL_get hrg hch
          refine J.condT rfl rfl ?_
          refine J.skip rfl ?_
          refine J.seq rfl ?_
          refine J.block rfl ?_
          refine J.seq rfl ?_
          refine J.region rfl ?_
          refine JO.pur rfl rfl rfl (Pur.move rfl) ?_
          refine JO.pur rfl rfl rfl (Pur.nilCheck rfl) ?_
          refine JO.pur rfl rfl rfl (Pur.fieldAddr rfl) ?_
          refine JO.pur rfl rfl rfl (Pur.load rfl (CellIn.blk rfl)) ?_
          refine JO.pur rfl rfl rfl (Pur.move rfl) ?_
          refine JO.pur rfl rfl rfl (Pur.idx rfl rfl rfl (by first | rfl | (simp; done) | omega) rfl (by omega)) ?_
          refine JO.pur rfl rfl rfl (Pur.loadA rfl rfl rfl (CellsIn.el rfl hrc)) ?_
          refine JO.eff rfl rfl rfl (Eff.alloc (cs := [_, _, _, _, _, _, _, _]) rfl) ?_
          rintro _ _ ⟨b11, rfl, rfl⟩
          refine JO.effN rfl rfl (Eff.storeBA (cs' := [_, _, _, _, _, _, _, _]) rfl rfl (by rfl) (by rfl) (by rfl)) ?_
          rintro _ _ ⟨rfl, rfl⟩
          refine JO.nil ?_
          refine J.seq rfl ?_
          refine J.region rfl ?_
          refine JO.pur rfl rfl rfl (Pur.move rfl) ?_
          refine JO.pur rfl rfl rfl (Pur.move rfl) ?_
          refine JO.pur rfl rfl rfl (Pur.fieldAddr rfl) ?_
          refine JO.pur rfl rfl rfl (Pur.load rfl (CellIn.blk rfl)) ?_
          refine JO.setv (u' := .int .i64 (ch F k2).fr) 42 rfl rfl ?_
          refine JO.pur rfl rfl rfl (Pur.fieldAddr rfl) ?_
          refine JO.pur rfl rfl rfl (Pur.load rfl (CellIn.blk rfl)) ?_
          refine JO.setv (u' := .int .i64 (ch F k2).to) 44 rfl rfl ?_
          refine JO.effR rfl rfl rfl (Eff.call rfl (rmeet_ok fr to (ch F k2).fr (ch F k2).to)) ?_
          refine JO.pur rfl rfl rfl (Pur.move rfl) ?_
          refine JO.splitB 46 rfl (fun h46 => ?_) (fun h46 => ?_)
          · try simp only [decide_eq_true_eq, decide_eq_false_iff_not, Bool.not_eq_true', Bool.not_eq_false', Bool.and_eq_true, Bool.or_eq_true, Bool.and_eq_false_iff, Bool.or_eq_false_iff, Option.isNone_some, Option.isSome_some, Option.isNone_none, Option.isSome_none, Int.not_lt, Int.not_le, beq_iff_eq, beq_eq_false_iff_ne, bne_iff_ne, ne_eq, Bool.not_not, Decidable.not_not] at h46
            refine JO.pur rfl rfl rfl (Pur.move rfl) ?_
            refine JO.pur rfl rfl rfl (Pur.move rfl) ?_
            refine JO.splitB 48 rfl (fun h48 => ?_) (fun h48 => ?_)
            · try simp only [decide_eq_true_eq, decide_eq_false_iff_not, Bool.not_eq_true', Bool.not_eq_false', Bool.and_eq_true, Bool.or_eq_true, Bool.and_eq_false_iff, Bool.or_eq_false_iff, Option.isNone_some, Option.isSome_some, Option.isNone_none, Option.isSome_none, Int.not_lt, Int.not_le, beq_iff_eq, beq_eq_false_iff_ne, bne_iff_ne, ne_eq, Bool.not_not, Decidable.not_not] at h48
              refine JO.no rfl rfl rfl ?_
              refine JO.no rfl rfl rfl ?_
              refine JO.pur rfl rfl rfl (Pur.pickT rfl rfl) ?_
              refine JO.pur rfl rfl rfl (Pur.pickT rfl rfl) ?_
              refine JO.nil ?_
              refine J.condT rfl rfl ?_
              refine J.seq rfl ?_
              refine J.region rfl ?_
              refine JO.pur rfl rfl rfl (Pur.assign rfl) ?_
              refine JO.pur rfl rfl rfl (Pur.assign rfl) ?_
              refine JO.nil ?_
              refine J.ret rfl rfl ?_
              have hlt : max (ch F k2).fr fr < min (ch F k2).to to := by omega
              have hwb : ((ch F k2).wr || wr) = true := by first | (rw [h52, Bool.true_or]; done) | (rw [h48, Bool.or_true]; done)
              have hbc : busy wr fr to (ch F k2) = true := by unfold busy; rw [hwb, Bool.true_and]; exact decide_eq_true hlt
              have hany : F.opens.any (busy wr fr to) = true := List.any_eq_true.2 ⟨ch F k2, List.mem_of_getElem? hch, hbc⟩
              have hv : (beginF F fr to wr) = (F, 0, 190) := by unfold beginF; rw [if_neg (by omega), if_pos hany]
              refine ⟨_, _, ⟨rfl, rfl⟩, by rw [hv]; rfl, fun h s => ?_⟩
              rw [hv]
              exact RA_mk (ab := ab) (cb := cb) (ao := ao) (co := co) hr (SubC.out h s)
            · try simp only [decide_eq_true_eq, decide_eq_false_iff_not, Bool.not_eq_true', Bool.not_eq_false', Bool.and_eq_true, Bool.or_eq_true, Bool.and_eq_false_iff, Bool.or_eq_false_iff, Option.isNone_some, Option.isSome_some, Option.isNone_none, Option.isSome_none, Int.not_lt, Int.not_le, beq_iff_eq, beq_eq_false_iff_ne, bne_iff_ne, ne_eq, Bool.not_not, Decidable.not_not] at h48
              refine JO.pur rfl rfl rfl (Pur.fieldAddr rfl) ?_
              refine JO.pur rfl rfl rfl (Pur.load rfl (CellIn.blk rfl)) ?_
              refine JO.setv (u' := .bool (ch F k2).wr) 50 rfl rfl ?_
              refine JO.pur rfl rfl rfl (Pur.pickF rfl rfl) ?_
              refine JO.pur rfl rfl rfl (Pur.pickT rfl rfl) ?_
              refine JO.nil ?_
              refine J.splitB 52 rfl (fun h52 => ?_) (fun h52 => ?_)
              · try simp only [decide_eq_true_eq, decide_eq_false_iff_not, Bool.not_eq_true', Bool.not_eq_false', Bool.and_eq_true, Bool.or_eq_true, Bool.and_eq_false_iff, Bool.or_eq_false_iff, Option.isNone_some, Option.isSome_some, Option.isNone_none, Option.isSome_none, Int.not_lt, Int.not_le, beq_iff_eq, beq_eq_false_iff_ne, bne_iff_ne, ne_eq, Bool.not_not, Decidable.not_not] at h52
                refine J.condT rfl rfl ?_
                refine J.seq rfl ?_
                refine J.region rfl ?_
                refine JO.pur rfl rfl rfl (Pur.assign rfl) ?_
                refine JO.pur rfl rfl rfl (Pur.assign rfl) ?_
                refine JO.nil ?_
                refine J.ret rfl rfl ?_
                have hlt : max (ch F k2).fr fr < min (ch F k2).to to := by omega
                have hwb : ((ch F k2).wr || wr) = true := by first | (rw [h52, Bool.true_or]; done) | (rw [h48, Bool.or_true]; done)
                have hbc : busy wr fr to (ch F k2) = true := by unfold busy; rw [hwb, Bool.true_and]; exact decide_eq_true hlt
                have hany : F.opens.any (busy wr fr to) = true := List.any_eq_true.2 ⟨ch F k2, List.mem_of_getElem? hch, hbc⟩
                have hv : (beginF F fr to wr) = (F, 0, 190) := by unfold beginF; rw [if_neg (by omega), if_pos hany]
                refine ⟨_, _, ⟨rfl, rfl⟩, by rw [hv]; rfl, fun h s => ?_⟩
                rw [hv]
                exact RA_mk (ab := ab) (cb := cb) (ao := ao) (co := co) hr (SubC.out h s)
              · try simp only [decide_eq_true_eq, decide_eq_false_iff_not, Bool.not_eq_true', Bool.not_eq_false', Bool.and_eq_true, Bool.or_eq_true, Bool.and_eq_false_iff, Bool.or_eq_false_iff, Option.isNone_some, Option.isSome_some, Option.isNone_none, Option.isSome_none, Int.not_lt, Int.not_le, beq_iff_eq, beq_eq_false_iff_ne, bne_iff_ne, ne_eq, Bool.not_not, Decidable.not_not] at h52
                refine J.condF rfl rfl ?_
                refine J.skip rfl ?_
                refine J.inBlock ?_
                refine J.region rfl ?_
                refine JO.pur rfl rfl rfl (Pur.move rfl) ?_
                refine JO.pur rfl rfl rfl (Pur.add rfl rfl (wr64 (by omega))) ?_
                refine JO.pur rfl rfl rfl (Pur.assign rfl) ?_
                refine JO.nil ?_
                have hbc : busy wr fr to (ch F k2) = false := by unfold busy; simp_all <;> omega
                have hbz : ∀ j, j < k2 + 1 → busy wr fr to (ch F j) = false := fun j hj => by
                  rcases Nat.lt_or_ge j k2 with h | h
                  · exact hb j h
                  · rw [show j = k2 by omega]; exact hbc
                exact J.weaken (.cons rfl (congrArg (Value.int .i64) (by first | rfl | (dsimp only; omega))) (.cons rfl rfl (.cons rfl rfl (.cons rfl rfl (.cons rfl rfl .nil))))) (by first | exact fun _ h => h | exact SubC.out | (dsimp only; exact SubC.out)) (ih0 (k2 + 1) ⟨(by omega), hbz⟩ (by omega))
          · try simp only [decide_eq_true_eq, decide_eq_false_iff_not, Bool.not_eq_true', Bool.not_eq_false', Bool.and_eq_true, Bool.or_eq_true, Bool.and_eq_false_iff, Bool.or_eq_false_iff, Option.isNone_some, Option.isSome_some, Option.isNone_none, Option.isSome_none, Int.not_lt, Int.not_le, beq_iff_eq, beq_eq_false_iff_ne, bne_iff_ne, ne_eq, Bool.not_not, Decidable.not_not] at h46
            refine JO.no rfl rfl rfl ?_
            refine JO.no rfl rfl rfl ?_
            refine JO.no rfl rfl rfl ?_
            refine JO.no rfl rfl rfl ?_
            refine JO.no rfl rfl rfl ?_
            refine JO.pur rfl rfl rfl (Pur.pickF rfl rfl) ?_
            refine JO.nil ?_
            refine J.condF rfl rfl ?_
            refine J.skip rfl ?_
            refine J.inBlock ?_
            refine J.region rfl ?_
            refine JO.pur rfl rfl rfl (Pur.move rfl) ?_
            refine JO.pur rfl rfl rfl (Pur.add rfl rfl (wr64 (by omega))) ?_
            refine JO.pur rfl rfl rfl (Pur.assign rfl) ?_
            refine JO.nil ?_
            have hbc : busy wr fr to (ch F k2) = false := by unfold busy; simp_all <;> omega
            have hbz : ∀ j, j < k2 + 1 → busy wr fr to (ch F j) = false := fun j hj => by
              rcases Nat.lt_or_ge j k2 with h | h
              · exact hb j h
              · rw [show j = k2 by omega]; exact hbc
            exact J.weaken (.cons rfl (congrArg (Value.int .i64) (by first | rfl | (dsimp only; omega))) (.cons rfl rfl (.cons rfl rfl (.cons rfl rfl (.cons rfl rfl .nil))))) (by first | exact fun _ h => h | exact SubC.out | (dsimp only; exact SubC.out)) (ih0 (k2 + 1) ⟨(by omega), hbz⟩ (by omega))
        · try simp only [decide_eq_true_eq, decide_eq_false_iff_not, Bool.not_eq_true', Bool.not_eq_false', Bool.and_eq_true, Bool.or_eq_true, Bool.and_eq_false_iff, Bool.or_eq_false_iff, Option.isNone_some, Option.isSome_some, Option.isNone_none, Option.isSome_none, Int.not_lt, Int.not_le, beq_iff_eq, beq_eq_false_iff_ne, bne_iff_ne, ne_eq, Bool.not_not, Decidable.not_not] at h29
          have hno : F.opens.any (busy wr fr to) = false := by
            rw [List.any_eq_false]
            intro c hc
            obtain ⟨j, hj, hje⟩ := List.getElem_of_mem hc
            have h1 := hb j (by omega)
            have h2 := ch_get hj
            rw [List.getElem?_eq_getElem hj] at h2
            rw [← hje, Option.some.inj h2, h1]; simp
          refine J.condF rfl rfl ?_
          refine J.exit rfl rfl ?_
          refine J.seq rfl ?_
          refine J.pullC (A := sl rcE ao co (rcL rs F.opens)) inferInstance ?_
          refine J.mask1 (n := 20) [19] rfl Try.mixed rfl (by kernel_rfl) ?_
          refine JM.take 0 (fun _ h => h.tail) rfl (by kernel_rfl) rfl rfl rfl (m' := 1) rfl (Pur.move rfl) ?_
          refine JM.take 1 (fun _ h => h.tail) rfl (by kernel_rfl) rfl rfl rfl (m' := 3) rfl (Pur.move rfl) ?_
          refine JM.take 2 (fun _ h => h.tail) rfl (by kernel_rfl) rfl rfl rfl (m' := 7) rfl (Pur.nilCheck rfl) ?_
          refine JM.take 3 (fun _ h => h.tail) rfl (by kernel_rfl) rfl rfl rfl (m' := 15) rfl (Pur.fieldAddr rfl) ?_
          refine JM.take 4 (fun _ h => h.tail) rfl (by kernel_rfl) rfl rfl rfl (m' := 31) rfl (Pur.load rfl (CellIn.blk rfl)) ?_
          refine JM.take 5 (fun _ h => h.tail) rfl (by kernel_rfl) rfl rfl rfl (m' := 63) rfl (Pur.move rfl) ?_
          refine JM.take 6 (fun _ h => h.tail) rfl (by kernel_rfl) rfl rfl rfl (m' := 127) rfl (Pur.nilCheck rfl) ?_
          refine JM.take 7 (fun _ h => h.tail) rfl (by kernel_rfl) rfl rfl rfl (m' := 255) rfl (Pur.fieldAddr rfl) ?_
          refine JM.take 8 (fun _ h => h.tail) rfl (by kernel_rfl) rfl rfl rfl (m' := 511) rfl (Pur.load rfl (CellIn.blk rfl)) ?_
          refine JM.take 9 (fun _ h => h.tail) rfl (by kernel_rfl) rfl rfl rfl (m' := 1023) rfl (Pur.move rfl) ?_
          refine JM.take 10 (fun _ h => h.tail) rfl (by kernel_rfl) rfl rfl rfl (m' := 2047) rfl (Pur.move rfl) ?_
          refine JM.take 11 (fun _ h => h.tail) rfl (by kernel_rfl) rfl rfl rfl (m' := 4095) rfl (Pur.move rfl) ?_
          refine JM.take 12 (fun _ h => h.tail) rfl (by kernel_rfl) rfl rfl rfl (m' := 8191) rfl (Pur.move rfl) ?_
          refine JM.take 13 (fun _ h => h.tail) rfl (by kernel_rfl) rfl rfl rfl (m' := 16383) rfl (Pur.move rfl) ?_
          refine JM.take 14 (fun _ h => h.tail) rfl (by kernel_rfl) rfl rfl rfl (m' := 32767) rfl (Pur.build (cs := [_, _, _, _, _, _, _, _]) rfl rfl) ?_
          refine JM.one (i := 15) (by kernel_rfl) ?_
          refine JMi.eff rfl rfl rfl rfl (m' := 65535) rfl (Eff.buildSlice rcE [(⟨F.next, fr, to, fr, wr, fr, none, 0, 0, none, 0, 0⟩ : Rc)] rfl rfl rfl rfl rfl rfl rfl) ?_
          rintro _ _ ⟨b68, rfl, -, rfl⟩
          refine ⟨.inr (fun _ h => h.tail.tail), ?_⟩
          refine JM.one (i := 16) (by kernel_rfl) ?_
          refine JMi.eff rfl rfl rfl rfl (m' := 131071) rfl (Eff.append rfl rfl rfl rfl (by first | rfl | omega | (simp; done) | (simp; omega)) (by first | rfl | omega | (simp; done) | (simp; omega)) (by decide) (by simp; omega) (by simp; omega) (fun h => by cases h)) ?_
          rintro _ _ ⟨a69, c69, rfl, rfl⟩
          refine ⟨.inr (fun _ h => h.tail.tail), ?_⟩
          refine JM.take 17 (fun _ h => h.tail.tail) rfl (by kernel_rfl) rfl rfl rfl (m' := 262143) rfl (Pur.nilCheck rfl) ?_
          refine JM.take 18 (fun _ h => h.tail.tail) rfl (by kernel_rfl) rfl rfl rfl (m' := 524287) rfl (Pur.fieldAddr rfl) ?_
          refine JM.one (i := 19) (by kernel_rfl) ?_
          refine JMi.effN rfl rfl rfl (m' := 1048575) rfl (Eff.storeB rfl rfl rfl (.tail .head)) ?_
          rintro _ _ ⟨rfl, rfl⟩
          refine ⟨.inl (by simp), ?_⟩
          refine JM.done rfl ?_
          refine J.seq rfl ?_
          refine J.region rfl ?_
          refine JO.pur rfl rfl rfl (Pur.move rfl) ?_
          refine JO.pur rfl rfl rfl (Pur.nilCheck rfl) ?_
          refine JO.pur rfl rfl rfl (Pur.fieldAddr rfl) ?_
          refine JO.pur rfl rfl rfl (Pur.load rfl (CellIn.blk rfl)) ?_
          refine JO.setv (u' := .int .i64 F.next) 75 rfl rfl ?_
          refine JO.pur rfl rfl rfl (Pur.add rfl rfl (wr64 (by omega))) ?_
          refine JO.pur rfl rfl rfl (Pur.nilCheck rfl) ?_
          refine JO.pur rfl rfl rfl (Pur.fieldAddr rfl) ?_
          refine JO.effN rfl rfl (Eff.storeB rfl rfl rfl (.tail (.tail .head))) ?_
          rintro _ _ ⟨rfl, rfl⟩
          refine JO.nil ?_
          refine J.seq rfl ?_
          refine J.region rfl ?_
          refine JO.pur rfl rfl rfl (Pur.move rfl) ?_
          refine JO.pur rfl rfl rfl (Pur.nilCheck rfl) ?_
          refine JO.pur rfl rfl rfl (Pur.fieldAddr rfl) ?_
          refine JO.pur rfl rfl rfl (Pur.load rfl (CellIn.blk rfl)) ?_
          refine JO.pur rfl rfl rfl (Pur.sub rfl rfl (wr64 (by omega))) ?_
          refine JO.setv (u' := .int .i64 F.next) 83 rfl (congrArg (Value.int .i64) (by omega)) ?_
          refine JO.pur rfl rfl rfl (Pur.assign rfl) ?_
          refine JO.pur rfl rfl rfl (Pur.assign rfl) ?_
          refine JO.nil ?_
          refine J.ret rfl rfl ?_
          have hv : (beginF F fr to wr) = (⟨F.bytes, F.next + 1, F.opens ++ [newC F fr to wr]⟩, F.next, 0) := by unfold beginF; rw [if_neg (by omega), if_neg (by rw [hno]; simp)]
          refine ⟨_, _, ⟨rfl, rfl⟩, by rw [hv]; rfl, fun h s => ?_⟩
          rw [hv]
          have s1 : Sat h (star (rmL rs F.opens) :: blk p (.cells #[.slice ab F.bytes.length cb, .slice a69 ((rcL rs F.opens).length + [(⟨F.next, fr, to, fr, wr, fr, none, 0, 0, none, 0, 0⟩ : Rc)].length) c69, .int .i64 (F.next + 1)] 93) :: sl byE ab cb F.bytes :: sl rcE a69 c69 (rcL rs F.opens ++ [(⟨F.next, fr, to, fr, wr, fr, none, 0, 0, none, 0, 0⟩ : Rc)]) :: L) := SubC.out h s
          have s2 := sl_nil_new (E := byE) (sl_nil_new (E := intE) s1)
          have s4 := star_snoc (B := rmA ⟨0, none, 0, none, 0⟩ (newC F fr to wr)) ((Sat.star (M := [sl byE none 0 [], sl intE none 0 []])).2 s2)
          rw [← rmL_snoc hr] at s4
          refine RA_mk (F := ⟨F.bytes, F.next + 1, F.opens ++ [newC F fr to wr]⟩) (ab := ab) (cb := cb) (ao := a69) (co := c69) (rs := rs ++ [⟨0, none, 0, none, 0⟩]) (by simp [hr]) ?_
          dsimp only
          rw [rcL_snoc hr, List.length_append, ← hrl, show rcOf ⟨0, none, 0, none, 0⟩ (newC F fr to wr) = (⟨F.next, fr, to, fr, wr, fr, none, 0, 0, none, 0, 0⟩ : Rc) from rfl, show [newC F fr to wr].length = [(⟨F.next, fr, to, fr, wr, fr, none, 0, 0, none, 0, 0⟩ : Rc)].length from rfl]
          exact SubC.out h s4

theorem rReader_ok {L : List Asn} {p : Nat} {F : Fl} {fr to : Int} {k : Nat} (g : Hf.Good F k) (hk : k ≤ 100000) :
    CallS Try.prog 45 [.pointer (some ⟨p, 0, none⟩), .int .i64 fr, .int .i64 to].toArray (RA p F :: L) (fun v M => v = .tuple #[.int .i64 (beginF F fr to false).2.1, .int .i64 (beginF F fr to false).2.2] ∧ M = RA p (beginF F fr to false).1 :: L) := by
  refine CallS.enter Try.func45 rfl rfl rfl rfl rfl ?_
  refine J.seq rfl ?_
  refine J.region rfl ?_
  refine JO.pur rfl rfl rfl (Pur.assign rfl) ?_
  refine JO.pur rfl rfl rfl (Pur.assign rfl) ?_
  refine JO.nil ?_
  refine J.seq rfl ?_
  refine J.region rfl ?_
  refine JO.pur rfl rfl rfl (Pur.move rfl) ?_
  refine JO.pur rfl rfl rfl (Pur.move rfl) ?_
  refine JO.pur rfl rfl rfl (Pur.move rfl) ?_
  refine JO.eff rfl rfl rfl (Eff.call rfl (rbegin_ok g hk)) ?_
  rintro _ _ ⟨rfl, rfl⟩
  refine JO.pur rfl rfl rfl (Pur.extract rfl rfl) ?_
  refine JO.pur rfl rfl rfl (Pur.extract rfl rfl) ?_
  refine JO.pur rfl rfl rfl (Pur.assign rfl) ?_
  refine JO.pur rfl rfl rfl (Pur.assign rfl) ?_
  refine JO.nil ?_
  refine J.ret rfl rfl ?_
  exact ⟨rfl, rfl⟩

theorem rWriter_ok {L : List Asn} {p : Nat} {F : Fl} {fr to : Int} {k : Nat} (g : Hf.Good F k) (hk : k ≤ 100000) :
    CallS Try.prog 46 [.pointer (some ⟨p, 0, none⟩), .int .i64 fr, .int .i64 to].toArray (RA p F :: L) (fun v M => v = .tuple #[.int .i64 (beginF F fr to true).2.1, .int .i64 (beginF F fr to true).2.2] ∧ M = RA p (beginF F fr to true).1 :: L) := by
  refine CallS.enter Try.func46 rfl rfl rfl rfl rfl ?_
  refine J.seq rfl ?_
  refine J.region rfl ?_
  refine JO.pur rfl rfl rfl (Pur.assign rfl) ?_
  refine JO.pur rfl rfl rfl (Pur.assign rfl) ?_
  refine JO.nil ?_
  refine J.seq rfl ?_
  refine J.region rfl ?_
  refine JO.pur rfl rfl rfl (Pur.move rfl) ?_
  refine JO.pur rfl rfl rfl (Pur.move rfl) ?_
  refine JO.pur rfl rfl rfl (Pur.move rfl) ?_
  refine JO.eff rfl rfl rfl (Eff.call rfl (rbegin_ok g hk)) ?_
  rintro _ _ ⟨rfl, rfl⟩
  refine JO.pur rfl rfl rfl (Pur.extract rfl rfl) ?_
  refine JO.pur rfl rfl rfl (Pur.extract rfl rfl) ?_
  refine JO.pur rfl rfl rfl (Pur.assign rfl) ?_
  refine JO.pur rfl rfl rfl (Pur.assign rfl) ?_
  refine JO.nil ?_
  refine J.ret rfl rfl ?_
  exact ⟨rfl, rfl⟩

end Go.Proofs.Ytgbckamaenapeaa
