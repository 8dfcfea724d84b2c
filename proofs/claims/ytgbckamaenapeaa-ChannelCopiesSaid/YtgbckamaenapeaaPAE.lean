/-
  A part of the proof of the claim that this folder bears.
-/
import Derived.Test.YtgbckamaenapeaaPAD
/- The text HClose. -/
set_option linter.unusedVariables false
set_option linter.unusedSimpArgs false
set_option maxRecDepth 10000
namespace Go.Proofs.Ytgbckamaenapeaa
open Go Go.KK Hf

theorem putF_emp {F : Fl} {n : Int} {i : Nat} (hx : ix F n = some i) (hpe : (ch F i).pend = []) : putF F i = F := by
  unfold putF putB putC; rw [if_pos hpe, if_pos hpe, upd_same hx]
theorem putB_emp {bs : List UInt8} {c : Ch} (hpe : c.pend = []) : putB bs c = bs := by unfold putB; rw [if_pos hpe]
theorem putC_yes {c : Ch} (hpe : ¬ c.pend = []) : putC c = { c with pend := [], st := c.at' } := by unfold putC; rw [if_neg hpe]
theorem Commit_no {L : List Asn} {p : Nat} {F : Fl} {n : Int} (hx : ix F n = none) :
    CallS Try.prog 24 [.pointer (some ⟨p, 0, none⟩), .int .i64 n].toArray (FA p F :: L) (fun v M => v = .int .i64 (commitF F n).2 ∧ M = FA p (commitF F n).1 :: L) := by
  refine CallS.ent ?_
  refine CallS.enter Try.func24 rfl rfl rfl rfl rfl ?_
  refine J.seq rfl ?_
  refine FA_open fun ab cb mb rs hr => ?_
  refine J.region rfl ?_
  refine JO.pur rfl rfl rfl (Pur.assign rfl) ?_
  refine JO.nil ?_
  refine J.seq rfl ?_
  refine J.region rfl ?_
  refine JO.pur rfl rfl rfl (Pur.move rfl) ?_
  refine JO.pur rfl rfl rfl (Pur.move rfl) ?_
  refine JO.eff rfl rfl rfl (Eff.call rfl (find_no hr hx)) ?_
  rintro _ _ ⟨rfl, rfl⟩
  refine JO.pur rfl rfl rfl (Pur.move rfl) ?_
  refine JO.pur rfl rfl rfl (Pur.extract rfl rfl) ?_
  refine JO.pur rfl rfl rfl (Pur.extract rfl rfl) ?_
  refine JO.pur rfl rfl rfl (Pur.assign rfl) ?_
  refine JO.pur rfl rfl rfl (Pur.assign rfl) ?_
  refine JO.nil ?_
  refine J.seq rfl ?_
  refine J.block rfl ?_
  refine J.seq rfl ?_
  refine J.region rfl ?_
  refine JO.pur rfl rfl rfl (Pur.move rfl) ?_
  refine JO.pur rfl rfl rfl (Pur.neqI rfl rfl) ?_
  refine JO.setv (u' := .bool true) 15 rfl (congrArg Value.bool (rfl)) ?_
  refine JO.pur rfl rfl rfl (Pur.assign rfl) ?_
  refine JO.nil ?_
  refine J.condT rfl rfl ?_
  refine J.seq rfl ?_
  refine J.region rfl ?_
  refine JO.pur rfl rfl rfl (Pur.move rfl) ?_
  refine JO.pur rfl rfl rfl (Pur.assign rfl) ?_
  refine JO.nil ?_
  refine J.ret rfl rfl ?_
  have hv : commitF F n = (F, 5) := by unfold commitF; rw [hx]
  refine ⟨_, _, ⟨rfl, rfl⟩, by rw [hv]; rfl, fun h s => ?_⟩
  rw [hv]
  exact FA_mk (ab := ab) (cb := cb) (mb := mb) hr (SubC.out h s)

theorem Commit_emp {L : List Asn} {p : Nat} {F : Fl} {n : Int} {i : Nat} {k : Nat} (g : Hf.Good F k) (hk : k ≤ 100000) (hx : ix F n = some i) (hpe : (ch F i).pend = []) :
    CallS Try.prog 24 [.pointer (some ⟨p, 0, none⟩), .int .i64 n].toArray (FA p F :: L) (fun v M => v = .int .i64 (commitF F n).2 ∧ M = FA p (commitF F n).1 :: L) := by
  refine CallS.ent ?_
  refine CallS.enter Try.func24 rfl rfl rfl rfl rfl ?_
  refine J.seq rfl ?_
  refine FA_open fun ab cb mb rs hr => ?_
  obtain ⟨hil, hch, hnum⟩ := ix_some hx
  obtain ⟨r, hrg⟩ : ∃ r, rs[i]? = some r := ⟨_, List.getElem?_eq_getElem (by omega)⟩
  have gc := g.gc _ (ch_mem hx)
  have gmk := g.mks _ (ch_mem hx)
  have gb := g.b4
  have gf0 := gc.f0
  have gft := gc.ft
  have gt4 := gc.t4
  have gfa := gc.fa
  have ga4 := gc.at4
  refine J.region rfl ?_
  refine JO.pur rfl rfl rfl (Pur.assign rfl) ?_
  refine JO.nil ?_
  refine J.seq rfl ?_
  refine J.region rfl ?_
  refine JO.pur rfl rfl rfl (Pur.move rfl) ?_
  refine JO.pur rfl rfl rfl (Pur.move rfl) ?_
  refine JO.eff rfl rfl rfl (Eff.call rfl (find_yes hr hx hrg)) ?_
  rintro _ _ ⟨rfl, rfl⟩
  refine JO.pur rfl rfl rfl (Pur.move rfl) ?_
  refine JO.pur rfl rfl rfl (Pur.extract rfl rfl) ?_
  refine JO.pur rfl rfl rfl (Pur.extract rfl rfl) ?_
  refine JO.pur rfl rfl rfl (Pur.assign rfl) ?_
  refine JO.pur rfl rfl rfl (Pur.assign rfl) ?_
  refine JO.nil ?_
  refine J.seq rfl ?_
  refine J.block rfl ?_
  refine J.seq rfl ?_
  refine J.region rfl ?_
  refine JO.pur rfl rfl rfl (Pur.move rfl) ?_
  refine JO.pur rfl rfl rfl (Pur.neqI rfl rfl) ?_
  refine JO.setv (u' := .bool false) 15 rfl (congrArg Value.bool (rfl)) ?_
  refine JO.pur rfl rfl rfl (Pur.assign rfl) ?_
  refine JO.nil ?_
  refine J.condF rfl rfl ?_
  refine J.seq rfl ?_
  refine J.imp (fun h s => ch_take (rs := rs) (cs := F.opens) (i := i) hrg hch s) ?_
  refine J.region rfl ?_
  refine JO.pur rfl rfl rfl (Pur.move rfl) ?_
  refine JO.pur rfl rfl rfl (Pur.nilCheck rfl) ?_
  refine JO.pur rfl rfl rfl (Pur.fieldAddr rfl) ?_
  refine JO.pur rfl rfl rfl (Pur.load rfl (CellIn.blk rfl)) ?_
  refine JO.pur rfl rfl rfl (Pur.not rfl) ?_
  refine JO.pur rfl rfl rfl (Pur.move rfl) ?_
  refine JO.splitB 23 rfl (fun h23 => ?_) (fun h23 => ?_)
  · try simp only [decide_eq_true_eq, decide_eq_false_iff_not, Bool.not_eq_true', Bool.not_eq_false', Bool.and_eq_true, Bool.or_eq_true, Bool.and_eq_false_iff, Bool.or_eq_false_iff, Option.isNone_some, Option.isSome_some, Option.isNone_none, Option.isSome_none, Int.not_lt, Int.not_le, beq_iff_eq, beq_eq_false_iff_ne, bne_iff_ne, ne_eq, Bool.not_not, Decidable.not_not] at h23
    have hw : (ch F i).wr = false := by simpa using h23
    refine JO.no rfl rfl rfl ?_
    refine JO.no rfl rfl rfl ?_
    refine JO.no rfl rfl rfl ?_
    refine JO.no rfl rfl rfl ?_
    refine JO.no rfl rfl rfl ?_
    refine JO.no rfl rfl rfl ?_
    refine JO.pur rfl rfl rfl (Pur.pickT rfl rfl) ?_
    refine JO.pur rfl rfl rfl (Pur.assign rfl) ?_
    refine JO.nil ?_
    refine J.condT rfl rfl ?_
    refine J.seq rfl ?_
    refine J.region rfl ?_
    refine JO.pur rfl rfl rfl (Pur.assign rfl) ?_
    refine JO.nil ?_
    refine J.ret rfl rfl ?_
    have hv : commitF F n = (F, 230) := by unfold commitF; rw [hx]; dsimp only; rw [if_pos (.inl hw)]
    refine ⟨_, _, ⟨rfl, rfl⟩, by rw [hv]; rfl, fun h s => ?_⟩
    rw [hv]
    have s2 := FA_shut (L := L) (p := p) (bs := F.bytes) (nx := F.next) (F := F) (c' := ch F i) (ab := ab) (cb := cb) (mb := mb) (ap := r.ap) (cp := r.cp) (am := r.am) (cm := r.cm) hr hrg hch rfl (SubC.out h s)
    rw [upd_same hx] at s2
    exact s2
  · try simp only [decide_eq_true_eq, decide_eq_false_iff_not, Bool.not_eq_true', Bool.not_eq_false', Bool.and_eq_true, Bool.or_eq_true, Bool.and_eq_false_iff, Bool.or_eq_false_iff, Option.isNone_some, Option.isSome_some, Option.isNone_none, Option.isSome_none, Int.not_lt, Int.not_le, beq_iff_eq, beq_eq_false_iff_ne, bne_iff_ne, ne_eq, Bool.not_not, Decidable.not_not] at h23
    have hw : (ch F i).wr = true := by simpa using h23
    refine JO.pur rfl rfl rfl (Pur.move rfl) ?_
    refine JO.pur rfl rfl rfl (Pur.nilCheck rfl) ?_
    refine JO.pur rfl rfl rfl (Pur.fieldAddr rfl) ?_
    refine JO.pur rfl rfl rfl (Pur.load rfl (CellIn.blk rfl)) ?_
    refine JO.pur rfl rfl rfl (Pur.len rfl) ?_
    refine JO.pur rfl rfl rfl (Pur.gtr rfl rfl) ?_
    refine JO.pur rfl rfl rfl (Pur.pickF rfl rfl) ?_
    refine JO.pur rfl rfl rfl (Pur.assign rfl) ?_
    refine JO.nil ?_
    refine J.splitB 17 rfl (fun h17 => ?_) (fun h17 => ?_)
    · try simp only [decide_eq_true_eq, decide_eq_false_iff_not, Bool.not_eq_true', Bool.not_eq_false', Bool.and_eq_true, Bool.or_eq_true, Bool.and_eq_false_iff, Bool.or_eq_false_iff, Option.isNone_some, Option.isSome_some, Option.isNone_none, Option.isSome_none, Int.not_lt, Int.not_le, beq_iff_eq, beq_eq_false_iff_ne, bne_iff_ne, ne_eq, Bool.not_not, Decidable.not_not] at h17
      have hme : ¬ (ch F i).marks = [] := by intro e; rw [e] at h17; simp at h17
      refine J.condT rfl rfl ?_
      refine J.seq rfl ?_
      refine J.region rfl ?_
      refine JO.pur rfl rfl rfl (Pur.assign rfl) ?_
      refine JO.nil ?_
      refine J.ret rfl rfl ?_
      have hv : commitF F n = (F, 230) := by unfold commitF; rw [hx]; dsimp only; rw [if_pos (.inr hme)]
      refine ⟨_, _, ⟨rfl, rfl⟩, by rw [hv]; rfl, fun h s => ?_⟩
      rw [hv]
      have s2 := FA_shut (L := L) (p := p) (bs := F.bytes) (nx := F.next) (F := F) (c' := ch F i) (ab := ab) (cb := cb) (mb := mb) (ap := r.ap) (cp := r.cp) (am := r.am) (cm := r.cm) hr hrg hch rfl (SubC.out h s)
      rw [upd_same hx] at s2
      exact s2
    · try simp only [decide_eq_true_eq, decide_eq_false_iff_not, Bool.not_eq_true', Bool.not_eq_false', Bool.and_eq_true, Bool.or_eq_true, Bool.and_eq_false_iff, Bool.or_eq_false_iff, Option.isNone_some, Option.isSome_some, Option.isNone_none, Option.isSome_none, Int.not_lt, Int.not_le, beq_iff_eq, beq_eq_false_iff_ne, bne_iff_ne, ne_eq, Bool.not_not, Decidable.not_not] at h17
      have hme : (ch F i).marks = [] := List.eq_nil_of_length_eq_zero (by omega)
      refine J.condF rfl rfl ?_
      refine J.skip rfl ?_
      refine J.inBlock ?_
      refine J.seq rfl ?_
      refine J.region rfl ?_
      refine JO.pur rfl rfl rfl (Pur.move rfl) ?_
      refine JO.pur rfl rfl rfl (Pur.move rfl) ?_
      refine JO.eff rfl rfl rfl (Eff.call rfl (commit_emp g hx hpe)) ?_
      rintro _ _ ⟨rfl, rfl⟩
      refine JO.nil ?_
      refine J.seq rfl ?_
      refine J.region rfl ?_
      refine JO.pur rfl rfl rfl (Pur.assign rfl) ?_
      refine JO.nil ?_
      refine J.ret rfl rfl ?_
      have hv : commitF F n = (putF F i, 0) := by unfold commitF; rw [hx]; dsimp only; rw [if_neg (by rintro (h | h); rw [hw] at h; cases h; exact h hme)]
      refine ⟨_, _, ⟨rfl, rfl⟩, by rw [hv]; rfl, fun h s => ?_⟩
      rw [hv, putF_emp hx hpe]
      have s2 := FA_shut (L := L) (p := p) (bs := F.bytes) (nx := F.next) (F := F) (c' := ch F i) (ab := ab) (cb := cb) (mb := mb) (ap := r.ap) (cp := r.cp) (am := r.am) (cm := r.cm) hr hrg hch rfl (SubC.out h s)
      rw [upd_same hx] at s2
      exact s2

theorem Commit_put {L : List Asn} {p : Nat} {F : Fl} {n : Int} {i : Nat} {k : Nat} (g : Hf.Good F k) (hk : k ≤ 100000) (hx : ix F n = some i) (hpe : ¬ (ch F i).pend = []) :
    CallS Try.prog 24 [.pointer (some ⟨p, 0, none⟩), .int .i64 n].toArray (FA p F :: L) (fun v M => v = .int .i64 (commitF F n).2 ∧ M = FA p (commitF F n).1 :: L) := by
  refine CallS.ent ?_
  refine CallS.enter Try.func24 rfl rfl rfl rfl rfl ?_
  refine J.seq rfl ?_
  refine FA_open fun ab cb mb rs hr => ?_
  obtain ⟨hil, hch, hnum⟩ := ix_some hx
  obtain ⟨r, hrg⟩ : ∃ r, rs[i]? = some r := ⟨_, List.getElem?_eq_getElem (by omega)⟩
  have gc := g.gc _ (ch_mem hx)
  have gmk := g.mks _ (ch_mem hx)
  have gb := g.b4
  have gf0 := gc.f0
  have gft := gc.ft
  have gt4 := gc.t4
  have gfa := gc.fa
  have ga4 := gc.at4
  refine J.region rfl ?_
  refine JO.pur rfl rfl rfl (Pur.assign rfl) ?_
  refine JO.nil ?_
  refine J.seq rfl ?_
  refine J.region rfl ?_
  refine JO.pur rfl rfl rfl (Pur.move rfl) ?_
  refine JO.pur rfl rfl rfl (Pur.move rfl) ?_
  refine JO.eff rfl rfl rfl (Eff.call rfl (find_yes hr hx hrg)) ?_
  rintro _ _ ⟨rfl, rfl⟩
  refine JO.pur rfl rfl rfl (Pur.move rfl) ?_
  refine JO.pur rfl rfl rfl (Pur.extract rfl rfl) ?_
  refine JO.pur rfl rfl rfl (Pur.extract rfl rfl) ?_
  refine JO.pur rfl rfl rfl (Pur.assign rfl) ?_
  refine JO.pur rfl rfl rfl (Pur.assign rfl) ?_
  refine JO.nil ?_
  refine J.seq rfl ?_
  refine J.block rfl ?_
  refine J.seq rfl ?_
  refine J.region rfl ?_
  refine JO.pur rfl rfl rfl (Pur.move rfl) ?_
  refine JO.pur rfl rfl rfl (Pur.neqI rfl rfl) ?_
  refine JO.setv (u' := .bool false) 15 rfl (congrArg Value.bool (rfl)) ?_
  refine JO.pur rfl rfl rfl (Pur.assign rfl) ?_
  refine JO.nil ?_
  refine J.condF rfl rfl ?_
  refine J.seq rfl ?_
  refine J.imp (fun h s => ch_take (rs := rs) (cs := F.opens) (i := i) hrg hch s) ?_
  refine J.region rfl ?_
  refine JO.pur rfl rfl rfl (Pur.move rfl) ?_
  refine JO.pur rfl rfl rfl (Pur.nilCheck rfl) ?_
  refine JO.pur rfl rfl rfl (Pur.fieldAddr rfl) ?_
  refine JO.pur rfl rfl rfl (Pur.load rfl (CellIn.blk rfl)) ?_
  refine JO.pur rfl rfl rfl (Pur.not rfl) ?_
  refine JO.pur rfl rfl rfl (Pur.move rfl) ?_
  refine JO.splitB 23 rfl (fun h23 => ?_) (fun h23 => ?_)
  · try simp only [decide_eq_true_eq, decide_eq_false_iff_not, Bool.not_eq_true', Bool.not_eq_false', Bool.and_eq_true, Bool.or_eq_true, Bool.and_eq_false_iff, Bool.or_eq_false_iff, Option.isNone_some, Option.isSome_some, Option.isNone_none, Option.isSome_none, Int.not_lt, Int.not_le, beq_iff_eq, beq_eq_false_iff_ne, bne_iff_ne, ne_eq, Bool.not_not, Decidable.not_not] at h23
    have hw : (ch F i).wr = false := by simpa using h23
    refine JO.no rfl rfl rfl ?_
    refine JO.no rfl rfl rfl ?_
    refine JO.no rfl rfl rfl ?_
    refine JO.no rfl rfl rfl ?_
    refine JO.no rfl rfl rfl ?_
    refine JO.no rfl rfl rfl ?_
    refine JO.pur rfl rfl rfl (Pur.pickT rfl rfl) ?_
    refine JO.pur rfl rfl rfl (Pur.assign rfl) ?_
    refine JO.nil ?_
    refine J.condT rfl rfl ?_
    refine J.seq rfl ?_
    refine J.region rfl ?_
    refine JO.pur rfl rfl rfl (Pur.assign rfl) ?_
    refine JO.nil ?_
    refine J.ret rfl rfl ?_
    have hv : commitF F n = (F, 230) := by unfold commitF; rw [hx]; dsimp only; rw [if_pos (.inl hw)]
    refine ⟨_, _, ⟨rfl, rfl⟩, by rw [hv]; rfl, fun h s => ?_⟩
    rw [hv]
    have s2 := FA_shut (L := L) (p := p) (bs := F.bytes) (nx := F.next) (F := F) (c' := ch F i) (ab := ab) (cb := cb) (mb := mb) (ap := r.ap) (cp := r.cp) (am := r.am) (cm := r.cm) hr hrg hch rfl (SubC.out h s)
    rw [upd_same hx] at s2
    exact s2
  · try simp only [decide_eq_true_eq, decide_eq_false_iff_not, Bool.not_eq_true', Bool.not_eq_false', Bool.and_eq_true, Bool.or_eq_true, Bool.and_eq_false_iff, Bool.or_eq_false_iff, Option.isNone_some, Option.isSome_some, Option.isNone_none, Option.isSome_none, Int.not_lt, Int.not_le, beq_iff_eq, beq_eq_false_iff_ne, bne_iff_ne, ne_eq, Bool.not_not, Decidable.not_not] at h23
    have hw : (ch F i).wr = true := by simpa using h23
    refine JO.pur rfl rfl rfl (Pur.move rfl) ?_
    refine JO.pur rfl rfl rfl (Pur.nilCheck rfl) ?_
    refine JO.pur rfl rfl rfl (Pur.fieldAddr rfl) ?_
    refine JO.pur rfl rfl rfl (Pur.load rfl (CellIn.blk rfl)) ?_
    refine JO.pur rfl rfl rfl (Pur.len rfl) ?_
    refine JO.pur rfl rfl rfl (Pur.gtr rfl rfl) ?_
    refine JO.pur rfl rfl rfl (Pur.pickF rfl rfl) ?_
    refine JO.pur rfl rfl rfl (Pur.assign rfl) ?_
    refine JO.nil ?_
    refine J.splitB 17 rfl (fun h17 => ?_) (fun h17 => ?_)
    · try simp only [decide_eq_true_eq, decide_eq_false_iff_not, Bool.not_eq_true', Bool.not_eq_false', Bool.and_eq_true, Bool.or_eq_true, Bool.and_eq_false_iff, Bool.or_eq_false_iff, Option.isNone_some, Option.isSome_some, Option.isNone_none, Option.isSome_none, Int.not_lt, Int.not_le, beq_iff_eq, beq_eq_false_iff_ne, bne_iff_ne, ne_eq, Bool.not_not, Decidable.not_not] at h17
      have hme : ¬ (ch F i).marks = [] := by intro e; rw [e] at h17; simp at h17
      refine J.condT rfl rfl ?_
      refine J.seq rfl ?_
      refine J.region rfl ?_
      refine JO.pur rfl rfl rfl (Pur.assign rfl) ?_
      refine JO.nil ?_
      refine J.ret rfl rfl ?_
      have hv : commitF F n = (F, 230) := by unfold commitF; rw [hx]; dsimp only; rw [if_pos (.inr hme)]
      refine ⟨_, _, ⟨rfl, rfl⟩, by rw [hv]; rfl, fun h s => ?_⟩
      rw [hv]
      have s2 := FA_shut (L := L) (p := p) (bs := F.bytes) (nx := F.next) (F := F) (c' := ch F i) (ab := ab) (cb := cb) (mb := mb) (ap := r.ap) (cp := r.cp) (am := r.am) (cm := r.cm) hr hrg hch rfl (SubC.out h s)
      rw [upd_same hx] at s2
      exact s2
    · try simp only [decide_eq_true_eq, decide_eq_false_iff_not, Bool.not_eq_true', Bool.not_eq_false', Bool.and_eq_true, Bool.or_eq_true, Bool.and_eq_false_iff, Bool.or_eq_false_iff, Option.isNone_some, Option.isSome_some, Option.isNone_none, Option.isSome_none, Int.not_lt, Int.not_le, beq_iff_eq, beq_eq_false_iff_ne, bne_iff_ne, ne_eq, Bool.not_not, Decidable.not_not] at h17
      have hme : (ch F i).marks = [] := List.eq_nil_of_length_eq_zero (by omega)
      refine J.condF rfl rfl ?_
      refine J.skip rfl ?_
      refine J.inBlock ?_
      refine J.seq rfl ?_
      refine J.region rfl ?_
      refine JO.pur rfl rfl rfl (Pur.move rfl) ?_
      refine JO.pur rfl rfl rfl (Pur.move rfl) ?_
      refine JO.eff rfl rfl rfl (Eff.call rfl (commit_yes g hx hpe)) ?_
      rintro _ _ ⟨ab', cb', rfl, rfl⟩
      refine JO.nil ?_
      refine J.seq rfl ?_
      refine J.region rfl ?_
      refine JO.pur rfl rfl rfl (Pur.assign rfl) ?_
      refine JO.nil ?_
      refine J.ret rfl rfl ?_
      have hv : commitF F n = (putF F i, 0) := by unfold commitF; rw [hx]; dsimp only; rw [if_neg (by rintro (h | h); rw [hw] at h; cases h; exact h hme)]
      refine ⟨_, _, ⟨rfl, rfl⟩, by rw [hv]; rfl, fun h s => ?_⟩
      rw [hv]
      refine FA_shut (L := L) (p := p) (bs := (putB F.bytes (ch F i))) (nx := F.next) (F := F) (c' := putC (ch F i)) (ab := ab') (cb := cb') (mb := mb) (ap := none) (cp := 0) (am := r.am) (cm := r.cm) hr hrg hch (put_num _).1 ?_
      rw [putC_yes hpe]
      exact SubC.out (M := blk r.b (.cells #[.int .i64 (ch F i).fr, .int .i64 (ch F i).to, .int .i64 (ch F i).at', .bool (ch F i).wr, .slice none 0 0, .int .i64 (ch F i).at', .slice r.am (ch F i).marks.length r.cm] 77) :: sl byE none 0 [] :: sl intE r.am r.cm (ch F i).marks :: star ((chL rs F.opens).eraseIdx i) :: blk p (.cells #[.bool true, .slice ab' (putB F.bytes (ch F i)).length cb', .int .i64 F.next, .map (some mb)] 62) :: sl byE ab' cb' (putB F.bytes (ch F i)) :: mp intK mb (entsC rs F.opens) :: L) h s

theorem Commit_ok {L : List Asn} {p : Nat} {F : Fl} {n : Int} {k : Nat} (g : Hf.Good F k) (hk : k ≤ 100000) : CallS Try.prog 24 [.pointer (some ⟨p, 0, none⟩), .int .i64 n].toArray (FA p F :: L) (fun v M => v = .int .i64 (commitF F n).2 ∧ M = FA p (commitF F n).1 :: L) := by
  cases hx : ix F n with
  | none => exact Commit_no hx
  | some i =>
    by_cases hpe : (ch F i).pend = []
    · exact Commit_emp g hk hx hpe
    · exact Commit_put g hk hx hpe
theorem Close_no {L : List Asn} {p : Nat} {F : Fl} {n : Int} (hx : ix F n = none) :
    CallS Try.prog 20 [.pointer (some ⟨p, 0, none⟩), .int .i64 n].toArray (FA p F :: L) (fun v M => v = .int .i64 (closeF F n).2 ∧ M = FA p (closeF F n).1 :: L) := by
  refine CallS.ent ?_
  refine CallS.enter Try.func20 rfl rfl rfl rfl rfl ?_
  refine J.seq rfl ?_
  refine FA_open fun ab cb mb rs hr => ?_
  refine J.region rfl ?_
  refine JO.pur rfl rfl rfl (Pur.assign rfl) ?_
  refine JO.nil ?_
  refine J.seq rfl ?_
  refine J.region rfl ?_
  refine JO.pur rfl rfl rfl (Pur.move rfl) ?_
  refine JO.pur rfl rfl rfl (Pur.move rfl) ?_
  refine JO.eff rfl rfl rfl (Eff.call rfl (find_no hr hx)) ?_
  rintro _ _ ⟨rfl, rfl⟩
  refine JO.pur rfl rfl rfl (Pur.move rfl) ?_
  refine JO.pur rfl rfl rfl (Pur.extract rfl rfl) ?_
  refine JO.pur rfl rfl rfl (Pur.extract rfl rfl) ?_
  refine JO.pur rfl rfl rfl (Pur.assign rfl) ?_
  refine JO.pur rfl rfl rfl (Pur.assign rfl) ?_
  refine JO.nil ?_
  refine J.seq rfl ?_
  refine J.seq rfl ?_
  refine J.region rfl ?_
  refine JO.pur rfl rfl rfl (Pur.move rfl) ?_
  refine JO.pur rfl rfl rfl (Pur.neqI rfl rfl) ?_
  refine JO.setv (u' := .bool true) 14 rfl (congrArg Value.bool (rfl)) ?_
  refine JO.nil ?_
  refine J.condT rfl rfl ?_
  refine J.seq rfl ?_
  refine J.region rfl ?_
  refine JO.pur rfl rfl rfl (Pur.move rfl) ?_
  refine JO.pur rfl rfl rfl (Pur.assign rfl) ?_
  refine JO.nil ?_
  refine J.ret rfl rfl ?_
  have hv : closeF F n = (F, 5) := by unfold closeF; rw [hx]
  refine ⟨_, _, ⟨rfl, rfl⟩, by rw [hv]; rfl, fun h s => ?_⟩
  rw [hv]
  exact FA_mk (ab := ab) (cb := cb) (mb := mb) hr (SubC.out h s)

theorem Close_emp {L : List Asn} {p : Nat} {F : Fl} {n : Int} {i : Nat} {k : Nat} (g : Hf.Good F k) (hk : k ≤ 100000) (hx : ix F n = some i) (hpe : (ch F i).pend = []) :
    CallS Try.prog 20 [.pointer (some ⟨p, 0, none⟩), .int .i64 n].toArray (FA p F :: L) (fun v M => v = .int .i64 (closeF F n).2 ∧ M = FA p (closeF F n).1 :: L) := by
  refine CallS.ent ?_
  refine CallS.enter Try.func20 rfl rfl rfl rfl rfl ?_
  refine J.seq rfl ?_
  refine FA_open fun ab cb mb rs hr => ?_
  obtain ⟨hil, hch, hnum⟩ := ix_some hx
  obtain ⟨r, hrg⟩ : ∃ r, rs[i]? = some r := ⟨_, List.getElem?_eq_getElem (by omega)⟩
  have gc := g.gc _ (ch_mem hx)
  have gmk := g.mks _ (ch_mem hx)
  have gb := g.b4
  have gf0 := gc.f0
  have gft := gc.ft
  have gt4 := gc.t4
  have gfa := gc.fa
  have ga4 := gc.at4
  refine J.region rfl ?_
  refine JO.pur rfl rfl rfl (Pur.assign rfl) ?_
  refine JO.nil ?_
  refine J.seq rfl ?_
  refine J.region rfl ?_
  refine JO.pur rfl rfl rfl (Pur.move rfl) ?_
  refine JO.pur rfl rfl rfl (Pur.move rfl) ?_
  refine JO.eff rfl rfl rfl (Eff.call rfl (find_yes hr hx hrg)) ?_
  rintro _ _ ⟨rfl, rfl⟩
  refine JO.pur rfl rfl rfl (Pur.move rfl) ?_
  refine JO.pur rfl rfl rfl (Pur.extract rfl rfl) ?_
  refine JO.pur rfl rfl rfl (Pur.extract rfl rfl) ?_
  refine JO.pur rfl rfl rfl (Pur.assign rfl) ?_
  refine JO.pur rfl rfl rfl (Pur.assign rfl) ?_
  refine JO.nil ?_
  refine J.seq rfl ?_
  refine J.seq rfl ?_
  refine J.region rfl ?_
  refine JO.pur rfl rfl rfl (Pur.move rfl) ?_
  refine JO.pur rfl rfl rfl (Pur.neqI rfl rfl) ?_
  refine JO.setv (u' := .bool false) 14 rfl (congrArg Value.bool (rfl)) ?_
  refine JO.nil ?_
  refine J.condF rfl rfl ?_
  refine J.skip rfl ?_
  refine J.seq rfl ?_
  refine J.imp (fun h s => ch_take (rs := rs) (cs := F.opens) (i := i) hrg hch s) ?_
  refine J.region rfl ?_
  refine JO.pur rfl rfl rfl (Pur.move rfl) ?_
  refine JO.pur rfl rfl rfl (Pur.move rfl) ?_
  refine JO.eff rfl rfl rfl (Eff.call rfl (commit_emp g hx hpe)) ?_
  rintro _ _ ⟨rfl, rfl⟩
  refine JO.nil ?_
  refine J.seq rfl ?_
  refine J.region rfl ?_
  refine JO.pur rfl rfl rfl (Pur.move rfl) ?_
  refine JO.pur rfl rfl rfl (Pur.nilCheck rfl) ?_
  refine JO.pur rfl rfl rfl (Pur.fieldAddr rfl) ?_
  refine JO.pur rfl rfl rfl (Pur.load rfl (CellIn.blk rfl)) ?_
  refine JO.pur rfl rfl rfl (Pur.move rfl) ?_
  refine JO.effN rfl rfl (Eff.mapDelete (K := intK) rfl rfl) ?_
  rintro _ _ ⟨rfl, rfl⟩
  refine JO.nil ?_
  refine J.seq rfl ?_
  refine J.region rfl ?_
  refine JO.pur rfl rfl rfl (Pur.assign rfl) ?_
  refine JO.nil ?_
  refine J.ret rfl rfl ?_
  have hv : closeF F n = (⟨(putB F.bytes (ch F i)), F.next, F.opens.eraseIdx i⟩, 0) := by unfold closeF; rw [hx]
  refine ⟨_, _, ⟨rfl, rfl⟩, by rw [hv]; rfl, fun h s => ?_⟩
  rw [hv]
  refine FA_mk (F := ⟨(putB F.bytes (ch F i)), F.next, F.opens.eraseIdx i⟩) (ab := ab) (cb := cb) (mb := mb) (rs := rs.eraseIdx i) (by simp only [List.length_eraseIdx, hr]) ?_
  rw [del_yes hr hx, chL_erase hr] at s
  dsimp only; rw [putB_emp hpe]
  exact SubC.out h s

theorem Close_put {L : List Asn} {p : Nat} {F : Fl} {n : Int} {i : Nat} {k : Nat} (g : Hf.Good F k) (hk : k ≤ 100000) (hx : ix F n = some i) (hpe : ¬ (ch F i).pend = []) :
    CallS Try.prog 20 [.pointer (some ⟨p, 0, none⟩), .int .i64 n].toArray (FA p F :: L) (fun v M => v = .int .i64 (closeF F n).2 ∧ M = FA p (closeF F n).1 :: L) := by
  refine CallS.ent ?_
  refine CallS.enter Try.func20 rfl rfl rfl rfl rfl ?_
  refine J.seq rfl ?_
  refine FA_open fun ab cb mb rs hr => ?_
  obtain ⟨hil, hch, hnum⟩ := ix_some hx
  obtain ⟨r, hrg⟩ : ∃ r, rs[i]? = some r := ⟨_, List.getElem?_eq_getElem (by omega)⟩
  have gc := g.gc _ (ch_mem hx)
  have gmk := g.mks _ (ch_mem hx)
  have gb := g.b4
  have gf0 := gc.f0
  have gft := gc.ft
  have gt4 := gc.t4
  have gfa := gc.fa
  have ga4 := gc.at4
  refine J.region rfl ?_
  refine JO.pur rfl rfl rfl (Pur.assign rfl) ?_
  refine JO.nil ?_
  refine J.seq rfl ?_
  refine J.region rfl ?_
  refine JO.pur rfl rfl rfl (Pur.move rfl) ?_
  refine JO.pur rfl rfl rfl (Pur.move rfl) ?_
  refine JO.eff rfl rfl rfl (Eff.call rfl (find_yes hr hx hrg)) ?_
  rintro _ _ ⟨rfl, rfl⟩
  refine JO.pur rfl rfl rfl (Pur.move rfl) ?_
  refine JO.pur rfl rfl rfl (Pur.extract rfl rfl) ?_
  refine JO.pur rfl rfl rfl (Pur.extract rfl rfl) ?_
  refine JO.pur rfl rfl rfl (Pur.assign rfl) ?_
  refine JO.pur rfl rfl rfl (Pur.assign rfl) ?_
  refine JO.nil ?_
  refine J.seq rfl ?_
  refine J.seq rfl ?_
  refine J.region rfl ?_
  refine JO.pur rfl rfl rfl (Pur.move rfl) ?_
  refine JO.pur rfl rfl rfl (Pur.neqI rfl rfl) ?_
  refine JO.setv (u' := .bool false) 14 rfl (congrArg Value.bool (rfl)) ?_
  refine JO.nil ?_
  refine J.condF rfl rfl ?_
  refine J.skip rfl ?_
  refine J.seq rfl ?_
  refine J.imp (fun h s => ch_take (rs := rs) (cs := F.opens) (i := i) hrg hch s) ?_
  refine J.region rfl ?_
  refine JO.pur rfl rfl rfl (Pur.move rfl) ?_
  refine JO.pur rfl rfl rfl (Pur.move rfl) ?_
  refine JO.eff rfl rfl rfl (Eff.call rfl (commit_yes g hx hpe)) ?_
  rintro _ _ ⟨ab', cb', rfl, rfl⟩
  refine JO.nil ?_
  refine J.seq rfl ?_
  refine J.region rfl ?_
  refine JO.pur rfl rfl rfl (Pur.move rfl) ?_
  refine JO.pur rfl rfl rfl (Pur.nilCheck rfl) ?_
  refine JO.pur rfl rfl rfl (Pur.fieldAddr rfl) ?_
  refine JO.pur rfl rfl rfl (Pur.load rfl (CellIn.blk rfl)) ?_
  refine JO.pur rfl rfl rfl (Pur.move rfl) ?_
  refine JO.effN rfl rfl (Eff.mapDelete (K := intK) rfl rfl) ?_
  rintro _ _ ⟨rfl, rfl⟩
  refine JO.nil ?_
  refine J.seq rfl ?_
  refine J.region rfl ?_
  refine JO.pur rfl rfl rfl (Pur.assign rfl) ?_
  refine JO.nil ?_
  refine J.ret rfl rfl ?_
  have hv : closeF F n = (⟨(putB F.bytes (ch F i)), F.next, F.opens.eraseIdx i⟩, 0) := by unfold closeF; rw [hx]
  refine ⟨_, _, ⟨rfl, rfl⟩, by rw [hv]; rfl, fun h s => ?_⟩
  rw [hv]
  refine FA_mk (F := ⟨(putB F.bytes (ch F i)), F.next, F.opens.eraseIdx i⟩) (ab := ab') (cb := cb') (mb := mb) (rs := rs.eraseIdx i) (by simp only [List.length_eraseIdx, hr]) ?_
  rw [del_yes hr hx, chL_erase hr] at s
  exact SubC.out h s

theorem Close_ok {L : List Asn} {p : Nat} {F : Fl} {n : Int} {k : Nat} (g : Hf.Good F k) (hk : k ≤ 100000) : CallS Try.prog 20 [.pointer (some ⟨p, 0, none⟩), .int .i64 n].toArray (FA p F :: L) (fun v M => v = .int .i64 (closeF F n).2 ∧ M = FA p (closeF F n).1 :: L) := by
  cases hx : ix F n with
  | none => exact Close_no hx
  | some i =>
    by_cases hpe : (ch F i).pend = []
    · exact Close_emp g hk hx hpe
    · exact Close_put g hk hx hpe
theorem Bytes_ok {L : List Asn} {p : Nat} {F : Fl} (hb : F.bytes.length ≤ 400) :
    CallS Try.prog 21 [.pointer (some ⟨p, 0, none⟩)].toArray (FA p F :: L) (fun v M => ∃ a' c', v = .slice a' F.bytes.length c' ∧ M = sl byE a' c' F.bytes :: FA p F :: L) := by
  refine CallS.ent ?_
  refine CallS.enter Try.func21 rfl rfl rfl rfl rfl ?_
  refine J.seq rfl ?_
  refine FA_open fun ab cb mb rs hr => ?_
  refine J.region rfl ?_
  refine JO.pur rfl rfl rfl (Pur.assign rfl) ?_
  refine JO.nil ?_
  refine J.seq rfl ?_
  refine J.seq rfl ?_
  refine J.region rfl ?_
  refine JO.pur rfl rfl rfl (Pur.move rfl) ?_
  refine JO.effR rfl rfl rfl (Eff.call rfl (none_ok)) ?_
  refine JO.setv (u' := .bool false) 4 rfl (congrArg Value.bool (rfl)) ?_
  refine JO.nil ?_
  refine J.condF rfl rfl ?_
  refine J.skip rfl ?_
  refine J.seq rfl ?_
  refine J.fact (fun h s => SlH.nil (a := ab) (cap := cb) (E := byE) (xs := F.bytes) s) fun hnl => ?_
  have hnl2 : ab = none → F.bytes.length = 0 ∧ cb = 0 := fun e => by obtain ⟨e1, e2⟩ := hnl e; exact ⟨by rw [e1]; rfl, e2⟩
  refine J.region rfl ?_
  refine JO.pur rfl rfl rfl (Pur.move rfl) ?_
  refine JO.pur rfl rfl rfl (Pur.nilCheck rfl) ?_
  refine JO.pur rfl rfl rfl (Pur.fieldAddr rfl) ?_
  refine JO.pur rfl rfl rfl (Pur.load rfl (CellIn.blk rfl)) ?_
  refine JO.eff rfl rfl rfl (Eff.call rfl (cloneB (xs := F.bytes) rfl (by omega) hnl2)) ?_
  rintro _ _ ⟨a9, c9, ⟨rfl, -⟩, rfl⟩
  refine JO.pur rfl rfl rfl (Pur.assign rfl) ?_
  refine JO.nil ?_
  refine J.ret rfl rfl ?_
  refine ⟨_, _, ⟨a9, c9, rfl, rfl⟩, rfl, fun h s => ?_⟩
  have s2 := FA_mk (L := sl byE a9 c9 F.bytes :: L) (F := F) (p := p) (ab := ab) (cb := cb) (mb := mb) hr (SubC.out h s)
  exact s2.swap

end Go.Proofs.Ytgbckamaenapeaa

/- The text HChan. -/
set_option linter.unusedVariables false
set_option linter.unusedSimpArgs false
set_option maxRecDepth 10000
namespace Go.Proofs.Ytgbckamaenapeaa
open Go Go.KK Hf

theorem ents_inv {rs : List Cr} {cs : List Ch} (hr : rs.length = cs.length) {j : Nat} {kk : Int} {vv : Value} (h : (entsC rs cs)[j]? = some (kk, vv)) : ∃ r c, rs[j]? = some r ∧ cs[j]? = some c ∧ kk = c.num ∧ vv = .pointer (some ⟨r.b, 0, none⟩) ∧ j < cs.length := by
  unfold entsC at h
  rw [List.getElem?_zipWith] at h
  cases hx : rs[j]? with
  | none => rw [hx] at h; cases h
  | some r =>
    cases hy : cs[j]? with
    | none => rw [hx, hy] at h; cases h
    | some c =>
      rw [hx, hy] at h
      simp only [Option.some.injEq] at h
      unfold ent at h
      cases h
      exact ⟨r, c, rfl, rfl, rfl, rfl, (List.getElem?_eq_some_iff.1 hy).1⟩
theorem nodup_le : ∀ (n : Nat) (l : List Nat), l.Nodup → (∀ x ∈ l, x < n) → l.length ≤ n
  | 0, l, _, h => by
    cases l with
    | nil => simp
    | cons x r => have := h x (by simp); omega
  | n + 1, l, hn, h => by
    have ih := nodup_le n (l.erase n) (hn.erase n) (fun x hx => by
      have h1 := h x (List.mem_of_mem_erase hx)
      have h2 : x ≠ n := fun e => by subst e; exact (List.Nodup.not_mem_erase hn) hx
      omega)
    by_cases hm : n ∈ l
    · have := List.length_erase_of_mem hm; omega
    · rw [List.erase_of_not_mem hm] at ih; omega
theorem look_new {F : Fl} {k : Nat} {rs : List Cr} (g : Hf.Good F k) (hr : rs.length = F.opens.length) : alook (entsC rs F.opens) F.next = none := by
  refine look_no hr ?_
  unfold ix
  rw [List.findIdx?_eq_none_iff]
  intro c hc
  have := (g.lt c hc).2
  simp; omega
theorem aset_new {F : Fl} {k : Nat} {rs : List Cr} (g : Hf.Good F k) (hr : rs.length = F.opens.length) (v : Value) : aset (entsC rs F.opens) F.next v = entsC rs F.opens ++ [(F.next, v)] := by
  unfold aset; rw [look_new g hr]; rfl
theorem New_ok {L : List Asn} {b : Option Addr} {m cq : Nat} {ys : List UInt8} [SlIn byE L b ys] (hm : m = ys.length) (hb : ys.length ≤ 400) (hnil : b = none → m = 0 ∧ cq = 0) :
    CallS Try.prog 17 [.slice b m cq].toArray L (fun v M => ∃ p, v = .tuple #[.pointer (some ⟨p, 0, none⟩), .int .i64 0] ∧ M = FA p (newF ys) :: L) := by
  subst hm
  refine CallS.ent ?_
  refine CallS.enter Try.func17 rfl rfl rfl rfl rfl ?_
  refine J.seq rfl ?_
  refine J.region rfl ?_
  refine JO.pur rfl rfl rfl (Pur.assign rfl) ?_
  refine JO.pur rfl rfl rfl (Pur.assign rfl) ?_
  refine JO.nil ?_
  refine J.seq rfl ?_
  refine J.seq rfl ?_
  refine J.region rfl ?_
  refine JO.pur rfl rfl rfl (Pur.move rfl) ?_
  refine JO.pur rfl rfl rfl (Pur.len rfl) ?_
  refine JO.pur rfl rfl rfl (Pur.gtr rfl rfl) ?_
  refine JO.setv (u' := .bool false) 6 rfl (congrArg Value.bool (decide_eq_false (by omega))) ?_
  refine JO.nil ?_
  refine J.condF rfl rfl ?_
  refine J.skip rfl ?_
  refine J.seq rfl ?_
  refine J.region rfl ?_
  refine JO.pur rfl rfl rfl (Pur.move rfl) ?_
  refine JO.eff rfl rfl rfl (Eff.call rfl (cloneB (xs := ys) rfl (by omega) hnil)) ?_
  rintro _ _ ⟨a8, c8, ⟨rfl, -⟩, rfl⟩
  refine JO.eff rfl rfl rfl (Eff.makeMap intK) ?_
  rintro _ _ ⟨b9, rfl, rfl⟩
  refine JO.pur rfl rfl rfl (Pur.build (cs := [_, _, _, _]) rfl rfl) ?_
  refine JO.eff rfl rfl rfl (Eff.box (cs := [_, _, _, _]) rfl rfl) ?_
  rintro _ _ ⟨b11, rfl, rfl⟩
  refine JO.pur rfl rfl rfl (Pur.assign rfl) ?_
  refine JO.pur rfl rfl rfl (Pur.assign rfl) ?_
  refine JO.nil ?_
  refine J.ret rfl rfl ?_
  refine ⟨_, _, ⟨b11, rfl, rfl⟩, rfl, fun h s => ?_⟩
  refine FA_mk (F := newF ys) (ab := a8) (cb := c8) (mb := b9) (rs := []) rfl ?_
  have s2 : Sat h (star (chL [] []) :: _) := star_nil s
  show Sat h (blk b11 (.cells #[.bool true, .slice a8 ys.length c8, .int .i64 1, .map (some b9)] 62) :: sl byE a8 c8 ys :: mp intK b9 [] :: star (chL [] []) :: L)
  exact SubC.out h s2

theorem New_big {L : List Asn} {b : Option Addr} {m cq : Nat} {ys : List UInt8} [SlIn byE L b ys] (hm : m = ys.length) (hb : ¬ ys.length ≤ 400) :
    CallS Try.prog 17 [.slice b m cq].toArray L (fun v M => v = .tuple #[.pointer none, .int .i64 2] ∧ M = L) := by
  subst hm
  refine CallS.enter Try.func17 rfl rfl rfl rfl rfl ?_
  refine J.seq rfl ?_
  refine J.region rfl ?_
  refine JO.pur rfl rfl rfl (Pur.assign rfl) ?_
  refine JO.pur rfl rfl rfl (Pur.assign rfl) ?_
  refine JO.nil ?_
  refine J.seq rfl ?_
  refine J.seq rfl ?_
  refine J.region rfl ?_
  refine JO.pur rfl rfl rfl (Pur.move rfl) ?_
  refine JO.pur rfl rfl rfl (Pur.len rfl) ?_
  refine JO.pur rfl rfl rfl (Pur.gtr rfl rfl) ?_
  refine JO.setv (u' := .bool true) 6 rfl (congrArg Value.bool (decide_eq_true (by omega))) ?_
  refine JO.nil ?_
  refine J.condT rfl rfl ?_
  refine J.seq rfl ?_
  refine J.region rfl ?_
  refine JO.pur rfl rfl rfl (Pur.assign rfl) ?_
  refine JO.pur rfl rfl rfl (Pur.assign rfl) ?_
  refine JO.nil ?_
  refine J.ret rfl rfl ?_
  exact ⟨rfl, rfl⟩

theorem channel_ok {L : List Asn} {p : Nat} {F : Fl} {fr to : Int} {wr : Bool} {k : Nat} (g : Hf.Good F k) (hk : k ≤ 100000) :
    CallS Try.prog 38 [.pointer (some ⟨p, 0, none⟩), .int .i64 fr, .int .i64 to, .bool wr].toArray (FA p F :: L) (fun v M => v = .tuple #[.int .i64 (beginF F fr to wr).2.1, .int .i64 (beginF F fr to wr).2.2] ∧ M = FA p (beginF F fr to wr).1 :: L) := by
  have gn := g.nk
  have gn1 := g.n1
  refine CallS.ent ?_
  refine CallS.enter Try.func38 rfl rfl rfl rfl rfl ?_
  refine J.seq rfl ?_
  refine FA_open fun ab cb mb rs hr => ?_
  refine J.region rfl ?_
  refine JO.pur rfl rfl rfl (Pur.assign rfl) ?_
  refine JO.pur rfl rfl rfl (Pur.assign rfl) ?_
  refine JO.nil ?_
  refine J.seq rfl ?_
  refine J.block rfl ?_
  refine J.seq rfl ?_
  refine J.region rfl ?_
  refine JO.pur rfl rfl rfl (Pur.move rfl) ?_
  refine JO.effR rfl rfl rfl (Eff.call rfl (none_ok)) ?_
  refine JO.setv (u' := .bool false) 14 rfl (congrArg Value.bool (rfl)) ?_
  refine JO.pur rfl rfl rfl (Pur.assign rfl) ?_
  refine JO.nil ?_
  refine J.condF rfl rfl ?_
  refine J.seq rfl ?_
  refine J.region rfl ?_
  refine JO.pur rfl rfl rfl (Pur.move rfl) ?_
  refine JO.pur rfl rfl rfl (Pur.lss rfl rfl) ?_
  refine JO.pur rfl rfl rfl (Pur.move rfl) ?_
  refine JO.splitB 18 rfl (fun h18 => ?_) (fun h18 => ?_)
  · try simp only [decide_eq_true_eq, decide_eq_false_iff_not, Bool.not_eq_true', Bool.not_eq_false', Bool.and_eq_true, Bool.or_eq_true, Bool.and_eq_false_iff, Bool.or_eq_false_iff, Option.isNone_some, Option.isSome_some, Option.isNone_none, Option.isSome_none, Int.not_lt, Int.not_le, beq_iff_eq, beq_eq_false_iff_ne, bne_iff_ne, ne_eq, Bool.not_not, Decidable.not_not] at h18
    refine JO.no rfl rfl rfl ?_
    refine JO.no rfl rfl rfl ?_
    refine JO.no rfl rfl rfl ?_
    refine JO.pur rfl rfl rfl (Pur.pickT rfl rfl) ?_
    refine JO.pur rfl rfl rfl (Pur.move rfl) ?_
    refine JO.no rfl rfl rfl ?_
    refine JO.no rfl rfl rfl ?_
    refine JO.pur rfl rfl rfl (Pur.pickT rfl rfl) ?_
    refine JO.pur rfl rfl rfl (Pur.assign rfl) ?_
    refine JO.nil ?_
    refine J.condT rfl rfl ?_
    refine J.seq rfl ?_
    refine J.region rfl ?_
    refine JO.pur rfl rfl rfl (Pur.assign rfl) ?_
    refine JO.pur rfl rfl rfl (Pur.assign rfl) ?_
    refine JO.nil ?_
    refine J.ret rfl rfl ?_
    have hbad : fr < 0 ∨ to < fr ∨ 400 < to := by omega
    have hv : (beginF F fr to wr) = (F, 0, 2) := by unfold beginF; rw [if_pos hbad]
    refine ⟨_, _, ⟨rfl, rfl⟩, by rw [hv]; rfl, fun h s => ?_⟩
    rw [hv]
    exact FA_mk (ab := ab) (cb := cb) (mb := mb) hr (SubC.out h s)
  · try simp only [decide_eq_true_eq, decide_eq_false_iff_not, Bool.not_eq_true', Bool.not_eq_false', Bool.and_eq_true, Bool.or_eq_true, Bool.and_eq_false_iff, Bool.or_eq_false_iff, Option.isNone_some, Option.isSome_some, Option.isNone_none, Option.isSome_none, Int.not_lt, Int.not_le, beq_iff_eq, beq_eq_false_iff_ne, bne_iff_ne, ne_eq, Bool.not_not, Decidable.not_not] at h18
    refine JO.pur rfl rfl rfl (Pur.move rfl) ?_
    refine JO.pur rfl rfl rfl (Pur.move rfl) ?_
    refine JO.pur rfl rfl rfl (Pur.gtr rfl rfl) ?_
    refine JO.pur rfl rfl rfl (Pur.pickF rfl rfl) ?_
    refine JO.pur rfl rfl rfl (Pur.move rfl) ?_
    refine JO.splitB 23 rfl (fun h23 => ?_) (fun h23 => ?_)
    · try simp only [decide_eq_true_eq, decide_eq_false_iff_not, Bool.not_eq_true', Bool.not_eq_false', Bool.and_eq_true, Bool.or_eq_true, Bool.and_eq_false_iff, Bool.or_eq_false_iff, Option.isNone_some, Option.isSome_some, Option.isNone_none, Option.isSome_none, Int.not_lt, Int.not_le, beq_iff_eq, beq_eq_false_iff_ne, bne_iff_ne, ne_eq, Bool.not_not, Decidable.not_not] at h23
      refine JO.no rfl rfl rfl ?_
      refine JO.no rfl rfl rfl ?_
      refine JO.pur rfl rfl rfl (Pur.pickT rfl rfl) ?_
      refine JO.pur rfl rfl rfl (Pur.assign rfl) ?_
      refine JO.nil ?_
      refine J.condT rfl rfl ?_
      refine J.seq rfl ?_
      refine J.region rfl ?_
      refine JO.pur rfl rfl rfl (Pur.assign rfl) ?_
      refine JO.pur rfl rfl rfl (Pur.assign rfl) ?_
      refine JO.nil ?_
      refine J.ret rfl rfl ?_
      have hbad : fr < 0 ∨ to < fr ∨ 400 < to := by omega
      have hv : (beginF F fr to wr) = (F, 0, 2) := by unfold beginF; rw [if_pos hbad]
      refine ⟨_, _, ⟨rfl, rfl⟩, by rw [hv]; rfl, fun h s => ?_⟩
      rw [hv]
      exact FA_mk (ab := ab) (cb := cb) (mb := mb) hr (SubC.out h s)
    · try simp only [decide_eq_true_eq, decide_eq_false_iff_not, Bool.not_eq_true', Bool.not_eq_false', Bool.and_eq_true, Bool.or_eq_true, Bool.and_eq_false_iff, Bool.or_eq_false_iff, Option.isNone_some, Option.isSome_some, Option.isNone_none, Option.isSome_none, Int.not_lt, Int.not_le, beq_iff_eq, beq_eq_false_iff_ne, bne_iff_ne, ne_eq, Bool.not_not, Decidable.not_not] at h23
      refine JO.pur rfl rfl rfl (Pur.move rfl) ?_
      refine JO.pur rfl rfl rfl (Pur.gtr rfl rfl) ?_
      refine JO.pur rfl rfl rfl (Pur.pickF rfl rfl) ?_
      refine JO.pur rfl rfl rfl (Pur.assign rfl) ?_
      refine JO.nil ?_
      refine J.splitB 15 rfl (fun h15 => ?_) (fun h15 => ?_)
      · try simp only [decide_eq_true_eq, decide_eq_false_iff_not, Bool.not_eq_true', Bool.not_eq_false', Bool.and_eq_true, Bool.or_eq_true, Bool.and_eq_false_iff, Bool.or_eq_false_iff, Option.isNone_some, Option.isSome_some, Option.isNone_none, Option.isSome_none, Int.not_lt, Int.not_le, beq_iff_eq, beq_eq_false_iff_ne, bne_iff_ne, ne_eq, Bool.not_not, Decidable.not_not] at h15
        refine J.condT rfl rfl ?_
        refine J.seq rfl ?_
        refine J.region rfl ?_
        refine JO.pur rfl rfl rfl (Pur.assign rfl) ?_
        refine JO.pur rfl rfl rfl (Pur.assign rfl) ?_
        refine JO.nil ?_
        refine J.ret rfl rfl ?_
        have hbad : fr < 0 ∨ to < fr ∨ 400 < to := by omega
        have hv : (beginF F fr to wr) = (F, 0, 2) := by unfold beginF; rw [if_pos hbad]
        refine ⟨_, _, ⟨rfl, rfl⟩, by rw [hv]; rfl, fun h s => ?_⟩
        rw [hv]
        exact FA_mk (ab := ab) (cb := cb) (mb := mb) hr (SubC.out h s)
      · try simp only [decide_eq_true_eq, decide_eq_false_iff_not, Bool.not_eq_true', Bool.not_eq_false', Bool.and_eq_true, Bool.or_eq_true, Bool.and_eq_false_iff, Bool.or_eq_false_iff, Option.isNone_some, Option.isSome_some, Option.isNone_none, Option.isSome_none, Int.not_lt, Int.not_le, beq_iff_eq, beq_eq_false_iff_ne, bne_iff_ne, ne_eq, Bool.not_not, Decidable.not_not] at h15
        refine J.condF rfl rfl ?_
        refine J.skip rfl ?_
        refine J.inBlock ?_
        refine J.seq rfl ?_
        refine J.seq rfl ?_
        refine J.region rfl ?_
        refine JO.pur rfl rfl rfl (Pur.move rfl) ?_
        refine JO.pur rfl rfl rfl (Pur.nilCheck rfl) ?_
        refine JO.pur rfl rfl rfl (Pur.fieldAddr rfl) ?_
        refine JO.pur rfl rfl rfl (Pur.load rfl (CellIn.blk rfl)) ?_
        refine JO.eff rfl rfl rfl (Eff.range rfl) ?_
        rintro _ _ ⟨i31, rfl, rfl⟩
        refine JO.nil ?_
        refine J.block rfl ?_
        refine J.loopF (ι := List Nat) (fun q => q.Nodup ∧ (∀ j ∈ q, j < F.opens.length) ∧ ∀ j ∈ q, ∀ c, F.opens[j]? = some c → busy wr fr to c = false) (fun q => []) [(0, _), (1, _), (2, _), (3, _), (31, _)] (fun q => mpIt intK mb i31 (entsC rs F.opens) q :: blk p (.cells #[.bool true, .slice ab F.bytes.length cb, .int .i64 F.next, .map (some mb)] 62) :: sl byE ab cb F.bytes :: star (chL rs F.opens) :: L) (fun q => F.opens.length - q.length) [] rfl (.cons rfl rfl (.cons rfl rfl (.cons rfl rfl (.cons rfl rfl (.cons rfl rfl .nil))))) .nil (by first | exact fun _ h => h | exact SubC.out | (dsimp only; exact SubC.out)) ⟨List.nodup_nil, by simp, by simp⟩ ?_
        rintro S ⟨hS1, hS2, hS3⟩ ih0
        try dsimp only
        refine J.seq rfl ?_
        refine J.region rfl ?_
        refine JO.eff rfl rfl rfl (Eff.next rfl) ?_
        rintro _ _ (⟨j, kk, vv, hmj, hjS, rfl, rfl⟩ | ⟨hall, rfl, rfl⟩)
        · skip
          obtain ⟨r, c, hrg, hch, rfl, rfl, hjl⟩ := ents_inv hr hmj
          have hnd : (j :: S).Nodup := List.nodup_cons.2 ⟨hjS, hS1⟩
          have hlt2 : ∀ x ∈ j :: S, x < F.opens.length := fun x hx => by rcases List.mem_cons.1 hx with rfl | hx; exact hjl; exact hS2 x hx
          refine JO.pur rfl rfl rfl (Pur.extract rfl rfl) ?_
          refine JO.nil ?_
          refine J.seq rfl ?_
          refine J.condT rfl rfl ?_
          refine J.skip rfl ?_
          refine J.block rfl ?_
          refine J.seq rfl ?_
          refine J.region rfl ?_
          refine JO.pur rfl rfl rfl (Pur.entry rfl hmj) ?_
          refine JO.pur rfl rfl rfl (Pur.extract rfl rfl) ?_
          refine JO.setv (u' := .pointer (some ⟨r.b, 0, none⟩)) 35 rfl rfl ?_
          refine JO.pur rfl rfl rfl (Pur.assign rfl) ?_
          refine JO.nil ?_
          refine J.seq rfl ?_
          refine J.imp (fun h s => ch_take (rs := rs) (cs := F.opens) (i := j) hrg hch s) ?_
          refine J.quiet rfl Try.mixed (by kernel_rfl) ?_
          refine JQ.pur rfl rfl rfl (Pur.move rfl) ?_
          refine JQ.pur rfl rfl rfl (Pur.nilCheck rfl) ?_
          refine JQ.pur rfl rfl rfl (Pur.fieldAddr rfl) ?_
          refine JQ.pur rfl rfl rfl (Pur.load rfl (CellIn.blk rfl)) ?_
          refine JQ.pur rfl rfl rfl (Pur.move rfl) ?_
          refine JQ.splitB 40 rfl (fun h40 => ?_) (fun h40 => ?_)
          · try simp only [decide_eq_true_eq, decide_eq_false_iff_not, Bool.not_eq_true', Bool.not_eq_false', Bool.and_eq_true, Bool.or_eq_true, Bool.and_eq_false_iff, Bool.or_eq_false_iff, Option.isNone_some, Option.isSome_some, Option.isNone_none, Option.isSome_none, Int.not_lt, Int.not_le, beq_iff_eq, beq_eq_false_iff_ne, bne_iff_ne, ne_eq, Bool.not_not, Decidable.not_not] at h40
            refine JQ.no rfl rfl rfl ?_
            refine JQ.pur rfl rfl rfl (Pur.pickT rfl rfl) ?_
            refine JQ.pur rfl rfl rfl (Pur.move rfl) ?_
            refine JQ.pur rfl rfl rfl (Pur.move rfl) ?_
            refine JQ.pur rfl rfl rfl (Pur.nilCheck rfl) ?_
            refine JQ.pur rfl rfl rfl (Pur.fieldAddr rfl) ?_
            refine JQ.pur rfl rfl rfl (Pur.load rfl (CellIn.blk rfl)) ?_
            refine JQ.pur rfl rfl rfl (Pur.move rfl) ?_
            refine JQ.pur rfl rfl rfl (Pur.max2 rfl rfl) ?_
            refine JQ.pur rfl rfl rfl (Pur.move rfl) ?_
            refine JQ.pur rfl rfl rfl (Pur.nilCheck rfl) ?_
            refine JQ.pur rfl rfl rfl (Pur.fieldAddr rfl) ?_
            refine JQ.pur rfl rfl rfl (Pur.load rfl (CellIn.blk rfl)) ?_
            refine JQ.pur rfl rfl rfl (Pur.move rfl) ?_
            refine JQ.pur rfl rfl rfl (Pur.min2 rfl rfl) ?_
            refine JQ.pur rfl rfl rfl (Pur.lss rfl rfl) ?_
            refine JQ.pur rfl rfl rfl (Pur.pickT rfl rfl) ?_
            refine JQ.nil ?_
            refine J.splitB 57 rfl (fun h57 => ?_) (fun h57 => ?_)
            · try simp only [decide_eq_true_eq, decide_eq_false_iff_not, Bool.not_eq_true', Bool.not_eq_false', Bool.and_eq_true, Bool.or_eq_true, Bool.and_eq_false_iff, Bool.or_eq_false_iff, Option.isNone_some, Option.isSome_some, Option.isNone_none, Option.isSome_none, Int.not_lt, Int.not_le, beq_iff_eq, beq_eq_false_iff_ne, bne_iff_ne, ne_eq, Bool.not_not, Decidable.not_not] at h57
              refine J.condT rfl rfl ?_
              refine J.seq rfl ?_
              refine J.region rfl ?_
              refine JO.pur rfl rfl rfl (Pur.assign rfl) ?_
              refine JO.pur rfl rfl rfl (Pur.assign rfl) ?_
              refine JO.nil ?_
              refine J.ret rfl rfl ?_
              have hbc : busy wr fr to c = true := by unfold busy; simp_all
              have hany : F.opens.any (busy wr fr to) = true := List.any_eq_true.2 ⟨c, List.mem_of_getElem? hch, hbc⟩
              have hv : (beginF F fr to wr) = (F, 0, 190) := by unfold beginF; rw [if_neg (by omega), if_pos hany]
              refine ⟨_, _, ⟨rfl, rfl⟩, by rw [hv]; rfl, fun h s => ?_⟩
              rw [hv]
              have s2 := ch_put (c' := c) hrg hch s
              rw [set_same hch, set_same hrg] at s2
              have s4 : Sat h (mpIt intK mb i31 (entsC rs F.opens) (j :: S) :: blk p (.cells #[.bool true, .slice ab F.bytes.length cb, .int .i64 F.next, .map (some mb)] 62) :: sl byE ab cb F.bytes :: star (chL rs F.opens) :: L) := SubC.out h s2
              have s3 := s4.cons_imp (M := blk p (.cells #[.bool true, .slice ab F.bytes.length cb, .int .i64 F.next, .map (some mb)] 62) :: sl byE ab cb F.bytes :: star (chL rs F.opens) :: L) (fun _ h => mpIt_done h) (fun _ h => h)
              exact FA_mk (ab := ab) (cb := cb) (mb := mb) hr (SubC.out h s3)
            · try simp only [decide_eq_true_eq, decide_eq_false_iff_not, Bool.not_eq_true', Bool.not_eq_false', Bool.and_eq_true, Bool.or_eq_true, Bool.and_eq_false_iff, Bool.or_eq_false_iff, Option.isNone_some, Option.isSome_some, Option.isNone_none, Option.isSome_none, Int.not_lt, Int.not_le, beq_iff_eq, beq_eq_false_iff_ne, bne_iff_ne, ne_eq, Bool.not_not, Decidable.not_not] at h57
              refine J.condF rfl rfl ?_
              refine J.skip rfl ?_
              refine J.inBlock ?_
              have hbc : busy wr fr to c = false := by unfold busy; simp_all
              have hbz : ∀ j' ∈ j :: S, ∀ c', F.opens[j']? = some c' → busy wr fr to c' = false := fun j' hj' c' hc' => by
                rcases List.mem_cons.1 hj' with rfl | hj'
                · rw [hch] at hc'; cases hc'; exact hbc
                · exact hS3 j' hj' c' hc'
              exact J.weaken (.cons rfl rfl (.cons rfl rfl (.cons rfl rfl (.cons rfl rfl (.cons rfl rfl .nil))))) (fun h s => by have s2 := ch_put (c' := c) hrg hch s; rw [set_same hch, set_same hrg] at s2; exact SubC.out h s2) (ih0 (j :: S) ⟨hnd, hlt2, hbz⟩ (by have h7 := nodup_le _ _ hnd hlt2; simp only [List.length_cons] at h7 ⊢; omega))
          · try simp only [decide_eq_true_eq, decide_eq_false_iff_not, Bool.not_eq_true', Bool.not_eq_false', Bool.and_eq_true, Bool.or_eq_true, Bool.and_eq_false_iff, Bool.or_eq_false_iff, Option.isNone_some, Option.isSome_some, Option.isNone_none, Option.isSome_none, Int.not_lt, Int.not_le, beq_iff_eq, beq_eq_false_iff_ne, bne_iff_ne, ne_eq, Bool.not_not, Decidable.not_not] at h40
            refine JQ.pur rfl rfl rfl (Pur.move rfl) ?_
            refine JQ.pur rfl rfl rfl (Pur.pickF rfl rfl) ?_
            refine JQ.pur rfl rfl rfl (Pur.move rfl) ?_
            refine JQ.splitB 43 rfl (fun h43 => ?_) (fun h43 => ?_)
            · try simp only [decide_eq_true_eq, decide_eq_false_iff_not, Bool.not_eq_true', Bool.not_eq_false', Bool.and_eq_true, Bool.or_eq_true, Bool.and_eq_false_iff, Bool.or_eq_false_iff, Option.isNone_some, Option.isSome_some, Option.isNone_none, Option.isSome_none, Int.not_lt, Int.not_le, beq_iff_eq, beq_eq_false_iff_ne, bne_iff_ne, ne_eq, Bool.not_not, Decidable.not_not] at h43
              refine JQ.pur rfl rfl rfl (Pur.move rfl) ?_
              refine JQ.pur rfl rfl rfl (Pur.nilCheck rfl) ?_
              refine JQ.pur rfl rfl rfl (Pur.fieldAddr rfl) ?_
              refine JQ.pur rfl rfl rfl (Pur.load rfl (CellIn.blk rfl)) ?_
              refine JQ.pur rfl rfl rfl (Pur.move rfl) ?_
              refine JQ.pur rfl rfl rfl (Pur.max2 rfl rfl) ?_
              refine JQ.pur rfl rfl rfl (Pur.move rfl) ?_
              refine JQ.pur rfl rfl rfl (Pur.nilCheck rfl) ?_
              refine JQ.pur rfl rfl rfl (Pur.fieldAddr rfl) ?_
              refine JQ.pur rfl rfl rfl (Pur.load rfl (CellIn.blk rfl)) ?_
              refine JQ.pur rfl rfl rfl (Pur.move rfl) ?_
              refine JQ.pur rfl rfl rfl (Pur.min2 rfl rfl) ?_
              refine JQ.pur rfl rfl rfl (Pur.lss rfl rfl) ?_
              refine JQ.pur rfl rfl rfl (Pur.pickT rfl rfl) ?_
              refine JQ.nil ?_
              refine J.splitB 57 rfl (fun h57 => ?_) (fun h57 => ?_)
              · try simp only [decide_eq_true_eq, decide_eq_false_iff_not, Bool.not_eq_true', Bool.not_eq_false', Bool.and_eq_true, Bool.or_eq_true, Bool.and_eq_false_iff, Bool.or_eq_false_iff, Option.isNone_some, Option.isSome_some, Option.isNone_none, Option.isSome_none, Int.not_lt, Int.not_le, beq_iff_eq, beq_eq_false_iff_ne, bne_iff_ne, ne_eq, Bool.not_not, Decidable.not_not] at h57
                refine J.condT rfl rfl ?_
                refine J.seq rfl ?_
                refine J.region rfl ?_
                refine JO.pur rfl rfl rfl (Pur.assign rfl) ?_
                refine JO.pur rfl rfl rfl (Pur.assign rfl) ?_
                refine JO.nil ?_
                refine J.ret rfl rfl ?_
                have hbc : busy wr fr to c = true := by unfold busy; simp_all
                have hany : F.opens.any (busy wr fr to) = true := List.any_eq_true.2 ⟨c, List.mem_of_getElem? hch, hbc⟩
                have hv : (beginF F fr to wr) = (F, 0, 190) := by unfold beginF; rw [if_neg (by omega), if_pos hany]
                refine ⟨_, _, ⟨rfl, rfl⟩, by rw [hv]; rfl, fun h s => ?_⟩
                rw [hv]
                have s2 := ch_put (c' := c) hrg hch s
                rw [set_same hch, set_same hrg] at s2
                have s4 : Sat h (mpIt intK mb i31 (entsC rs F.opens) (j :: S) :: blk p (.cells #[.bool true, .slice ab F.bytes.length cb, .int .i64 F.next, .map (some mb)] 62) :: sl byE ab cb F.bytes :: star (chL rs F.opens) :: L) := SubC.out h s2
                have s3 := s4.cons_imp (M := blk p (.cells #[.bool true, .slice ab F.bytes.length cb, .int .i64 F.next, .map (some mb)] 62) :: sl byE ab cb F.bytes :: star (chL rs F.opens) :: L) (fun _ h => mpIt_done h) (fun _ h => h)
                exact FA_mk (ab := ab) (cb := cb) (mb := mb) hr (SubC.out h s3)
              · try simp only [decide_eq_true_eq, decide_eq_false_iff_not, Bool.not_eq_true', Bool.not_eq_false', Bool.and_eq_true, Bool.or_eq_true, Bool.and_eq_false_iff, Bool.or_eq_false_iff, Option.isNone_some, Option.isSome_some, Option.isNone_none, Option.isSome_none, Int.not_lt, Int.not_le, beq_iff_eq, beq_eq_false_iff_ne, bne_iff_ne, ne_eq, Bool.not_not, Decidable.not_not] at h57
                refine J.condF rfl rfl ?_
                refine J.skip rfl ?_
                refine J.inBlock ?_
                have hbc : busy wr fr to c = false := by unfold busy; simp_all
                have hbz : ∀ j' ∈ j :: S, ∀ c', F.opens[j']? = some c' → busy wr fr to c' = false := fun j' hj' c' hc' => by
                  rcases List.mem_cons.1 hj' with rfl | hj'
                  · rw [hch] at hc'; cases hc'; exact hbc
                  · exact hS3 j' hj' c' hc'
                exact J.weaken (.cons rfl rfl (.cons rfl rfl (.cons rfl rfl (.cons rfl rfl (.cons rfl rfl .nil))))) (fun h s => by have s2 := ch_put (c' := c) hrg hch s; rw [set_same hch, set_same hrg] at s2; exact SubC.out h s2) (ih0 (j :: S) ⟨hnd, hlt2, hbz⟩ (by have h7 := nodup_le _ _ hnd hlt2; simp only [List.length_cons] at h7 ⊢; omega))
            · try simp only [decide_eq_true_eq, decide_eq_false_iff_not, Bool.not_eq_true', Bool.not_eq_false', Bool.and_eq_true, Bool.or_eq_true, Bool.and_eq_false_iff, Bool.or_eq_false_iff, Option.isNone_some, Option.isSome_some, Option.isNone_none, Option.isSome_none, Int.not_lt, Int.not_le, beq_iff_eq, beq_eq_false_iff_ne, bne_iff_ne, ne_eq, Bool.not_not, Decidable.not_not] at h43
              refine JQ.no rfl rfl rfl ?_
              refine JQ.no rfl rfl rfl ?_
              refine JQ.no rfl rfl rfl ?_
              refine JQ.no rfl rfl rfl ?_
              refine JQ.no rfl rfl rfl ?_
              refine JQ.no rfl rfl rfl ?_
              refine JQ.no rfl rfl rfl ?_
              refine JQ.no rfl rfl rfl ?_
              refine JQ.no rfl rfl rfl ?_
              refine JQ.no rfl rfl rfl ?_
              refine JQ.no rfl rfl rfl ?_
              refine JQ.no rfl rfl rfl ?_
              refine JQ.no rfl rfl rfl ?_
              refine JQ.pur rfl rfl rfl (Pur.pickF rfl rfl) ?_
              refine JQ.nil ?_
              refine J.condF rfl rfl ?_
              refine J.skip rfl ?_
              refine J.inBlock ?_
              have hbc : busy wr fr to c = false := by unfold busy; simp_all
              have hbz : ∀ j' ∈ j :: S, ∀ c', F.opens[j']? = some c' → busy wr fr to c' = false := fun j' hj' c' hc' => by
                rcases List.mem_cons.1 hj' with rfl | hj'
                · rw [hch] at hc'; cases hc'; exact hbc
                · exact hS3 j' hj' c' hc'
              exact J.weaken (.cons rfl rfl (.cons rfl rfl (.cons rfl rfl (.cons rfl rfl (.cons rfl rfl .nil))))) (fun h s => by have s2 := ch_put (c' := c) hrg hch s; rw [set_same hch, set_same hrg] at s2; exact SubC.out h s2) (ih0 (j :: S) ⟨hnd, hlt2, hbz⟩ (by have h7 := nodup_le _ _ hnd hlt2; simp only [List.length_cons] at h7 ⊢; omega))
        · skip
          have hno : F.opens.any (busy wr fr to) = false := by
            rw [List.any_eq_false]
            intro c hc
            obtain ⟨j, hj, hje⟩ := List.getElem_of_mem hc
            have := hS3 j (hall j (by rw [entsC_len hr]; exact hj)) c (by rw [← hje]; exact List.getElem?_eq_getElem hj)
            simp [this]
          refine JO.pur rfl rfl rfl (Pur.extract rfl rfl) ?_
          refine JO.nil ?_
          refine J.seq rfl ?_
          refine J.condF rfl rfl ?_
          refine J.exit rfl rfl ?_
          refine J.seq rfl ?_
          refine J.pullC (A := mpIt intK mb i31 (entsC rs F.opens) S) inferInstance ?_
          refine J.imp (fun h s => s.cons_imp (B := mp intK mb (entsC rs F.opens)) (fun _ h => mpIt_done h) (fun _ h => h)) ?_
          refine J.mask1 (n := 16) [15] rfl Try.mixed rfl (by kernel_rfl) ?_
          refine JM.take 0 (fun _ h => h.tail) rfl (by kernel_rfl) rfl rfl rfl (m' := 1) rfl (Pur.move rfl) ?_
          refine JM.take 1 (fun _ h => h.tail) rfl (by kernel_rfl) rfl rfl rfl (m' := 3) rfl (Pur.nilCheck rfl) ?_
          refine JM.take 2 (fun _ h => h.tail) rfl (by kernel_rfl) rfl rfl rfl (m' := 7) rfl (Pur.fieldAddr rfl) ?_
          refine JM.take 3 (fun _ h => h.tail) rfl (by kernel_rfl) rfl rfl rfl (m' := 15) rfl (Pur.load rfl (CellIn.blk rfl)) ?_
          refine JM.take 4 (fun _ h => h.tail) rfl (by kernel_rfl) rfl rfl rfl (m' := 31) rfl (Pur.move rfl) ?_
          refine JM.take 5 (fun _ h => h.tail) rfl (by kernel_rfl) rfl rfl rfl (m' := 63) rfl (Pur.nilCheck rfl) ?_
          refine JM.take 6 (fun _ h => h.tail) rfl (by kernel_rfl) rfl rfl rfl (m' := 127) rfl (Pur.fieldAddr rfl) ?_
          refine JM.take 7 (fun _ h => h.tail) rfl (by kernel_rfl) rfl rfl rfl (m' := 255) rfl (Pur.load rfl (CellIn.blk rfl)) ?_
          refine JM.setv (u' := .int .i64 F.next) 65 rfl rfl ?_
          refine JM.take 8 (fun _ h => h.tail) rfl (by kernel_rfl) rfl rfl rfl (m' := 511) rfl (Pur.move rfl) ?_
          refine JM.take 9 (fun _ h => h.tail) rfl (by kernel_rfl) rfl rfl rfl (m' := 1023) rfl (Pur.move rfl) ?_
          refine JM.take 10 (fun _ h => h.tail) rfl (by kernel_rfl) rfl rfl rfl (m' := 2047) rfl (Pur.move rfl) ?_
          refine JM.take 11 (fun _ h => h.tail) rfl (by kernel_rfl) rfl rfl rfl (m' := 4095) rfl (Pur.move rfl) ?_
          refine JM.take 12 (fun _ h => h.tail) rfl (by kernel_rfl) rfl rfl rfl (m' := 8191) rfl (Pur.move rfl) ?_
          refine JM.take 13 (fun _ h => h.tail) rfl (by kernel_rfl) rfl rfl rfl (m' := 16383) rfl (Pur.build (cs := [_, _, _, _, _, _, _]) rfl rfl) ?_
          refine JM.one (i := 14) (by kernel_rfl) ?_
          refine JMi.eff rfl rfl rfl rfl (m' := 32767) rfl (Eff.box (cs := [_, _, _, _, _, _, _]) rfl rfl) ?_
          rintro _ _ ⟨b72, rfl, rfl⟩
          refine ⟨.inr (fun _ h => h.tail.tail), ?_⟩
          refine JM.one (i := 15) (by kernel_rfl) ?_
          refine JMi.effN rfl rfl rfl (m' := 65535) rfl (Eff.mapUpdate (K := intK) (k := F.next) rfl rfl rfl) ?_
          rintro _ _ ⟨rfl, rfl⟩
          refine ⟨.inl (by simp), ?_⟩
          rw [aset_new g hr]
          refine JM.done rfl ?_
          refine J.seq rfl ?_
          refine J.region rfl ?_
          refine JO.pur rfl rfl rfl (Pur.move rfl) ?_
          refine JO.pur rfl rfl rfl (Pur.nilCheck rfl) ?_
          refine JO.pur rfl rfl rfl (Pur.fieldAddr rfl) ?_
          refine JO.pur rfl rfl rfl (Pur.load rfl (CellIn.blk rfl)) ?_
          refine JO.pur rfl rfl rfl (Pur.add rfl rfl (wr64 (by omega))) ?_
          refine JO.pur rfl rfl rfl (Pur.nilCheck rfl) ?_
          refine JO.pur rfl rfl rfl (Pur.fieldAddr rfl) ?_
          refine JO.effN rfl rfl (Eff.storeB rfl rfl rfl (.tail (.tail .head))) ?_
          rintro _ _ ⟨rfl, rfl⟩
          refine JO.nil ?_
          refine J.seq rfl ?_
          refine J.region rfl ?_
          refine JO.pur rfl rfl rfl (Pur.move rfl) ?_
          refine JO.pur rfl rfl rfl (Pur.nilCheck rfl) ?_
          refine JO.pur rfl rfl rfl (Pur.fieldAddr rfl) ?_
          refine JO.pur rfl rfl rfl (Pur.load rfl (CellIn.blk rfl)) ?_
          refine JO.pur rfl rfl rfl (Pur.sub rfl rfl (wr64 (by omega))) ?_
          refine JO.setv (u' := .int .i64 F.next) 84 rfl (congrArg (Value.int .i64) (by omega)) ?_
          refine JO.pur rfl rfl rfl (Pur.assign rfl) ?_
          refine JO.pur rfl rfl rfl (Pur.assign rfl) ?_
          refine JO.nil ?_
          refine J.ret rfl rfl ?_
          have hn := g.nk
          have hv : (beginF F fr to wr) = (⟨F.bytes, F.next + 1, F.opens ++ [newC F fr to wr]⟩, F.next, 0) := by unfold beginF; rw [if_neg (by omega), if_neg (by rw [hno]; simp)]
          refine ⟨_, _, ⟨rfl, rfl⟩, by rw [hv]; rfl, fun h s => ?_⟩
          rw [hv]
          have s1 : Sat h (blk b72 (.cells #[.int .i64 fr, .int .i64 to, .int .i64 fr, .bool wr, .slice none 0 0, .int .i64 fr, .slice none 0 0] 77) :: star (chL rs F.opens) :: blk p (.cells #[.bool true, .slice ab F.bytes.length cb, .int .i64 (F.next + 1), .map (some mb)] 62) :: sl byE ab cb F.bytes :: mp intK mb (entsC rs F.opens ++ [(F.next, .pointer (some ⟨b72, 0, none⟩))]) :: L) := SubC.out h s
          have s2 := sl_nil_new (E := intE) (sl_nil_new (E := byE) s1)
          have s3 : Sat h (blk b72 (.cells #[.int .i64 fr, .int .i64 to, .int .i64 fr, .bool wr, .slice none 0 0, .int .i64 fr, .slice none 0 0] 77) :: sl byE none 0 [] :: sl intE none 0 [] :: star (chL rs F.opens) :: blk p (.cells #[.bool true, .slice ab F.bytes.length cb, .int .i64 (F.next + 1), .map (some mb)] 62) :: sl byE ab cb F.bytes :: mp intK mb (entsC rs F.opens ++ [(F.next, .pointer (some ⟨b72, 0, none⟩))]) :: L) := SubC.out h s2
          have s4 := star_snoc (B := chA ⟨b72, none, 0, none, 0⟩ (newC F fr to wr)) ((Sat.star (M := [blk b72 (.cells (chC ⟨b72, none, 0, none, 0⟩ (newC F fr to wr)).toArray 77), sl byE none 0 [], sl intE none 0 []])).2 s3)
          rw [← chL_snoc hr] at s4
          refine FA_mk (F := ⟨F.bytes, F.next + 1, F.opens ++ [newC F fr to wr]⟩) (ab := ab) (cb := cb) (mb := mb) (rs := rs ++ [⟨b72, none, 0, none, 0⟩]) (by simp [hr]) ?_
          dsimp only
          rw [entsC_snoc hr, show ent ⟨b72, none, 0, none, 0⟩ (newC F fr to wr) = (F.next, .pointer (some ⟨b72, 0, none⟩)) from rfl]
          exact SubC.out h s4

end Go.Proofs.Ytgbckamaenapeaa
