/-
  A part of the proof of the claim that this folder bears.
-/
import Derived.Test.YtnhippfllgnngaaPAR
/- The text SJ4. -/
set_option linter.unusedVariables false
set_option linter.unusedSimpArgs false
set_option maxRecDepth 10000
namespace Go.Proofs.Ytnhippfllgnngaa
open Go Go.KK Dm

abbrev SpR := (List Rg × List (List Int)) × Int
def newS (rs : List Rg) : SpR := if ¬ okD rs then (([], []), 50) else ((rs, []), 0)
def denS (rs : List Rg) : SpR := if ¬ okD rs then (([], []), 50) else if 400 < cntD rs then (([], []), 4) else ((rs, idx rs), 0)
def prtS (rs : List Rg) (xss : List (List Int)) (ss : List Rg) : SpR := if ¬ (okS rs xss ∧ okD ss) then (([], []), 50) else if ss.length ≠ rs.length then (([], []), 2) else ((rs, xss.filter fun x => (hasV ss x).1), 0)
theorem s_New {L : List Asn} {a : Option Addr} {n cap : Nat} {rs : List Rg} [SlIn rgE L a rs] (hn : n = rs.length) :
    CallS Try.prog 34 [.agg #[.slice a n cap]].toArray L (fun w M => ∃ pa pc qa qc hs', w = .tuple #[.agg #[.slice pa (newS rs).1.1.length pc, .slice qa (newS rs).1.2.length qc], .int .i64 (newS rs).2] ∧ M = sl rgE pa pc (newS rs).1.1 :: sl hE qa qc hs' :: rows intE hs' (newS rs).1.2 :: L) := by
  subst hn
  refine CallS.ent ?_
  refine CallS.enter Try.func34 rfl rfl rfl rfl rfl ?_
  refine J.seq rfl ?_
  refine J.region rfl ?_
  refine JO.eff rfl rfl rfl (Eff.box (cs := [_]) rfl rfl) ?_
  rintro _ _ ⟨b1, rfl, rfl⟩
  refine JO.eff rfl rfl rfl (Eff.alloc (cs := [_, _]) rfl) ?_
  rintro _ _ ⟨b2, rfl, rfl⟩
  refine JO.pur rfl rfl rfl (Pur.assign rfl) ?_
  refine JO.nil ?_
  refine J.seq rfl ?_
  refine J.seq rfl ?_
  refine J.region rfl ?_
  refine JO.pur rfl rfl rfl (Pur.loadA rfl rfl rfl CellsIn.blk) ?_
  refine JO.effR rfl rfl rfl (Eff.call rfl (d_Valid (rs := rs) rfl)) ?_
  refine JO.pur rfl rfl rfl (Pur.not rfl) ?_
  refine JO.nil ?_
  refine J.splitB 6 rfl (fun h6 => ?_) (fun h6 => ?_)
  · try simp only [decide_eq_true_eq, decide_eq_false_iff_not, Bool.not_eq_true', Bool.not_eq_false', Bool.and_eq_true, Bool.or_eq_true, Bool.and_eq_false_iff, Bool.or_eq_false_iff, Option.isNone_some, Option.isSome_some, Option.isNone_none, Option.isSome_none, Int.not_lt, Int.not_le, beq_iff_eq, beq_eq_false_iff_ne, bne_iff_ne, ne_eq, Bool.not_not, Decidable.not_not] at h6
    have hbad : ¬ okD rs := h6
    refine J.condT rfl rfl ?_
    refine J.seq rfl ?_
    refine J.region rfl ?_
    refine JO.pur rfl rfl rfl (Pur.build (cs := [_, _]) rfl rfl) ?_
    refine JO.effN rfl rfl (Eff.storeBA (cs' := [_, _]) rfl rfl (by rfl) (by rfl) (by rfl)) ?_
    rintro _ _ ⟨rfl, rfl⟩
    refine JO.pur rfl rfl rfl (Pur.assign rfl) ?_
    refine JO.nil ?_
    refine J.retC rfl (.cell rfl (ld_agg rfl CellsIn.blk) (.tmp rfl .nil)) ?_
    have hv : newS rs = (([], []), 50) := by unfold newS; rw [if_pos hbad]
    refine ⟨_, _, ⟨none, 0, none, 0, [], rfl, rfl⟩, by rw [hv]; rfl, fun h s => ?_⟩
    rw [hv]; exact sl_nil_new (sl_nil_new (rows_nil (SubC.out h s)))
  · try simp only [decide_eq_true_eq, decide_eq_false_iff_not, Bool.not_eq_true', Bool.not_eq_false', Bool.and_eq_true, Bool.or_eq_true, Bool.and_eq_false_iff, Bool.or_eq_false_iff, Option.isNone_some, Option.isSome_some, Option.isNone_none, Option.isSome_none, Int.not_lt, Int.not_le, beq_iff_eq, beq_eq_false_iff_ne, bne_iff_ne, ne_eq, Bool.not_not, Decidable.not_not] at h6
    have hgd : okD rs := h6
    have hv : newS rs = ((rs, []), 0) := by unfold newS; rw [if_neg (not_not_intro hgd)]
    refine J.condF rfl rfl ?_
    refine J.skip rfl ?_
    refine J.seq rfl ?_
    refine J.region rfl ?_
    refine JO.pur rfl rfl rfl (Pur.loadA rfl rfl rfl CellsIn.blk) ?_
    refine JO.eff rfl rfl rfl (Eff.call rfl (cloneD (rs := rs) rfl hgd)) ?_
    rintro _ _ ⟨a9, c9, rfl, rfl⟩
    refine JO.pur rfl rfl rfl (Pur.build (cs := [_, _]) rfl rfl) ?_
    refine JO.effN rfl rfl (Eff.storeBA (cs' := [_, _]) rfl rfl (by rfl) (by rfl) (by rfl)) ?_
    rintro _ _ ⟨rfl, rfl⟩
    refine JO.pur rfl rfl rfl (Pur.assign rfl) ?_
    refine JO.nil ?_
    refine J.retC rfl (.cell rfl (ld_agg rfl CellsIn.blk) (.tmp rfl .nil)) ?_
    refine ⟨_, _, ⟨a9, c9, none, 0, [], rfl, rfl⟩, by rw [hv]; rfl, fun h s => ?_⟩
    rw [hv]
    have s2 := sl_nil_new (E := hE) (rows_nil (E := intE) s)
    exact SubC.out (L := sl hE none 0 [] :: rows intE [] [] :: _) h s2

theorem rs_New {L : List Asn} {a : Option Addr} {n cap : Nat} {rs : List Rg} [SlIn rgE L a rs] (hn : n = rs.length) :
    CallS Try.prog 35 [.agg #[.slice a n cap]].toArray L (fun w M => ∃ pa pc qa qc hs', w = .tuple #[.agg #[.slice pa (newS rs).1.1.length pc, .slice qa (newS rs).1.2.length qc], .int .i64 (newS rs).2] ∧ M = sl rgE pa pc (newS rs).1.1 :: sl hE qa qc hs' :: rows intE hs' (newS rs).1.2 :: L) := by
  subst hn
  refine CallS.ent ?_
  refine CallS.enter Try.func35 rfl rfl rfl rfl rfl ?_
  refine J.seq rfl ?_
  refine J.region rfl ?_
  refine JO.eff rfl rfl rfl (Eff.box (cs := [_]) rfl rfl) ?_
  rintro _ _ ⟨b1, rfl, rfl⟩
  refine JO.eff rfl rfl rfl (Eff.alloc (cs := [_, _]) rfl) ?_
  rintro _ _ ⟨b2, rfl, rfl⟩
  refine JO.pur rfl rfl rfl (Pur.assign rfl) ?_
  refine JO.nil ?_
  refine J.seq rfl ?_
  refine J.seq rfl ?_
  refine J.region rfl ?_
  refine JO.pur rfl rfl rfl (Pur.loadA rfl rfl rfl CellsIn.blk) ?_
  refine JO.effR rfl rfl rfl (Eff.call rfl (r_Valid (rs := rs) rfl)) ?_
  refine JO.pur rfl rfl rfl (Pur.not rfl) ?_
  refine JO.nil ?_
  refine J.splitB 6 rfl (fun h6 => ?_) (fun h6 => ?_)
  · try simp only [decide_eq_true_eq, decide_eq_false_iff_not, Bool.not_eq_true', Bool.not_eq_false', Bool.and_eq_true, Bool.or_eq_true, Bool.and_eq_false_iff, Bool.or_eq_false_iff, Option.isNone_some, Option.isSome_some, Option.isNone_none, Option.isSome_none, Int.not_lt, Int.not_le, beq_iff_eq, beq_eq_false_iff_ne, bne_iff_ne, ne_eq, Bool.not_not, Decidable.not_not] at h6
    have hbad : ¬ okD rs := h6
    refine J.condT rfl rfl ?_
    refine J.seq rfl ?_
    refine J.region rfl ?_
    refine JO.pur rfl rfl rfl (Pur.build (cs := [_, _]) rfl rfl) ?_
    refine JO.effN rfl rfl (Eff.storeBA (cs' := [_, _]) rfl rfl (by rfl) (by rfl) (by rfl)) ?_
    rintro _ _ ⟨rfl, rfl⟩
    refine JO.pur rfl rfl rfl (Pur.assign rfl) ?_
    refine JO.nil ?_
    refine J.retC rfl (.cell rfl (ld_agg rfl CellsIn.blk) (.tmp rfl .nil)) ?_
    have hv : newS rs = (([], []), 50) := by unfold newS; rw [if_pos hbad]
    refine ⟨_, _, ⟨none, 0, none, 0, [], rfl, rfl⟩, by rw [hv]; rfl, fun h s => ?_⟩
    rw [hv]; exact sl_nil_new (sl_nil_new (rows_nil (SubC.out h s)))
  · try simp only [decide_eq_true_eq, decide_eq_false_iff_not, Bool.not_eq_true', Bool.not_eq_false', Bool.and_eq_true, Bool.or_eq_true, Bool.and_eq_false_iff, Bool.or_eq_false_iff, Option.isNone_some, Option.isSome_some, Option.isNone_none, Option.isSome_none, Int.not_lt, Int.not_le, beq_iff_eq, beq_eq_false_iff_ne, bne_iff_ne, ne_eq, Bool.not_not, Decidable.not_not] at h6
    have hgd : okD rs := h6
    have hv : newS rs = ((rs, []), 0) := by unfold newS; rw [if_neg (not_not_intro hgd)]
    refine J.condF rfl rfl ?_
    refine J.skip rfl ?_
    refine J.seq rfl ?_
    refine J.region rfl ?_
    refine JO.pur rfl rfl rfl (Pur.loadA rfl rfl rfl CellsIn.blk) ?_
    refine JO.eff rfl rfl rfl (Eff.call rfl (@made_ok _ _ none _ _ 0 0 rs [] inferInstance SlIn.nil rfl rfl hgd (by simp) (by simp))) ?_
    rintro _ _ ⟨pa, pc, qa, qc, hs0, rfl, rfl⟩
    rw [made_nil]
    refine JO.effN rfl rfl (Eff.storeBA (cs' := [_, _]) rfl rfl (by rfl) (by rfl) (by rfl)) ?_
    rintro _ _ ⟨rfl, rfl⟩
    refine JO.pur rfl rfl rfl (Pur.assign rfl) ?_
    refine JO.nil ?_
    refine J.retC rfl (.cell rfl (ld_agg rfl CellsIn.blk) (.tmp rfl .nil)) ?_
    refine ⟨_, _, ⟨pa, pc, qa, qc, hs0, rfl, rfl⟩, by rw [hv]; rfl, fun h s => ?_⟩
    rw [hv]
    exact SubC.out h s

theorem s_Dense {L : List Asn} {a : Option Addr} {n cap : Nat} {rs : List Rg} [SlIn rgE L a rs] (hn : n = rs.length) :
    CallS Try.prog 36 [.agg #[.slice a n cap]].toArray L (fun w M => ∃ pa pc qa qc hs', w = .tuple #[.agg #[.slice pa (denS rs).1.1.length pc, .slice qa (denS rs).1.2.length qc], .int .i64 (denS rs).2] ∧ M = sl rgE pa pc (denS rs).1.1 :: sl hE qa qc hs' :: rows intE hs' (denS rs).1.2 :: L) := by
  subst hn
  refine CallS.ent ?_
  refine CallS.enter Try.func36 rfl rfl rfl rfl rfl ?_
  refine J.seq rfl ?_
  refine J.region rfl ?_
  refine JO.eff rfl rfl rfl (Eff.box (cs := [_]) rfl rfl) ?_
  rintro _ _ ⟨b1, rfl, rfl⟩
  refine JO.eff rfl rfl rfl (Eff.alloc (cs := [_, _]) rfl) ?_
  rintro _ _ ⟨b2, rfl, rfl⟩
  refine JO.pur rfl rfl rfl (Pur.assign rfl) ?_
  refine JO.nil ?_
  refine J.seq rfl ?_
  refine J.region rfl ?_
  refine JO.pur rfl rfl rfl (Pur.loadA rfl rfl rfl CellsIn.blk) ?_
  refine JO.eff rfl rfl rfl (Eff.call rfl (d_Indexes (rs := rs) rfl)) ?_
  rintro _ _ ⟨a8, c8, hs8, rfl, rfl⟩
  refine JO.pur rfl rfl rfl (Pur.move rfl) ?_
  refine JO.pur rfl rfl rfl (Pur.extract rfl rfl) ?_
  refine JO.pur rfl rfl rfl (Pur.extract rfl rfl) ?_
  refine JO.setv (u' := .int .i64 (erD rs)) 10 rfl rfl ?_
  refine JO.pur rfl rfl rfl (Pur.assign rfl) ?_
  refine JO.pur rfl rfl rfl (Pur.assign rfl) ?_
  refine JO.nil ?_
  refine J.seq rfl ?_
  refine J.block rfl ?_
  refine J.seq rfl ?_
  refine J.region rfl ?_
  refine JO.pur rfl rfl rfl (Pur.move rfl) ?_
  refine JO.pur rfl rfl rfl (Pur.neqI rfl rfl) ?_
  refine JO.pur rfl rfl rfl (Pur.assign rfl) ?_
  refine JO.nil ?_
  refine J.splitB 11 rfl (fun h11 => ?_) (fun h11 => ?_)
  · try simp only [decide_eq_true_eq, decide_eq_false_iff_not, Bool.not_eq_true', Bool.not_eq_false', Bool.and_eq_true, Bool.or_eq_true, Bool.and_eq_false_iff, Bool.or_eq_false_iff, Option.isNone_some, Option.isSome_some, Option.isNone_none, Option.isSome_none, Int.not_lt, Int.not_le, beq_iff_eq, beq_eq_false_iff_ne, bne_iff_ne, ne_eq, Bool.not_not, Decidable.not_not] at h11
    have hbad : ¬ okD rs := erD_ne.1 (by simpa using h11)
    refine J.condT rfl rfl ?_
    refine J.seq rfl ?_
    refine J.region rfl ?_
    refine JO.pur rfl rfl rfl (Pur.build (cs := [_, _]) rfl rfl) ?_
    refine JO.effN rfl rfl (Eff.storeBA (cs' := [_, _]) rfl rfl (by rfl) (by rfl) (by rfl)) ?_
    rintro _ _ ⟨rfl, rfl⟩
    refine JO.pur rfl rfl rfl (Pur.assign rfl) ?_
    refine JO.nil ?_
    refine J.retC rfl (.cell rfl (ld_agg rfl CellsIn.blk) (.tmp rfl .nil)) ?_
    have hv : denS rs = (([], []), 50) := by unfold denS; rw [if_pos hbad]
    refine ⟨_, _, ⟨none, 0, none, 0, [], rfl, rfl⟩, by rw [hv]; rfl, fun h s => ?_⟩
    rw [hv]; exact sl_nil_new (sl_nil_new (rows_nil (SubC.out h s)))
  · try simp only [decide_eq_true_eq, decide_eq_false_iff_not, Bool.not_eq_true', Bool.not_eq_false', Bool.and_eq_true, Bool.or_eq_true, Bool.and_eq_false_iff, Bool.or_eq_false_iff, Option.isNone_some, Option.isSome_some, Option.isNone_none, Option.isSome_none, Int.not_lt, Int.not_le, beq_iff_eq, beq_eq_false_iff_ne, bne_iff_ne, ne_eq, Bool.not_not, Decidable.not_not] at h11
    have hgd : okD rs := by
      by_cases g : okD rs
      · exact g
      · exact absurd (erD_ne.2 g) (by simpa using h11)
    have hv0 : ixsV rs = idx rs := by unfold ixsV; rw [if_pos hgd]
    have hil : (ixsV rs).length = cntD rs := by rw [hv0, idx_len]
    refine J.condF rfl rfl ?_
    refine J.seq rfl ?_
    refine J.region rfl ?_
    refine JO.pur rfl rfl rfl (Pur.move rfl) ?_
    refine JO.pur rfl rfl rfl (Pur.len rfl) ?_
    refine JO.pur rfl rfl rfl (Pur.gtr rfl rfl) ?_
    refine JO.pur rfl rfl rfl (Pur.assign rfl) ?_
    refine JO.nil ?_
    refine J.splitB 15 rfl (fun h15 => ?_) (fun h15 => ?_)
    · try simp only [decide_eq_true_eq, decide_eq_false_iff_not, Bool.not_eq_true', Bool.not_eq_false', Bool.and_eq_true, Bool.or_eq_true, Bool.and_eq_false_iff, Bool.or_eq_false_iff, Option.isNone_some, Option.isSome_some, Option.isNone_none, Option.isSome_none, Int.not_lt, Int.not_le, beq_iff_eq, beq_eq_false_iff_ne, bne_iff_ne, ne_eq, Bool.not_not, Decidable.not_not] at h15
      have hbig : 400 < cntD rs := by omega
      refine J.condT rfl rfl ?_
      refine J.seq rfl ?_
      refine J.region rfl ?_
      refine JO.pur rfl rfl rfl (Pur.build (cs := [_, _]) rfl rfl) ?_
      refine JO.effN rfl rfl (Eff.storeBA (cs' := [_, _]) rfl rfl (by rfl) (by rfl) (by rfl)) ?_
      rintro _ _ ⟨rfl, rfl⟩
      refine JO.pur rfl rfl rfl (Pur.assign rfl) ?_
      refine JO.nil ?_
      refine J.retC rfl (.cell rfl (ld_agg rfl CellsIn.blk) (.tmp rfl .nil)) ?_
      have hv : denS rs = (([], []), 4) := by unfold denS; rw [if_neg (not_not_intro hgd), if_pos hbig]
      refine ⟨_, _, ⟨none, 0, none, 0, [], rfl, rfl⟩, by rw [hv]; rfl, fun h s => ?_⟩
      rw [hv]; exact sl_nil_new (sl_nil_new (rows_nil (SubC.out h s)))
    · try simp only [decide_eq_true_eq, decide_eq_false_iff_not, Bool.not_eq_true', Bool.not_eq_false', Bool.and_eq_true, Bool.or_eq_true, Bool.and_eq_false_iff, Bool.or_eq_false_iff, Option.isNone_some, Option.isSome_some, Option.isNone_none, Option.isSome_none, Int.not_lt, Int.not_le, beq_iff_eq, beq_eq_false_iff_ne, bne_iff_ne, ne_eq, Bool.not_not, Decidable.not_not] at h15
      have hsm : ¬ 400 < cntD rs := by omega
      refine J.condF rfl rfl ?_
      refine J.skip rfl ?_
      refine J.inBlock ?_
      refine J.seq rfl ?_
      refine J.region rfl ?_
      refine JO.pur rfl rfl rfl (Pur.loadA rfl rfl rfl CellsIn.blk) ?_
      refine JO.eff rfl rfl rfl (Eff.call rfl (cloneD (rs := rs) rfl hgd)) ?_
      rintro _ _ ⟨a21, c21, rfl, rfl⟩
      refine JO.pur rfl rfl rfl (Pur.move rfl) ?_
      refine JO.pur rfl rfl rfl (Pur.build (cs := [_, _]) rfl rfl) ?_
      refine JO.effN rfl rfl (Eff.storeBA (cs' := [_, _]) rfl rfl (by rfl) (by rfl) (by rfl)) ?_
      rintro _ _ ⟨rfl, rfl⟩
      refine JO.pur rfl rfl rfl (Pur.assign rfl) ?_
      refine JO.nil ?_
      refine J.retC rfl (.cell rfl (ld_agg rfl CellsIn.blk) (.tmp rfl .nil)) ?_
      have hv : denS rs = ((rs, idx rs), 0) := by unfold denS; rw [if_neg (not_not_intro hgd), if_neg hsm]
      refine ⟨_, _, ⟨a21, c21, a8, c8, hs8, rfl, rfl⟩, by rw [hv, hv0]; rfl, fun h s => ?_⟩
      rw [hv0] at s
      rw [hv]
      exact SubC.out h s

theorem rs_Dense {L : List Asn} {a : Option Addr} {n cap : Nat} {rs : List Rg} [SlIn rgE L a rs] (hn : n = rs.length) :
    CallS Try.prog 37 [.agg #[.slice a n cap]].toArray L (fun w M => ∃ pa pc qa qc hs', w = .tuple #[.agg #[.slice pa (denS rs).1.1.length pc, .slice qa (denS rs).1.2.length qc], .int .i64 (denS rs).2] ∧ M = sl rgE pa pc (denS rs).1.1 :: sl hE qa qc hs' :: rows intE hs' (denS rs).1.2 :: L) := by
  subst hn
  refine CallS.ent ?_
  refine CallS.enter Try.func37 rfl rfl rfl rfl rfl ?_
  refine J.seq rfl ?_
  refine J.region rfl ?_
  refine JO.eff rfl rfl rfl (Eff.box (cs := [_]) rfl rfl) ?_
  rintro _ _ ⟨b1, rfl, rfl⟩
  refine JO.eff rfl rfl rfl (Eff.alloc (cs := [_, _]) rfl) ?_
  rintro _ _ ⟨b2, rfl, rfl⟩
  refine JO.pur rfl rfl rfl (Pur.assign rfl) ?_
  refine JO.nil ?_
  refine J.seq rfl ?_
  refine J.seq rfl ?_
  refine J.region rfl ?_
  refine JO.pur rfl rfl rfl (Pur.loadA rfl rfl rfl CellsIn.blk) ?_
  refine JO.effR rfl rfl rfl (Eff.call rfl (r_Valid (rs := rs) rfl)) ?_
  refine JO.pur rfl rfl rfl (Pur.not rfl) ?_
  refine JO.nil ?_
  refine J.splitB 10 rfl (fun h10 => ?_) (fun h10 => ?_)
  · try simp only [decide_eq_true_eq, decide_eq_false_iff_not, Bool.not_eq_true', Bool.not_eq_false', Bool.and_eq_true, Bool.or_eq_true, Bool.and_eq_false_iff, Bool.or_eq_false_iff, Option.isNone_some, Option.isSome_some, Option.isNone_none, Option.isSome_none, Int.not_lt, Int.not_le, beq_iff_eq, beq_eq_false_iff_ne, bne_iff_ne, ne_eq, Bool.not_not, Decidable.not_not] at h10
    have hbad : ¬ okD rs := h10
    refine J.condT rfl rfl ?_
    refine J.seq rfl ?_
    refine J.region rfl ?_
    refine JO.pur rfl rfl rfl (Pur.build (cs := [_, _]) rfl rfl) ?_
    refine JO.effN rfl rfl (Eff.storeBA (cs' := [_, _]) rfl rfl (by rfl) (by rfl) (by rfl)) ?_
    rintro _ _ ⟨rfl, rfl⟩
    refine JO.pur rfl rfl rfl (Pur.assign rfl) ?_
    refine JO.nil ?_
    refine J.retC rfl (.cell rfl (ld_agg rfl CellsIn.blk) (.tmp rfl .nil)) ?_
    have hv : denS rs = (([], []), 50) := by unfold denS; rw [if_pos hbad]
    refine ⟨_, _, ⟨none, 0, none, 0, [], rfl, rfl⟩, by rw [hv]; rfl, fun h s => ?_⟩
    rw [hv]; exact sl_nil_new (sl_nil_new (rows_nil (SubC.out h s)))
  · try simp only [decide_eq_true_eq, decide_eq_false_iff_not, Bool.not_eq_true', Bool.not_eq_false', Bool.and_eq_true, Bool.or_eq_true, Bool.and_eq_false_iff, Bool.or_eq_false_iff, Option.isNone_some, Option.isSome_some, Option.isNone_none, Option.isSome_none, Int.not_lt, Int.not_le, beq_iff_eq, beq_eq_false_iff_ne, bne_iff_ne, ne_eq, Bool.not_not, Decidable.not_not] at h10
    have hgd : okD rs := h10
    have hct : ctV rs = ((cntD rs : Nat) : Int) := by unfold ctV; rw [if_pos hgd]
    refine J.condF rfl rfl ?_
    refine J.skip rfl ?_
    refine J.seq rfl ?_
    refine J.region rfl ?_
    refine JO.pur rfl rfl rfl (Pur.loadA rfl rfl rfl CellsIn.blk) ?_
    refine JO.effR rfl rfl rfl (Eff.call rfl (r_Count (rs := rs) rfl)) ?_
    refine JO.pur rfl rfl rfl (Pur.move rfl) ?_
    refine JO.pur rfl rfl rfl (Pur.extract rfl rfl) ?_
    refine JO.setv (u' := .int .i64 ((cntD rs : Nat) : Int)) 15 rfl (congrArg (Value.int .i64) hct) ?_
    refine JO.pur rfl rfl rfl (Pur.extract rfl rfl) ?_
    refine JO.pur rfl rfl rfl (Pur.assign rfl) ?_
    refine JO.pur rfl rfl rfl (Pur.assign rfl) ?_
    refine JO.nil ?_
    refine J.seq rfl ?_
    refine J.seq rfl ?_
    refine J.region rfl ?_
    refine JO.pur rfl rfl rfl (Pur.move rfl) ?_
    refine JO.pur rfl rfl rfl (Pur.gtr rfl rfl) ?_
    refine JO.nil ?_
    refine J.splitB 18 rfl (fun h18 => ?_) (fun h18 => ?_)
    · try simp only [decide_eq_true_eq, decide_eq_false_iff_not, Bool.not_eq_true', Bool.not_eq_false', Bool.and_eq_true, Bool.or_eq_true, Bool.and_eq_false_iff, Bool.or_eq_false_iff, Option.isNone_some, Option.isSome_some, Option.isNone_none, Option.isSome_none, Int.not_lt, Int.not_le, beq_iff_eq, beq_eq_false_iff_ne, bne_iff_ne, ne_eq, Bool.not_not, Decidable.not_not] at h18
      have hbig : 400 < cntD rs := by omega
      refine J.condT rfl rfl ?_
      refine J.seq rfl ?_
      refine J.region rfl ?_
      refine JO.pur rfl rfl rfl (Pur.build (cs := [_, _]) rfl rfl) ?_
      refine JO.effN rfl rfl (Eff.storeBA (cs' := [_, _]) rfl rfl (by rfl) (by rfl) (by rfl)) ?_
      rintro _ _ ⟨rfl, rfl⟩
      refine JO.pur rfl rfl rfl (Pur.assign rfl) ?_
      refine JO.nil ?_
      refine J.retC rfl (.cell rfl (ld_agg rfl CellsIn.blk) (.tmp rfl .nil)) ?_
      have hv : denS rs = (([], []), 4) := by unfold denS; rw [if_neg (not_not_intro hgd), if_pos hbig]
      refine ⟨_, _, ⟨none, 0, none, 0, [], rfl, rfl⟩, by rw [hv]; rfl, fun h s => ?_⟩
      rw [hv]; exact sl_nil_new (sl_nil_new (rows_nil (SubC.out h s)))
    · try simp only [decide_eq_true_eq, decide_eq_false_iff_not, Bool.not_eq_true', Bool.not_eq_false', Bool.and_eq_true, Bool.or_eq_true, Bool.and_eq_false_iff, Bool.or_eq_false_iff, Option.isNone_some, Option.isSome_some, Option.isNone_none, Option.isSome_none, Int.not_lt, Int.not_le, beq_iff_eq, beq_eq_false_iff_ne, bne_iff_ne, ne_eq, Bool.not_not, Decidable.not_not] at h18
      have hsm : ¬ 400 < cntD rs := by omega
      refine J.condF rfl rfl ?_
      refine J.skip rfl ?_
      refine J.seq rfl ?_
      refine J.region rfl ?_
      refine JO.pur rfl rfl rfl (Pur.assign rfl) ?_
      refine JO.nil ?_
      refine J.seq rfl ?_
      refine J.seq rfl ?_
      refine J.region rfl ?_
      refine JO.pur rfl rfl rfl (Pur.assign rfl) ?_
      refine JO.nil ?_
      refine J.block rfl ?_
      refine J.loopF (ι := Nat × Option Addr × Nat) (fun q => q.1 ≤ cntD rs) (fun q => [(6, .slice q.2.1 q.1 q.2.2), (7, .int .i64 (q.1 : Int))]) [(1, _), (2, _), (4, _)] (fun q => sl intE q.2.1 q.2.2 ((List.range q.1).map fun (i : Nat) => (i : Int)) :: blk b1 (.cells #[.slice a rs.length cap] 24) :: blk b2 (.cells #[.slice none 0 0, .slice none 0 0] 27) :: L) (fun q => cntD rs - q.1) (0, none, 0) rfl (.cons rfl rfl (.cons rfl rfl (.cons rfl rfl .nil))) (.cons rfl rfl (.cons rfl rfl .nil)) (fun h s => by have s2 := sl_nil_new (E := intE) s; exact SubC.out (L := sl intE none 0 [] :: _) (M := sl intE none 0 [] :: _) h s2) (Nat.zero_le _) ?_
      rintro ⟨k, a0, c0⟩ hk ih0
      try dsimp only
      dsimp only at hk
      refine J.seq rfl ?_
      refine J.seq rfl ?_
      refine J.region rfl ?_
      refine JO.pur rfl rfl rfl (Pur.move rfl) ?_
      refine JO.pur rfl rfl rfl (Pur.move rfl) ?_
      refine JO.pur rfl rfl rfl (Pur.lss rfl rfl) ?_
      refine JO.nil ?_
      refine J.splitB 22 rfl (fun h22 => ?_) (fun h22 => ?_)
      · try simp only [decide_eq_true_eq, decide_eq_false_iff_not, Bool.not_eq_true', Bool.not_eq_false', Bool.and_eq_true, Bool.or_eq_true, Bool.and_eq_false_iff, Bool.or_eq_false_iff, Option.isNone_some, Option.isSome_some, Option.isNone_none, Option.isSome_none, Int.not_lt, Int.not_le, beq_iff_eq, beq_eq_false_iff_ne, bne_iff_ne, ne_eq, Bool.not_not, Decidable.not_not] at h22
        have hkl : k < cntD rs := by omega
        refine J.condT rfl rfl ?_
        refine J.skip rfl ?_
        refine J.seq rfl ?_
        refine J.block rfl ?_
        refine J.region rfl ?_
        refine JO.pur rfl rfl rfl (Pur.move rfl) ?_
        refine JO.pur rfl rfl rfl (Pur.move rfl) ?_
        refine JO.eff rfl rfl rfl (Eff.buildSlice intE [(k : Int)] rfl rfl rfl rfl rfl rfl rfl) ?_
        rintro _ _ ⟨b27, rfl, -, rfl⟩
        refine JO.eff rfl rfl rfl (Eff.append rfl rfl rfl rfl (by first | rfl | omega | (simp; done) | (simp; omega)) (by first | rfl | omega | (simp; done) | (simp; omega)) (by decide) (by simp; omega) (by simp; omega) (fun h => by cases h)) ?_
        rintro _ _ ⟨a28, c28, rfl, rfl⟩
        refine JO.pur rfl rfl rfl (Pur.assign rfl) ?_
        refine JO.nil ?_
        refine J.inBlock ?_
        refine J.region rfl ?_
        refine JO.pur rfl rfl rfl (Pur.move rfl) ?_
        refine JO.pur rfl rfl rfl (Pur.add rfl rfl (wr64 (by omega))) ?_
        refine JO.pur rfl rfl rfl (Pur.assign rfl) ?_
        refine JO.nil ?_
        exact J.weaken (.cons rfl (by show Value.slice a28 _ c28 = Value.slice a28 (k + 1) c28; simp) (.cons rfl (congrArg (Value.int .i64) (by first | rfl | (dsimp only; omega))) (.cons rfl rfl (.cons rfl rfl (.cons rfl rfl .nil))))) (fun h s => by dsimp only; rw [List.range_succ, List.map_append, List.map_cons, List.map_nil]; exact SubC.out h s) (ih0 (k + 1, a28, c28) (by dsimp only; omega) (by dsimp only; omega))
      · try simp only [decide_eq_true_eq, decide_eq_false_iff_not, Bool.not_eq_true', Bool.not_eq_false', Bool.and_eq_true, Bool.or_eq_true, Bool.and_eq_false_iff, Bool.or_eq_false_iff, Option.isNone_some, Option.isSome_some, Option.isNone_none, Option.isSome_none, Int.not_lt, Int.not_le, beq_iff_eq, beq_eq_false_iff_ne, bne_iff_ne, ne_eq, Bool.not_not, Decidable.not_not] at h22
        have hke : k = cntD rs := by omega
        have hkl : k ≤ 400 := by omega
        refine J.condF rfl rfl ?_
        refine J.exit rfl rfl ?_
        refine J.seq rfl ?_
        refine J.region rfl ?_
        refine JO.pur rfl rfl rfl (Pur.loadA rfl rfl rfl CellsIn.blk) ?_
        refine JO.pur rfl rfl rfl (Pur.move rfl) ?_
        refine JO.eff rfl rfl rfl (Eff.call rfl (made_ok (rs := rs) (ts := ((List.range k).map fun (i : Nat) => (i : Int))) rfl (by simp) hgd (by simp; omega) (fun t ht => by obtain ⟨i, hi, rfl⟩ := List.mem_map.1 ht; have := List.mem_range.1 hi; omega))) ?_
        rintro _ _ ⟨pa, pc, qa, qc, hs0, rfl, rfl⟩
        rw [hke, made_all]
        refine JO.effN rfl rfl (Eff.storeBA (cs' := [_, _]) rfl rfl (by rfl) (by rfl) (by rfl)) ?_
        rintro _ _ ⟨rfl, rfl⟩
        refine JO.pur rfl rfl rfl (Pur.assign rfl) ?_
        refine JO.nil ?_
        refine J.retC rfl (.cell rfl (ld_agg rfl CellsIn.blk) (.tmp rfl .nil)) ?_
        have hv : denS rs = ((rs, idx rs), 0) := by unfold denS; rw [if_neg (not_not_intro hgd), if_neg hsm]
        refine ⟨_, _, ⟨pa, pc, qa, qc, hs0, rfl, rfl⟩, by rw [hv]; rfl, fun h s => ?_⟩
        rw [hv]
        exact SubC.out h s

theorem part_cl {L : List Asn} {b ya : Option Addr} {m cq yn yc bx : Nat} {ss : List Rg} {y : List Int} [hr : SlIn rgE L b ss] [hy : SlIn intE L ya y] [hbx : BlkIn L bx (.cells #[.slice b m cq] 24)] (hm : m = ss.length) (hyn : yn = y.length) :
    CallS Try.prog 100 [.slice ya yn yc, .pointer (some ⟨bx, 0, none⟩)].toArray L (fun v M => v = .bool (hasV ss y).1 ∧ M = L) := by
  refine CallS.ent ?_
  refine CallS.enter Try.func100 rfl rfl rfl rfl rfl ?_
  refine J.seq rfl ?_
  refine J.region rfl ?_
  refine JO.pur rfl rfl rfl (Pur.assign rfl) ?_
  refine JO.nil ?_
  refine J.seq rfl ?_
  refine J.region rfl ?_
  refine JO.pur rfl rfl rfl (Pur.loadA rfl rfl rfl CellsIn.blk) ?_
  refine JO.pur rfl rfl rfl (Pur.move rfl) ?_
  refine JO.effR rfl rfl rfl (Eff.call rfl (d_Has (rs := ss) (x := y) hm hyn)) ?_
  refine JO.pur rfl rfl rfl (Pur.move rfl) ?_
  refine JO.pur rfl rfl rfl (Pur.extract rfl rfl) ?_
  refine JO.pur rfl rfl rfl (Pur.extract rfl rfl) ?_
  refine JO.pur rfl rfl rfl (Pur.assign rfl) ?_
  refine JO.pur rfl rfl rfl (Pur.assign rfl) ?_
  refine JO.nil ?_
  refine J.seq rfl ?_
  refine J.region rfl ?_
  refine JO.pur rfl rfl rfl (Pur.move rfl) ?_
  refine JO.pur rfl rfl rfl (Pur.assign rfl) ?_
  refine JO.nil ?_
  refine J.ret rfl rfl ?_
  refine ⟨_, _, ⟨rfl, rfl⟩, rfl, SubC.out⟩

theorem s_Part {L : List Asn} {a la b : Option Addr} {n cap ln lc m cq : Nat} {rs ss : List Rg} {hs : List Hdr} {xss : List (List Int)} [SlIn rgE L a rs] [SlIn hE L la hs] [RowsR intE L hs xss] [SlIn rgE L b ss] (hn : n = rs.length) (hl : ln = hs.length) (hm : m = ss.length) :
    CallS Try.prog 32 [.agg #[.slice a n cap, .slice la ln lc], .agg #[.slice b m cq]].toArray L (fun w M => ∃ pa pc qa qc hs', w = .tuple #[.agg #[.slice pa (prtS rs xss ss).1.1.length pc, .slice qa (prtS rs xss ss).1.2.length qc], .int .i64 (prtS rs xss ss).2] ∧ M = sl rgE pa pc (prtS rs xss ss).1.1 :: sl hE qa qc hs' :: rows intE hs' (prtS rs xss ss).1.2 :: L) := by
  subst hn
  subst hl
  subst hm
  refine CallS.fact (fun h s => RowsR.len (E := intE) (hs := hs) (xss := xss) s) fun hnn => ?_
  have hhl : hs.length = xss.length := rows_len hnn
  refine CallS.ent ?_
  refine CallS.enter Try.func32 rfl rfl rfl rfl rfl ?_
  refine J.seq rfl ?_
  refine J.region rfl ?_
  refine JO.eff rfl rfl rfl (Eff.box (cs := [_, _]) rfl rfl) ?_
  rintro _ _ ⟨b2, rfl, rfl⟩
  refine JO.eff rfl rfl rfl (Eff.box (cs := [_]) rfl rfl) ?_
  rintro _ _ ⟨b3, rfl, rfl⟩
  refine JO.eff rfl rfl rfl (Eff.alloc (cs := [_, _]) rfl) ?_
  rintro _ _ ⟨b4, rfl, rfl⟩
  refine JO.pur rfl rfl rfl (Pur.assign rfl) ?_
  refine JO.nil ?_
  refine J.seq rfl ?_
  refine J.block rfl ?_
  refine J.seq rfl ?_
  refine J.region rfl ?_
  refine JO.pur rfl rfl rfl (Pur.loadA rfl rfl rfl CellsIn.blk) ?_
  refine JO.effR rfl rfl rfl (Eff.call rfl (s_Valid (rs := rs) (hs := hs) (xss := xss) rfl rfl)) ?_
  refine JO.pur rfl rfl rfl (Pur.not rfl) ?_
  refine JO.pur rfl rfl rfl (Pur.move rfl) ?_
  refine JO.splitB 10 rfl (fun h10 => ?_) (fun h10 => ?_)
  · try simp only [decide_eq_true_eq, decide_eq_false_iff_not, Bool.not_eq_true', Bool.not_eq_false', Bool.and_eq_true, Bool.or_eq_true, Bool.and_eq_false_iff, Bool.or_eq_false_iff, Option.isNone_some, Option.isSome_some, Option.isNone_none, Option.isSome_none, Int.not_lt, Int.not_le, beq_iff_eq, beq_eq_false_iff_ne, bne_iff_ne, ne_eq, Bool.not_not, Decidable.not_not] at h10
    have hns : ¬ okS rs xss := h10
    refine JO.no rfl rfl rfl ?_
    refine JO.no rfl rfl rfl ?_
    refine JO.no rfl rfl rfl ?_
    refine JO.pur rfl rfl rfl (Pur.pickT rfl rfl) ?_
    refine JO.pur rfl rfl rfl (Pur.assign rfl) ?_
    refine JO.nil ?_
    refine J.condT rfl rfl ?_
    refine J.seq rfl ?_
    refine J.region rfl ?_
    refine JO.pur rfl rfl rfl (Pur.build (cs := [_, _]) rfl rfl) ?_
    refine JO.effN rfl rfl (Eff.storeBA (cs' := [_, _]) rfl rfl (by rfl) (by rfl) (by rfl)) ?_
    rintro _ _ ⟨rfl, rfl⟩
    refine JO.pur rfl rfl rfl (Pur.assign rfl) ?_
    refine JO.nil ?_
    refine J.retC rfl (.cell rfl (ld_agg rfl CellsIn.blk) (.tmp rfl .nil)) ?_
    have hv : prtS rs xss ss = (([], []), 50) := by unfold prtS; rw [if_pos (fun g => hns g.1)]
    refine ⟨_, _, ⟨none, 0, none, 0, [], rfl, rfl⟩, by rw [hv]; rfl, fun h s => ?_⟩
    rw [hv]; exact sl_nil_new (sl_nil_new (rows_nil (SubC.out h s)))
  · try simp only [decide_eq_true_eq, decide_eq_false_iff_not, Bool.not_eq_true', Bool.not_eq_false', Bool.and_eq_true, Bool.or_eq_true, Bool.and_eq_false_iff, Bool.or_eq_false_iff, Option.isNone_some, Option.isSome_some, Option.isNone_none, Option.isSome_none, Int.not_lt, Int.not_le, beq_iff_eq, beq_eq_false_iff_ne, bne_iff_ne, ne_eq, Bool.not_not, Decidable.not_not] at h10
    have hs0 : okS rs xss := h10
    have hrow : ∀ y ∈ xss, y.length ≤ 1000 := fun y hy => by have := okS_len hs0 hy; have := hs0.1.2.1; omega
    refine JO.pur rfl rfl rfl (Pur.loadA rfl rfl rfl CellsIn.blk) ?_
    refine JO.effR rfl rfl rfl (Eff.call rfl (d_Valid (rs := ss) rfl)) ?_
    refine JO.pur rfl rfl rfl (Pur.not rfl) ?_
    refine JO.pur rfl rfl rfl (Pur.pickF rfl rfl) ?_
    refine JO.pur rfl rfl rfl (Pur.assign rfl) ?_
    refine JO.nil ?_
    refine J.splitB 6 rfl (fun h6 => ?_) (fun h6 => ?_)
    · try simp only [decide_eq_true_eq, decide_eq_false_iff_not, Bool.not_eq_true', Bool.not_eq_false', Bool.and_eq_true, Bool.or_eq_true, Bool.and_eq_false_iff, Bool.or_eq_false_iff, Option.isNone_some, Option.isSome_some, Option.isNone_none, Option.isSome_none, Int.not_lt, Int.not_le, beq_iff_eq, beq_eq_false_iff_ne, bne_iff_ne, ne_eq, Bool.not_not, Decidable.not_not] at h6
      have hnd : ¬ okD ss := h6
      refine J.condT rfl rfl ?_
      refine J.seq rfl ?_
      refine J.region rfl ?_
      refine JO.pur rfl rfl rfl (Pur.build (cs := [_, _]) rfl rfl) ?_
      refine JO.effN rfl rfl (Eff.storeBA (cs' := [_, _]) rfl rfl (by rfl) (by rfl) (by rfl)) ?_
      rintro _ _ ⟨rfl, rfl⟩
      refine JO.pur rfl rfl rfl (Pur.assign rfl) ?_
      refine JO.nil ?_
      refine J.retC rfl (.cell rfl (ld_agg rfl CellsIn.blk) (.tmp rfl .nil)) ?_
      have hv : prtS rs xss ss = (([], []), 50) := by unfold prtS; rw [if_pos (fun g => hnd g.2)]
      refine ⟨_, _, ⟨none, 0, none, 0, [], rfl, rfl⟩, by rw [hv]; rfl, fun h s => ?_⟩
      rw [hv]; exact sl_nil_new (sl_nil_new (rows_nil (SubC.out h s)))
    · try simp only [decide_eq_true_eq, decide_eq_false_iff_not, Bool.not_eq_true', Bool.not_eq_false', Bool.and_eq_true, Bool.or_eq_true, Bool.and_eq_false_iff, Bool.or_eq_false_iff, Option.isNone_some, Option.isSome_some, Option.isNone_none, Option.isSome_none, Int.not_lt, Int.not_le, beq_iff_eq, beq_eq_false_iff_ne, bne_iff_ne, ne_eq, Bool.not_not, Decidable.not_not] at h6
      have hd0 : okD ss := h6
      refine J.condF rfl rfl ?_
      refine J.seq rfl ?_
      refine J.region rfl ?_
      refine JO.pur rfl rfl rfl (Pur.fieldAddr rfl) ?_
      refine JO.pur rfl rfl rfl (Pur.load rfl (CellIn.blk rfl)) ?_
      refine JO.pur rfl rfl rfl (Pur.len rfl) ?_
      refine JO.pur rfl rfl rfl (Pur.fieldAddr rfl) ?_
      refine JO.pur rfl rfl rfl (Pur.fieldAddr rfl) ?_
      refine JO.pur rfl rfl rfl (Pur.load rfl (CellIn.blk rfl)) ?_
      refine JO.pur rfl rfl rfl (Pur.len rfl) ?_
      refine JO.pur rfl rfl rfl (Pur.neqI rfl rfl) ?_
      refine JO.pur rfl rfl rfl (Pur.assign rfl) ?_
      refine JO.nil ?_
      refine J.splitB 16 rfl (fun h16 => ?_) (fun h16 => ?_)
      · try simp only [decide_eq_true_eq, decide_eq_false_iff_not, Bool.not_eq_true', Bool.not_eq_false', Bool.and_eq_true, Bool.or_eq_true, Bool.and_eq_false_iff, Bool.or_eq_false_iff, Option.isNone_some, Option.isSome_some, Option.isNone_none, Option.isSome_none, Int.not_lt, Int.not_le, beq_iff_eq, beq_eq_false_iff_ne, bne_iff_ne, ne_eq, Bool.not_not, Decidable.not_not] at h16
        have hle : ss.length ≠ rs.length := by omega
        refine J.condT rfl rfl ?_
        refine J.seq rfl ?_
        refine J.region rfl ?_
        refine JO.pur rfl rfl rfl (Pur.build (cs := [_, _]) rfl rfl) ?_
        refine JO.effN rfl rfl (Eff.storeBA (cs' := [_, _]) rfl rfl (by rfl) (by rfl) (by rfl)) ?_
        rintro _ _ ⟨rfl, rfl⟩
        refine JO.pur rfl rfl rfl (Pur.assign rfl) ?_
        refine JO.nil ?_
        refine J.retC rfl (.cell rfl (ld_agg rfl CellsIn.blk) (.tmp rfl .nil)) ?_
        have hv : prtS rs xss ss = (([], []), 2) := by unfold prtS; rw [if_neg (not_not_intro ⟨hs0, hd0⟩), if_pos hle]
        refine ⟨_, _, ⟨none, 0, none, 0, [], rfl, rfl⟩, by rw [hv]; rfl, fun h s => ?_⟩
        rw [hv]; exact sl_nil_new (sl_nil_new (rows_nil (SubC.out h s)))
      · try simp only [decide_eq_true_eq, decide_eq_false_iff_not, Bool.not_eq_true', Bool.not_eq_false', Bool.and_eq_true, Bool.or_eq_true, Bool.and_eq_false_iff, Bool.or_eq_false_iff, Option.isNone_some, Option.isSome_some, Option.isNone_none, Option.isSome_none, Int.not_lt, Int.not_le, beq_iff_eq, beq_eq_false_iff_ne, bne_iff_ne, ne_eq, Bool.not_not, Decidable.not_not] at h16
        have hle : ss.length = rs.length := by omega
        refine J.condF rfl rfl ?_
        refine J.skip rfl ?_
        refine J.inBlock ?_
        refine J.seq rfl ?_
        refine J.region rfl ?_
        refine JO.pur rfl rfl rfl (Pur.loadA rfl rfl rfl CellsIn.blk) ?_
        refine JO.pur rfl rfl rfl (Pur.makeFunc rfl rfl) ?_
        refine JO.eff rfl rfl rfl (Eff.call rfl (some_ok (g := 100) (caps := [.pointer (some ⟨b3, 0, none⟩)]) (p := fun x => (hasV ss x).1) (rs := rs) (hs := hs) (xss := xss) rfl rfl hs0.1 hs0.2.1 hrow (fun {M ya yc y} hym hyi hmm => part_cl (ss := ss) (y := y) (m := ss.length) (cq := cq) (b := b) (hr := SlIn.lift inferInstance hmm) (hy := hyi) (hbx := BlkIn.lift inferInstance hmm) rfl rfl))) ?_
        rintro _ _ ⟨pa, pc, qa, qc, hs1, rfl, rfl⟩
        refine JO.effN rfl rfl (Eff.storeBA (cs' := [_, _]) rfl rfl (by rfl) (by rfl) (by rfl)) ?_
        rintro _ _ ⟨rfl, rfl⟩
        refine JO.pur rfl rfl rfl (Pur.assign rfl) ?_
        refine JO.nil ?_
        refine J.retC rfl (.cell rfl (ld_agg rfl CellsIn.blk) (.tmp rfl .nil)) ?_
        have hv : prtS rs xss ss = ((rs, xss.filter fun x => (hasV ss x).1), 0) := by unfold prtS; rw [if_neg (not_not_intro ⟨hs0, hd0⟩), if_neg (not_not_intro hle)]
        refine ⟨_, _, ⟨pa, pc, qa, qc, hs1, rfl, rfl⟩, by rw [hv]; rfl, fun h s => ?_⟩
        rw [hv]
        exact SubC.out h s

end Go.Proofs.Ytnhippfllgnngaa
