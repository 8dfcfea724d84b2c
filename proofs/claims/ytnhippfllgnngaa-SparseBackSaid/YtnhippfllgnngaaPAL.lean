/-
  A part of the proof of the claim that this folder bears.
-/
import Derived.Test.YtnhippfllgnngaaPAK
/- The text SK4. -/
set_option linter.unusedVariables false
set_option linter.unusedSimpArgs false
set_option maxRecDepth 10000
namespace Go.Proofs.Ytnhippfllgnngaa
open Go Go.KK Dm

theorem s_From {L : List Asn} {a sa ca : Option Addr} {n cap n1 k1 n2 k2 : Nat} {rs : List Rg} {starts cols : List Int} [SlIn rgE L a rs] [SlIn intE L sa starts] [SlIn intE L ca cols] (hn : n = rs.length) (h1 : n1 = starts.length) (h2 : n2 = cols.length) (hcap : cols.length ≤ k2) (hsb : starts.length ≤ 1000000) (hcb : cols.length ≤ 1000000) :
    CallS Try.prog 29 [.agg #[.slice a n cap], .slice sa n1 k1, .slice ca n2 k2].toArray L (fun w M => ∃ pa pc qa qc hs', w = .tuple #[.agg #[.slice pa (frmS rs starts cols).1.1.length pc, .slice qa (frmS rs starts cols).1.2.length qc], .int .i64 (frmS rs starts cols).2] ∧ M = sl rgE pa pc (frmS rs starts cols).1.1 :: sl hE qa qc hs' :: rows intE hs' (frmS rs starts cols).1.2 :: L) := by
  subst hn
  subst h1
  subst h2
  refine CallS.ent ?_
  refine CallS.enter Try.func29 rfl rfl rfl rfl rfl ?_
  refine J.seq rfl ?_
  refine J.region rfl ?_
  refine JO.eff rfl rfl rfl (Eff.box (cs := [_]) rfl rfl) ?_
  rintro _ _ ⟨b3, rfl, rfl⟩
  refine JO.eff rfl rfl rfl (Eff.alloc (cs := [_, _]) rfl) ?_
  rintro _ _ ⟨b6, rfl, rfl⟩
  refine JO.pur rfl rfl rfl (Pur.assign rfl) ?_
  refine JO.nil ?_
  refine J.seq rfl ?_
  refine J.block rfl ?_
  refine J.seq rfl ?_
  refine J.region rfl ?_
  refine JO.pur rfl rfl rfl (Pur.loadA rfl rfl rfl CellsIn.blk) ?_
  refine JO.effR rfl rfl rfl (Eff.call rfl (d_Valid (rs := rs) rfl)) ?_
  refine JO.pur rfl rfl rfl (Pur.not rfl) ?_
  refine JO.pur rfl rfl rfl (Pur.assign rfl) ?_
  refine JO.nil ?_
  refine J.splitB 17 rfl (fun h17 => ?_) (fun h17 => ?_)
  · try simp only [decide_eq_true_eq, decide_eq_false_iff_not, Bool.not_eq_true', Bool.not_eq_false', Bool.and_eq_true, Bool.or_eq_true, Bool.and_eq_false_iff, Bool.or_eq_false_iff, Option.isNone_some, Option.isSome_some, Option.isNone_none, Option.isSome_none, Int.not_lt, Int.not_le, beq_iff_eq, beq_eq_false_iff_ne, bne_iff_ne, ne_eq, Bool.not_not, Decidable.not_not] at h17
    have hbad : ¬ okD rs := h17
    refine J.condT rfl rfl ?_
    refine J.seq rfl ?_
    refine J.region rfl ?_
    refine JO.pur rfl rfl rfl (Pur.build (cs := [_, _]) rfl rfl) ?_
    refine JO.effN rfl rfl (Eff.storeBA (cs' := [_, _]) rfl rfl (by rfl) (by rfl) (by rfl)) ?_
    rintro _ _ ⟨rfl, rfl⟩
    refine JO.pur rfl rfl rfl (Pur.assign rfl) ?_
    refine JO.nil ?_
    refine J.retC rfl (.cell rfl (ld_agg rfl CellsIn.blk) (.tmp rfl .nil)) ?_
    have hv : frmS rs starts cols = (([], []), 50) := by unfold frmS; rw [if_pos hbad]
    refine ⟨_, _, ⟨none, 0, none, 0, [], rfl, rfl⟩, by rw [hv]; rfl, fun h s => ?_⟩
    rw [hv]; exact sl_nil_new (sl_nil_new (rows_nil (SubC.out h s)))
  · try simp only [decide_eq_true_eq, decide_eq_false_iff_not, Bool.not_eq_true', Bool.not_eq_false', Bool.and_eq_true, Bool.or_eq_true, Bool.and_eq_false_iff, Bool.or_eq_false_iff, Option.isNone_some, Option.isSome_some, Option.isNone_none, Option.isSome_none, Int.not_lt, Int.not_le, beq_iff_eq, beq_eq_false_iff_ne, bne_iff_ne, ne_eq, Bool.not_not, Decidable.not_not] at h17
    have hgd : okD rs := h17
    refine J.condF rfl rfl ?_
    refine J.seq rfl ?_
    refine J.region rfl ?_
    refine JO.pur rfl rfl rfl (Pur.fieldAddr rfl) ?_
    refine JO.pur rfl rfl rfl (Pur.load rfl (CellIn.blk rfl)) ?_
    refine JO.pur rfl rfl rfl (Pur.len rfl) ?_
    refine JO.pur rfl rfl rfl (Pur.neqI rfl rfl) ?_
    refine JO.pur rfl rfl rfl (Pur.assign rfl) ?_
    refine JO.nil ?_
    refine J.splitB 22 rfl (fun h22 => ?_) (fun h22 => ?_)
    · try simp only [decide_eq_true_eq, decide_eq_false_iff_not, Bool.not_eq_true', Bool.not_eq_false', Bool.and_eq_true, Bool.or_eq_true, Bool.and_eq_false_iff, Bool.or_eq_false_iff, Option.isNone_some, Option.isSome_some, Option.isNone_none, Option.isSome_none, Int.not_lt, Int.not_le, beq_iff_eq, beq_eq_false_iff_ne, bne_iff_ne, ne_eq, Bool.not_not, Decidable.not_not] at h22
      have hl2 : rs.length ≠ 2 := by omega
      refine J.condT rfl rfl ?_
      refine J.seq rfl ?_
      refine J.region rfl ?_
      refine JO.pur rfl rfl rfl (Pur.build (cs := [_, _]) rfl rfl) ?_
      refine JO.effN rfl rfl (Eff.storeBA (cs' := [_, _]) rfl rfl (by rfl) (by rfl) (by rfl)) ?_
      rintro _ _ ⟨rfl, rfl⟩
      refine JO.pur rfl rfl rfl (Pur.assign rfl) ?_
      refine JO.nil ?_
      refine J.retC rfl (.cell rfl (ld_agg rfl CellsIn.blk) (.tmp rfl .nil)) ?_
      have hv : frmS rs starts cols = (([], []), 2) := by unfold frmS; rw [if_neg (not_not_intro hgd), if_pos hl2]
      refine ⟨_, _, ⟨none, 0, none, 0, [], rfl, rfl⟩, by rw [hv]; rfl, fun h s => ?_⟩
      rw [hv]; exact sl_nil_new (sl_nil_new (rows_nil (SubC.out h s)))
    · try simp only [decide_eq_true_eq, decide_eq_false_iff_not, Bool.not_eq_true', Bool.not_eq_false', Bool.and_eq_true, Bool.or_eq_true, Bool.and_eq_false_iff, Bool.or_eq_false_iff, Option.isNone_some, Option.isSome_some, Option.isNone_none, Option.isSome_none, Int.not_lt, Int.not_le, beq_iff_eq, beq_eq_false_iff_ne, bne_iff_ne, ne_eq, Bool.not_not, Decidable.not_not] at h22
      have hl2 : rs.length = 2 := by omega
      have hcd : cdV rs = canD rs := if_pos hgd
      have hcl := canD_len rs
      obtain ⟨-, hc0, hb0⟩ := one_ok hgd (k := 0) (by omega)
      obtain ⟨-, hc1, hb1⟩ := one_ok hgd (k := 1) (by omega)
      obtain ⟨R, hR⟩ : ∃ R, R = cnt ((canD rs).getD 0 default) := ⟨_, rfl⟩
      obtain ⟨W, hW⟩ : ∃ W, W = cnt ((canD rs).getD 1 default) := ⟨_, rfl⟩
      rw [← hR] at hc0 hb0
      rw [← hW] at hc1 hb1
      have hcdD := cntD_two (d := canD rs) (by omega)
      rw [← hR, ← hW] at hcdD
      have hcok := canD_okD hgd
      refine J.condF rfl rfl ?_
      refine J.skip rfl ?_
      refine J.inBlock ?_
      refine J.seq rfl ?_
      refine J.region rfl ?_
      refine JO.pur rfl rfl rfl (Pur.loadA rfl rfl rfl CellsIn.blk) ?_
      refine JO.eff rfl rfl rfl (Eff.call rfl (small_ok (rs := rs) rfl)) ?_
      rintro _ _ ⟨a29, c29, rfl, rfl⟩
      rw [hcd]
      refine JO.fact (fun h s => SlH.le (E := rgE) (a := a29) (cap := c29) (xs := canD rs) s) fun hcap2 => ?_
      refine JO.eff rfl rfl rfl (Eff.alloc (cs := [_]) rfl) ?_
      rintro _ _ ⟨b8, rfl, rfl⟩
      refine JO.effN rfl rfl (Eff.storeBA (cs' := [_]) rfl rfl (by rfl) (by rfl) (by rfl)) ?_
      rintro _ _ ⟨rfl, rfl⟩
      refine JO.nil ?_
      refine J.seq rfl ?_
      refine J.region rfl ?_
      refine JO.pur rfl rfl rfl (Pur.loadA rfl rfl rfl CellsIn.blk) ?_
      refine JO.effR rfl rfl rfl (Eff.call rfl (sides_ok (rs := canD rs) rfl hcap2 (by omega))) ?_
      refine JO.pur rfl rfl rfl (Pur.move rfl) ?_
      refine JO.pur rfl rfl rfl (Pur.extract rfl rfl) ?_
      refine JO.setv (u' := .int .i64 (R : Int)) 33 rfl (congrArg (Value.int .i64) hc0) ?_
      refine JO.pur rfl rfl rfl (Pur.extract rfl rfl) ?_
      refine JO.setv (u' := .int .i64 (W : Int)) 34 rfl (congrArg (Value.int .i64) hc1) ?_
      refine JO.pur rfl rfl rfl (Pur.assign rfl) ?_
      refine JO.pur rfl rfl rfl (Pur.assign rfl) ?_
      refine JO.nil ?_
      refine J.seq rfl ?_
      refine J.seq rfl ?_
      refine J.region rfl ?_
      refine JO.pur rfl rfl rfl (Pur.move rfl) ?_
      refine JO.pur rfl rfl rfl (Pur.len rfl) ?_
      refine JO.pur rfl rfl rfl (Pur.move rfl) ?_
      refine JO.pur rfl rfl rfl (Pur.add rfl rfl (wr64 (by omega))) ?_
      refine JO.pur rfl rfl rfl (Pur.neqI rfl rfl) ?_
      refine JO.pur rfl rfl rfl (Pur.move rfl) ?_
      refine JO.splitB 40 rfl (fun h40 => ?_) (fun h40 => ?_)
      · try simp only [decide_eq_true_eq, decide_eq_false_iff_not, Bool.not_eq_true', Bool.not_eq_false', Bool.and_eq_true, Bool.or_eq_true, Bool.and_eq_false_iff, Bool.or_eq_false_iff, Option.isNone_some, Option.isSome_some, Option.isNone_none, Option.isSome_none, Int.not_lt, Int.not_le, beq_iff_eq, beq_eq_false_iff_ne, bne_iff_ne, ne_eq, Bool.not_not, Decidable.not_not] at h40
        have hf : ¬ starts.length = R + 1 := by omega
        refine JO.no rfl rfl rfl ?_
        refine JO.no rfl rfl rfl ?_
        refine JO.no rfl rfl rfl ?_
        refine JO.no rfl rfl rfl ?_
        refine JO.pur rfl rfl rfl (Pur.pickT rfl rfl) ?_
        refine JO.pur rfl rfl rfl (Pur.move rfl) ?_
        refine JO.no rfl rfl rfl ?_
        refine JO.no rfl rfl rfl ?_
        refine JO.no rfl rfl rfl ?_
        refine JO.no rfl rfl rfl ?_
        refine JO.no rfl rfl rfl ?_
        refine JO.no rfl rfl rfl ?_
        refine JO.no rfl rfl rfl ?_
        refine JO.pur rfl rfl rfl (Pur.pickT rfl rfl) ?_
        refine JO.pur rfl rfl rfl (Pur.move rfl) ?_
        refine JO.no rfl rfl rfl ?_
        refine JO.no rfl rfl rfl ?_
        refine JO.no rfl rfl rfl ?_
        refine JO.pur rfl rfl rfl (Pur.pickT rfl rfl) ?_
        refine JO.pur rfl rfl rfl (Pur.move rfl) ?_
        refine JO.no rfl rfl rfl ?_
        refine JO.no rfl rfl rfl ?_
        refine JO.no rfl rfl rfl ?_
        refine JO.pur rfl rfl rfl (Pur.pickT rfl rfl) ?_
        refine JO.nil ?_
        refine J.condT rfl rfl ?_
        refine J.seq rfl ?_
        refine J.region rfl ?_
        refine JO.pur rfl rfl rfl (Pur.build (cs := [_, _]) rfl rfl) ?_
        refine JO.effN rfl rfl (Eff.storeBA (cs' := [_, _]) rfl rfl (by rfl) (by rfl) (by rfl)) ?_
        rintro _ _ ⟨rfl, rfl⟩
        refine JO.pur rfl rfl rfl (Pur.assign rfl) ?_
        refine JO.nil ?_
        refine J.retC rfl (.cell rfl (ld_agg rfl CellsIn.blk) (.tmp rfl .nil)) ?_
        have hv : frmS rs starts cols = (([], []), 5) := by
          unfold frmS; rw [if_neg (not_not_intro hgd), if_neg (not_not_intro hl2), ← hR]
          rw [if_pos (fun g => hf g.1.1)]
        refine ⟨_, _, ⟨none, 0, none, 0, [], rfl, rfl⟩, by rw [hv]; rfl, fun h s => ?_⟩
        rw [hv]; exact sl_nil_new (sl_nil_new (rows_nil (SubC.out h s)))
      · try simp only [decide_eq_true_eq, decide_eq_false_iff_not, Bool.not_eq_true', Bool.not_eq_false', Bool.and_eq_true, Bool.or_eq_true, Bool.and_eq_false_iff, Bool.or_eq_false_iff, Option.isNone_some, Option.isSome_some, Option.isNone_none, Option.isSome_none, Int.not_lt, Int.not_le, beq_iff_eq, beq_eq_false_iff_ne, bne_iff_ne, ne_eq, Bool.not_not, Decidable.not_not] at h40
        have hl1 : starts.length = R + 1 := by omega
        refine JO.pur rfl rfl rfl (Pur.move rfl) ?_
        refine JO.pur rfl rfl rfl (Pur.idx rfl rfl rfl (by first | rfl | (simp; done) | omega | (rw [List.length_take, List.length_drop]; omega)) (show (0 : Int) = ((0 : Nat) : Int) from rfl) (by omega)) ?_
        refine JO.pur rfl rfl rfl (Pur.load rfl (CellIn.el0 rfl (getD_at' 0 (by omega)) rfl)) ?_
        refine JO.pur rfl rfl rfl (Pur.neqI rfl rfl) ?_
        refine JO.pur rfl rfl rfl (Pur.pickF rfl rfl) ?_
        refine JO.pur rfl rfl rfl (Pur.move rfl) ?_
        refine JO.splitB 46 rfl (fun h46 => ?_) (fun h46 => ?_)
        · try simp only [decide_eq_true_eq, decide_eq_false_iff_not, Bool.not_eq_true', Bool.not_eq_false', Bool.and_eq_true, Bool.or_eq_true, Bool.and_eq_false_iff, Bool.or_eq_false_iff, Option.isNone_some, Option.isSome_some, Option.isNone_none, Option.isSome_none, Int.not_lt, Int.not_le, beq_iff_eq, beq_eq_false_iff_ne, bne_iff_ne, ne_eq, Bool.not_not, Decidable.not_not] at h46
          refine JO.no rfl rfl rfl ?_
          refine JO.no rfl rfl rfl ?_
          refine JO.no rfl rfl rfl ?_
          refine JO.no rfl rfl rfl ?_
          refine JO.no rfl rfl rfl ?_
          refine JO.no rfl rfl rfl ?_
          refine JO.no rfl rfl rfl ?_
          refine JO.pur rfl rfl rfl (Pur.pickT rfl rfl) ?_
          refine JO.pur rfl rfl rfl (Pur.move rfl) ?_
          refine JO.no rfl rfl rfl ?_
          refine JO.no rfl rfl rfl ?_
          refine JO.no rfl rfl rfl ?_
          refine JO.pur rfl rfl rfl (Pur.pickT rfl rfl) ?_
          refine JO.pur rfl rfl rfl (Pur.move rfl) ?_
          refine JO.no rfl rfl rfl ?_
          refine JO.no rfl rfl rfl ?_
          refine JO.no rfl rfl rfl ?_
          refine JO.pur rfl rfl rfl (Pur.pickT rfl rfl) ?_
          refine JO.nil ?_
          refine J.condT rfl rfl ?_
          refine J.seq rfl ?_
          refine J.region rfl ?_
          refine JO.pur rfl rfl rfl (Pur.build (cs := [_, _]) rfl rfl) ?_
          refine JO.effN rfl rfl (Eff.storeBA (cs' := [_, _]) rfl rfl (by rfl) (by rfl) (by rfl)) ?_
          rintro _ _ ⟨rfl, rfl⟩
          refine JO.pur rfl rfl rfl (Pur.assign rfl) ?_
          refine JO.nil ?_
          refine J.retC rfl (.cell rfl (ld_agg rfl CellsIn.blk) (.tmp rfl .nil)) ?_
          have hv : frmS rs starts cols = (([], []), 5) := by
            unfold frmS; rw [if_neg (not_not_intro hgd), if_neg (not_not_intro hl2), ← hR]
            rw [if_pos (fun g => h46 g.1.2.1)]
          refine ⟨_, _, ⟨none, 0, none, 0, [], rfl, rfl⟩, by rw [hv]; rfl, fun h s => ?_⟩
          rw [hv]; exact sl_nil_new (sl_nil_new (rows_nil (SubC.out h s)))
        · try simp only [decide_eq_true_eq, decide_eq_false_iff_not, Bool.not_eq_true', Bool.not_eq_false', Bool.and_eq_true, Bool.or_eq_true, Bool.and_eq_false_iff, Bool.or_eq_false_iff, Option.isNone_some, Option.isSome_some, Option.isNone_none, Option.isSome_none, Int.not_lt, Int.not_le, beq_iff_eq, beq_eq_false_iff_ne, bne_iff_ne, ne_eq, Bool.not_not, Decidable.not_not] at h46
          refine JO.pur rfl rfl rfl (Pur.move rfl) ?_
          refine JO.pur rfl rfl rfl (Pur.move rfl) ?_
          refine JO.pur rfl rfl rfl (Pur.idx rfl rfl rfl (by first | rfl | (simp; done) | omega | (rw [List.length_take, List.length_drop]; omega)) rfl (by omega)) ?_
          refine JO.pur rfl rfl rfl (Pur.load rfl (CellIn.el0 rfl (getD_at' 0 (by omega)) rfl)) ?_
          refine JO.pur rfl rfl rfl (Pur.move rfl) ?_
          refine JO.pur rfl rfl rfl (Pur.len rfl) ?_
          refine JO.pur rfl rfl rfl (Pur.neqI rfl rfl) ?_
          refine JO.pur rfl rfl rfl (Pur.pickF rfl rfl) ?_
          refine JO.pur rfl rfl rfl (Pur.move rfl) ?_
          refine JO.splitB 55 rfl (fun h55 => ?_) (fun h55 => ?_)
          · try simp only [decide_eq_true_eq, decide_eq_false_iff_not, Bool.not_eq_true', Bool.not_eq_false', Bool.and_eq_true, Bool.or_eq_true, Bool.and_eq_false_iff, Bool.or_eq_false_iff, Option.isNone_some, Option.isSome_some, Option.isNone_none, Option.isSome_none, Int.not_lt, Int.not_le, beq_iff_eq, beq_eq_false_iff_ne, bne_iff_ne, ne_eq, Bool.not_not, Decidable.not_not] at h55
            refine JO.no rfl rfl rfl ?_
            refine JO.no rfl rfl rfl ?_
            refine JO.no rfl rfl rfl ?_
            refine JO.pur rfl rfl rfl (Pur.pickT rfl rfl) ?_
            refine JO.pur rfl rfl rfl (Pur.move rfl) ?_
            refine JO.no rfl rfl rfl ?_
            refine JO.no rfl rfl rfl ?_
            refine JO.no rfl rfl rfl ?_
            refine JO.pur rfl rfl rfl (Pur.pickT rfl rfl) ?_
            refine JO.nil ?_
            refine J.condT rfl rfl ?_
            refine J.seq rfl ?_
            refine J.region rfl ?_
            refine JO.pur rfl rfl rfl (Pur.build (cs := [_, _]) rfl rfl) ?_
            refine JO.effN rfl rfl (Eff.storeBA (cs' := [_, _]) rfl rfl (by rfl) (by rfl) (by rfl)) ?_
            rintro _ _ ⟨rfl, rfl⟩
            refine JO.pur rfl rfl rfl (Pur.assign rfl) ?_
            refine JO.nil ?_
            refine J.retC rfl (.cell rfl (ld_agg rfl CellsIn.blk) (.tmp rfl .nil)) ?_
            have hv : frmS rs starts cols = (([], []), 5) := by
              unfold frmS; rw [if_neg (not_not_intro hgd), if_neg (not_not_intro hl2), ← hR]
              rw [if_pos (fun g => h55 g.1.2.2.1)]
            refine ⟨_, _, ⟨none, 0, none, 0, [], rfl, rfl⟩, by rw [hv]; rfl, fun h s => ?_⟩
            rw [hv]; exact sl_nil_new (sl_nil_new (rows_nil (SubC.out h s)))
          · try simp only [decide_eq_true_eq, decide_eq_false_iff_not, Bool.not_eq_true', Bool.not_eq_false', Bool.and_eq_true, Bool.or_eq_true, Bool.and_eq_false_iff, Bool.or_eq_false_iff, Option.isNone_some, Option.isSome_some, Option.isNone_none, Option.isSome_none, Int.not_lt, Int.not_le, beq_iff_eq, beq_eq_false_iff_ne, bne_iff_ne, ne_eq, Bool.not_not, Decidable.not_not] at h55
            refine JO.pur rfl rfl rfl (Pur.move rfl) ?_
            refine JO.pur rfl rfl rfl (Pur.len rfl) ?_
            refine JO.pur rfl rfl rfl (Pur.gtr rfl rfl) ?_
            refine JO.pur rfl rfl rfl (Pur.pickF rfl rfl) ?_
            refine JO.pur rfl rfl rfl (Pur.move rfl) ?_
            refine JO.splitB 60 rfl (fun h60 => ?_) (fun h60 => ?_)
            · try simp only [decide_eq_true_eq, decide_eq_false_iff_not, Bool.not_eq_true', Bool.not_eq_false', Bool.and_eq_true, Bool.or_eq_true, Bool.and_eq_false_iff, Bool.or_eq_false_iff, Option.isNone_some, Option.isSome_some, Option.isNone_none, Option.isSome_none, Int.not_lt, Int.not_le, beq_iff_eq, beq_eq_false_iff_ne, bne_iff_ne, ne_eq, Bool.not_not, Decidable.not_not] at h60
              refine JO.no rfl rfl rfl ?_
              refine JO.no rfl rfl rfl ?_
              refine JO.no rfl rfl rfl ?_
              refine JO.pur rfl rfl rfl (Pur.pickT rfl rfl) ?_
              refine JO.nil ?_
              refine J.condT rfl rfl ?_
              refine J.seq rfl ?_
              refine J.region rfl ?_
              refine JO.pur rfl rfl rfl (Pur.build (cs := [_, _]) rfl rfl) ?_
              refine JO.effN rfl rfl (Eff.storeBA (cs' := [_, _]) rfl rfl (by rfl) (by rfl) (by rfl)) ?_
              rintro _ _ ⟨rfl, rfl⟩
              refine JO.pur rfl rfl rfl (Pur.assign rfl) ?_
              refine JO.nil ?_
              refine J.retC rfl (.cell rfl (ld_agg rfl CellsIn.blk) (.tmp rfl .nil)) ?_
              have hv : frmS rs starts cols = (([], []), 5) := by
                unfold frmS; rw [if_neg (not_not_intro hgd), if_neg (not_not_intro hl2), ← hR]
                rw [if_pos (fun g => by have := g.1.2.2.2.1; omega)]
              refine ⟨_, _, ⟨none, 0, none, 0, [], rfl, rfl⟩, by rw [hv]; rfl, fun h s => ?_⟩
              rw [hv]; exact sl_nil_new (sl_nil_new (rows_nil (SubC.out h s)))
            · try simp only [decide_eq_true_eq, decide_eq_false_iff_not, Bool.not_eq_true', Bool.not_eq_false', Bool.and_eq_true, Bool.or_eq_true, Bool.and_eq_false_iff, Bool.or_eq_false_iff, Option.isNone_some, Option.isSome_some, Option.isNone_none, Option.isSome_none, Int.not_lt, Int.not_le, beq_iff_eq, beq_eq_false_iff_ne, bne_iff_ne, ne_eq, Bool.not_not, Decidable.not_not] at h60
              refine JO.pur rfl rfl rfl (Pur.move rfl) ?_
              refine JO.effR rfl rfl rfl (Eff.call rfl (isSorted_ok (xs := starts) rfl hsb)) ?_
              refine JO.pur rfl rfl rfl (Pur.not rfl) ?_
              refine JO.pur rfl rfl rfl (Pur.pickF rfl rfl) ?_
              refine JO.nil ?_
              refine J.splitB 64 rfl (fun h64 => ?_) (fun h64 => ?_)
              · try simp only [decide_eq_true_eq, decide_eq_false_iff_not, Bool.not_eq_true', Bool.not_eq_false', Bool.and_eq_true, Bool.or_eq_true, Bool.and_eq_false_iff, Bool.or_eq_false_iff, Option.isNone_some, Option.isSome_some, Option.isNone_none, Option.isSome_none, Int.not_lt, Int.not_le, beq_iff_eq, beq_eq_false_iff_ne, bne_iff_ne, ne_eq, Bool.not_not, Decidable.not_not] at h64
                refine J.condT rfl rfl ?_
                refine J.seq rfl ?_
                refine J.region rfl ?_
                refine JO.pur rfl rfl rfl (Pur.build (cs := [_, _]) rfl rfl) ?_
                refine JO.effN rfl rfl (Eff.storeBA (cs' := [_, _]) rfl rfl (by rfl) (by rfl) (by rfl)) ?_
                rintro _ _ ⟨rfl, rfl⟩
                refine JO.pur rfl rfl rfl (Pur.assign rfl) ?_
                refine JO.nil ?_
                refine J.retC rfl (.cell rfl (ld_agg rfl CellsIn.blk) (.tmp rfl .nil)) ?_
                have hv : frmS rs starts cols = (([], []), 5) := by
                  unfold frmS; rw [if_neg (not_not_intro hgd), if_neg (not_not_intro hl2), ← hR]
                  rw [if_pos (fun g => h64 g.1.2.2.2.2)]
                refine ⟨_, _, ⟨none, 0, none, 0, [], rfl, rfl⟩, by rw [hv]; rfl, fun h s => ?_⟩
                rw [hv]; exact sl_nil_new (sl_nil_new (rows_nil (SubC.out h s)))
              · try simp only [decide_eq_true_eq, decide_eq_false_iff_not, Bool.not_eq_true', Bool.not_eq_false', Bool.and_eq_true, Bool.or_eq_true, Bool.and_eq_false_iff, Bool.or_eq_false_iff, Option.isNone_some, Option.isSome_some, Option.isNone_none, Option.isSome_none, Int.not_lt, Int.not_le, beq_iff_eq, beq_eq_false_iff_ne, bne_iff_ne, ne_eq, Bool.not_not, Decidable.not_not] at h64
                have hchk : chkF R starts cols := ⟨hl1, by simpa using h46, by simpa using h55, by omega, h64⟩
                refine J.condF rfl rfl ?_
                refine J.skip rfl ?_
                refine J.seq rfl ?_
                refine J.region rfl ?_
                refine JO.pur rfl rfl rfl (Pur.loadA rfl rfl rfl CellsIn.blk) ?_
                refine JO.eff rfl rfl rfl (Eff.call rfl (cloneD (rs := rs) rfl hgd)) ?_
                rintro _ _ ⟨a67, c67, rfl, rfl⟩
                refine JO.pur rfl rfl rfl (Pur.build (cs := [_, _]) rfl rfl) ?_
                refine JO.eff rfl rfl rfl (Eff.alloc (cs := [_, _]) rfl) ?_
                rintro _ _ ⟨b11, rfl, rfl⟩
                refine JO.effN rfl rfl (Eff.storeBA (cs' := [_, _]) rfl rfl (by rfl) (by rfl) (by rfl)) ?_
                rintro _ _ ⟨rfl, rfl⟩
                refine JO.nil ?_
                refine J.seq rfl ?_
                refine J.seq rfl ?_
                have hnn : ∀ j, j ≤ R → ∃ s : Nat, starts.getD j 0 = (s : Int) ∧ s ≤ cols.length := fun j hj => by
                  have q1 := sortB_le hchk.2.2.2.2 j 0 (by omega) (by omega)
                  have q2 := sortB_le hchk.2.2.2.2 R j hj (by omega)
                  rw [hchk.2.1] at q1; rw [hchk.2.2.1] at q2
                  exact ⟨(starts.getD j 0).toNat, by omega, by omega⟩
                refine J.region rfl ?_
                refine JO.pur rfl rfl rfl (Pur.move rfl) ?_
                refine JO.pur rfl rfl rfl (Pur.move rfl) ?_
                refine JO.nil ?_
                refine J.block rfl ?_
                refine J.loopF (ι := Nat × Nat × Option Addr × Nat × List Hdr) (fun q => q.1 ≤ R ∧ starts.getD q.1 0 = (q.2.1 : Int) ∧ q.2.2.2.2.length = q.2.1 ∧ ∀ i, i < q.2.1 → 0 ≤ cols.getD i 0 ∧ cols.getD i 0 < (W : Int)) (fun q => [(70, .int .i64 (q.1 : Int))]) [(1, _), (2, _), (6, _), (8, _), (10, _), (11, _), (69, _)] (fun q => blk b11 (.cells #[.slice a67 rs.length c67, .slice q.2.2.1 q.2.2.2.2.length q.2.2.2.1] 27) :: sl hE q.2.2.1 q.2.2.2.1 q.2.2.2.2 :: rows intE q.2.2.2.2 (fromK rs starts cols (q.2.1)) :: sl rgE a67 c67 rs :: blk b8 (.cells #[.slice a29 (canD rs).length c29] 24) :: sl rgE a29 c29 (canD rs) :: blk b6 (.cells #[.slice none 0 0, .slice none 0 0] 27) :: blk b3 (.cells #[.slice a rs.length cap] 24) :: L) (fun q => R - q.1) (0, 0, none, 0, []) rfl (.cons rfl rfl (.cons rfl rfl (.cons rfl rfl (.cons rfl rfl (.cons rfl rfl (.cons rfl rfl (.cons rfl rfl .nil))))))) (.cons rfl rfl .nil) (fun h s => by have s2 := sl_nil_new (E := hE) (rows_nil (E := intE) s); dsimp only; rw [show fromK rs starts cols 0 = [] from rfl]; exact SubC.out (L := sl hE none 0 [] :: rows intE [] [] :: _) h s2) ⟨Nat.zero_le _, hchk.2.1, rfl, fun i hi => absurd hi (Nat.not_lt_zero i)⟩ ?_
                rintro ⟨k, sk, a0, c0, hs0⟩ ⟨hk, hsk, hh0, hokc⟩ ihk
                try dsimp only
                dsimp only at hk hsk hh0 hokc
                refine J.seq rfl ?_
                refine J.region rfl ?_
                refine JO.pur rfl rfl rfl (Pur.lss rfl rfl) ?_
                refine JO.nil ?_
                refine J.seq rfl ?_
                refine J.splitB 71 rfl (fun h71 => ?_) (fun h71 => ?_)
                · try simp only [decide_eq_true_eq, decide_eq_false_iff_not, Bool.not_eq_true', Bool.not_eq_false', Bool.and_eq_true, Bool.or_eq_true, Bool.and_eq_false_iff, Bool.or_eq_false_iff, Option.isNone_some, Option.isSome_some, Option.isNone_none, Option.isSome_none, Int.not_lt, Int.not_le, beq_iff_eq, beq_eq_false_iff_ne, bne_iff_ne, ne_eq, Bool.not_not, Decidable.not_not] at h71
                  have hkl : k < R := by omega
                  obtain ⟨s1, hs1e, hs1b⟩ := hnn (k + 1) (by omega)
                  have hle := sortB_le hchk.2.2.2.2 (k + 1) k (by omega) (by omega)
                  rw [hsk, hs1e] at hle
                  obtain ⟨m, hm⟩ : ∃ m, m = s1 - sk := ⟨_, rfl⟩
                  have hg1 : starts[k]? = some (starts.getD k 0) := getD_at' 0 (by omega)
                  rw [hsk] at hg1
                  have hg2 : starts[k + 1]? = some (starts.getD (k + 1) 0) := getD_at' 0 (by omega)
                  rw [hs1e] at hg2
                  refine J.condT rfl rfl ?_
                  refine J.skip rfl ?_
                  refine J.seq rfl ?_
                  refine J.block rfl ?_
                  refine J.seq rfl ?_
                  refine J.region rfl ?_
                  refine JO.pur rfl rfl rfl (Pur.move rfl) ?_
                  refine JO.pur rfl rfl rfl (Pur.assign rfl) ?_
                  refine JO.nil ?_
                  refine J.seq rfl ?_
                  refine J.quiet rfl Try.mixed (by kernel_rfl) ?_
                  refine JQ.pur rfl rfl rfl (Pur.move rfl) ?_
                  refine JQ.pur rfl rfl rfl (Pur.move rfl) ?_
                  refine JQ.pur rfl rfl rfl (Pur.move rfl) ?_
                  refine JQ.pur rfl rfl rfl (Pur.idx rfl rfl rfl (by first | rfl | (simp; done) | omega | (rw [List.length_take, List.length_drop]; omega)) rfl (by omega)) ?_
                  refine JQ.pur rfl rfl rfl (Pur.load rfl (CellIn.el0 rfl hg1 rfl)) ?_
                  refine JQ.setv (u' := .int .i64 (sk : Int)) 77 rfl rfl ?_
                  refine JQ.pur rfl rfl rfl (Pur.move rfl) ?_
                  refine JQ.pur rfl rfl rfl (Pur.move rfl) ?_
                  refine JQ.pur rfl rfl rfl (Pur.add rfl rfl (wr64 (by omega))) ?_
                  refine JQ.pur rfl rfl rfl (Pur.idx rfl rfl rfl (by first | rfl | (simp; done) | omega | (rw [List.length_take, List.length_drop]; omega)) (show (k : Int) + 1 = ((k + 1 : Nat) : Int) from rfl) (by omega)) ?_
                  refine JQ.pur rfl rfl rfl (Pur.load rfl (CellIn.el0 rfl hg2 rfl)) ?_
                  refine JQ.setv (u' := .int .i64 (s1 : Int)) 82 rfl rfl ?_
                  refine JQ.pur rfl rfl rfl (Pur.slice2 rfl rfl rfl rfl rfl (by omega) (by omega)) ?_
                  refine JQ.setv (u' := .slice (tailA ca k2 sk 1) m (k2 - sk)) 83 rfl (by rw [hm]) ?_
                  refine JQ.pur rfl rfl rfl (Pur.len rfl) ?_
                  refine JQ.pur rfl rfl rfl (Pur.move rfl) ?_
                  refine JQ.nil ?_
                  refine J.block rfl ?_
                  refine J.loopF (ι := Nat × Option Addr × Nat × List Hdr) (fun q => q.1 ≤ m ∧ q.2.2.2.length = sk + q.1 ∧ ∀ i, i < sk + q.1 → 0 ≤ cols.getD i 0 ∧ cols.getD i 0 < (W : Int)) (fun q => [(85, .int .i64 (q.1 : Int))]) [(1, _), (2, _), (6, _), (8, _), (10, _), (11, _), (12, _), (69, _), (70, _), (83, _), (84, _)] (fun q => blk b11 (.cells #[.slice a67 rs.length c67, .slice q.2.1 q.2.2.2.length q.2.2.1] 27) :: sl hE q.2.1 q.2.2.1 q.2.2.2 :: rows intE q.2.2.2 (fromK rs starts cols (sk + q.1)) :: sl rgE a67 c67 rs :: blk b8 (.cells #[.slice a29 (canD rs).length c29] 24) :: sl rgE a29 c29 (canD rs) :: blk b6 (.cells #[.slice none 0 0, .slice none 0 0] 27) :: blk b3 (.cells #[.slice a rs.length cap] 24) :: L) (fun q => m - q.1) (0, a0, c0, hs0) rfl (.cons rfl rfl (.cons rfl rfl (.cons rfl rfl (.cons rfl rfl (.cons rfl rfl (.cons rfl rfl (.cons rfl rfl (.cons rfl rfl (.cons rfl rfl (.cons rfl rfl (.cons rfl rfl .nil))))))))))) (.cons rfl rfl .nil) (by first | exact fun _ h => h | exact SubC.out | (dsimp only; exact SubC.out)) ⟨Nat.zero_le _, hh0, hokc⟩ ?_
                  rintro ⟨j, a1, c1, hs1⟩ ⟨hj, hh1, hokj⟩ ihj
                  try dsimp only
                  dsimp only at hj hh1 hokj
                  refine J.seq rfl ?_
                  refine J.region rfl ?_
                  refine JO.pur rfl rfl rfl (Pur.lss rfl rfl) ?_
                  refine JO.nil ?_
                  refine J.seq rfl ?_
                  refine J.splitB 86 rfl (fun h86 => ?_) (fun h86 => ?_)
                  · try simp only [decide_eq_true_eq, decide_eq_false_iff_not, Bool.not_eq_true', Bool.not_eq_false', Bool.and_eq_true, Bool.or_eq_true, Bool.and_eq_false_iff, Bool.or_eq_false_iff, Option.isNone_some, Option.isSome_some, Option.isNone_none, Option.isSome_none, Int.not_lt, Int.not_le, beq_iff_eq, beq_eq_false_iff_ne, bne_iff_ne, ne_eq, Bool.not_not, Decidable.not_not] at h86
                    have hjl : j < m := by omega
                    have hpl : sk + j < cols.length := by omega
                    obtain ⟨c, hc⟩ : ∃ c, c = cols.getD (sk + j) 0 := ⟨_, rfl⟩
                    have hx88 : ((cols.drop sk).take m)[j]? = some c := by rw [List.getElem?_take, if_pos hjl, List.getElem?_drop, hc]; exact getD_at' 0 hpl
                    refine J.condT rfl rfl ?_
                    refine J.skip rfl ?_
                    refine J.seq rfl ?_
                    refine J.block rfl ?_
                    refine J.seq rfl ?_
                    refine J.region rfl ?_
                    refine JO.pur rfl rfl rfl (Pur.idx (hs := (SlIn.takeN (SlIn.dropN (E := intE) (cap := k2) (a := ca) (xs := cols) (m := 1) inferInstance rfl sk (fun e => by omega)) m)) rfl rfl rfl (by first | rfl | (simp; done) | omega | (rw [List.length_take, List.length_drop]; omega)) rfl (by rw [List.length_take, List.length_drop]; omega)) ?_
                    refine JO.pur rfl rfl rfl (Pur.load rfl (CellIn.el0 (hh := (SlIn.takeN (SlIn.dropN (E := intE) (cap := k2) (a := ca) (xs := cols) (m := 1) inferInstance rfl sk (fun e => by omega)) m)) rfl hx88 rfl)) ?_
                    refine JO.pur rfl rfl rfl (Pur.assign rfl) ?_
                    refine JO.nil ?_
                    refine J.seq rfl ?_
                    refine J.seq rfl ?_
                    refine J.region rfl ?_
                    refine JO.pur rfl rfl rfl (Pur.move rfl) ?_
                    refine JO.pur rfl rfl rfl (Pur.lss rfl rfl) ?_
                    refine JO.pur rfl rfl rfl (Pur.move rfl) ?_
                    refine JO.splitB 91 rfl (fun h91 => ?_) (fun h91 => ?_)
                    · try simp only [decide_eq_true_eq, decide_eq_false_iff_not, Bool.not_eq_true', Bool.not_eq_false', Bool.and_eq_true, Bool.or_eq_true, Bool.and_eq_false_iff, Bool.or_eq_false_iff, Option.isNone_some, Option.isSome_some, Option.isNone_none, Option.isSome_none, Int.not_lt, Int.not_le, beq_iff_eq, beq_eq_false_iff_ne, bne_iff_ne, ne_eq, Bool.not_not, Decidable.not_not] at h91
                      have hbc : ¬ goodC rs cols := fun g => by have := (g (sk + j) hpl).1; omega
                      refine JO.no rfl rfl rfl ?_
                      refine JO.no rfl rfl rfl ?_
                      refine JO.no rfl rfl rfl ?_
                      refine JO.pur rfl rfl rfl (Pur.pickT rfl rfl) ?_
                      refine JO.nil ?_
                      refine J.condT rfl rfl ?_
                      refine J.seq rfl ?_
                      refine J.region rfl ?_
                      refine JO.pur rfl rfl rfl (Pur.build (cs := [_, _]) rfl rfl) ?_
                      refine JO.effN rfl rfl (Eff.storeBA (cs' := [_, _]) rfl rfl (by rfl) (by rfl) (by rfl)) ?_
                      rintro _ _ ⟨rfl, rfl⟩
                      refine JO.pur rfl rfl rfl (Pur.assign rfl) ?_
                      refine JO.nil ?_
                      refine J.retC rfl (.cell rfl (ld_agg rfl CellsIn.blk) (.tmp rfl .nil)) ?_
                      have hv : frmS rs starts cols = (([], []), 5) := by
                        unfold frmS; rw [if_neg (not_not_intro hgd), if_neg (not_not_intro hl2), ← hR]
                        rw [if_pos (fun g => hbc g.2.1)]
                      refine ⟨_, _, ⟨none, 0, none, 0, [], rfl, rfl⟩, by rw [hv]; rfl, fun h s => ?_⟩
                      rw [hv]; exact sl_nil_new (sl_nil_new (rows_nil (SubC.out h s)))
                    · try simp only [decide_eq_true_eq, decide_eq_false_iff_not, Bool.not_eq_true', Bool.not_eq_false', Bool.and_eq_true, Bool.or_eq_true, Bool.and_eq_false_iff, Bool.or_eq_false_iff, Option.isNone_some, Option.isSome_some, Option.isNone_none, Option.isSome_none, Int.not_lt, Int.not_le, beq_iff_eq, beq_eq_false_iff_ne, bne_iff_ne, ne_eq, Bool.not_not, Decidable.not_not] at h91
                      refine JO.pur rfl rfl rfl (Pur.move rfl) ?_
                      refine JO.pur rfl rfl rfl (Pur.move rfl) ?_
                      refine JO.pur rfl rfl rfl (Pur.geq rfl rfl) ?_
                      refine JO.pur rfl rfl rfl (Pur.pickF rfl rfl) ?_
                      refine JO.nil ?_
                      refine J.splitB 95 rfl (fun h95 => ?_) (fun h95 => ?_)
                      · try simp only [decide_eq_true_eq, decide_eq_false_iff_not, Bool.not_eq_true', Bool.not_eq_false', Bool.and_eq_true, Bool.or_eq_true, Bool.and_eq_false_iff, Bool.or_eq_false_iff, Option.isNone_some, Option.isSome_some, Option.isNone_none, Option.isSome_none, Int.not_lt, Int.not_le, beq_iff_eq, beq_eq_false_iff_ne, bne_iff_ne, ne_eq, Bool.not_not, Decidable.not_not] at h95
                        have hbc : ¬ goodC rs cols := fun g => by have := (g (sk + j) hpl).2; omega
                        refine J.condT rfl rfl ?_
                        refine J.seq rfl ?_
                        refine J.region rfl ?_
                        refine JO.pur rfl rfl rfl (Pur.build (cs := [_, _]) rfl rfl) ?_
                        refine JO.effN rfl rfl (Eff.storeBA (cs' := [_, _]) rfl rfl (by rfl) (by rfl) (by rfl)) ?_
                        rintro _ _ ⟨rfl, rfl⟩
                        refine JO.pur rfl rfl rfl (Pur.assign rfl) ?_
                        refine JO.nil ?_
                        refine J.retC rfl (.cell rfl (ld_agg rfl CellsIn.blk) (.tmp rfl .nil)) ?_
                        have hv : frmS rs starts cols = (([], []), 5) := by
                          unfold frmS; rw [if_neg (not_not_intro hgd), if_neg (not_not_intro hl2), ← hR]
                          rw [if_pos (fun g => hbc g.2.1)]
                        refine ⟨_, _, ⟨none, 0, none, 0, [], rfl, rfl⟩, by rw [hv]; rfl, fun h s => ?_⟩
                        rw [hv]; exact sl_nil_new (sl_nil_new (rows_nil (SubC.out h s)))
                      · try simp only [decide_eq_true_eq, decide_eq_false_iff_not, Bool.not_eq_true', Bool.not_eq_false', Bool.and_eq_true, Bool.or_eq_true, Bool.and_eq_false_iff, Bool.or_eq_false_iff, Option.isNone_some, Option.isSome_some, Option.isNone_none, Option.isSome_none, Int.not_lt, Int.not_le, beq_iff_eq, beq_eq_false_iff_ne, bne_iff_ne, ne_eq, Bool.not_not, Decidable.not_not] at h95
                        obtain ⟨cn, hcn⟩ : ∃ cn : Nat, c = (cn : Int) := ⟨c.toNat, by omega⟩
                        have hcw : cn < W := by omega
                        have hkw : k * W ≤ 4096 * 4096 := Nat.mul_le_mul (by omega) hb1
                        have hrw : (k + 1) * W ≤ R * W := Nat.mul_le_mul_right _ hkl
                        rw [Nat.add_mul, Nat.one_mul] at hrw
                        have hkwI : (k : Int) * (W : Int) = ((k * W : Nat) : Int) := (Int.natCast_mul k W).symm
                        obtain ⟨N, hN⟩ : ∃ N, N = k * W + cn := ⟨_, rfl⟩
                        have hNl : N < cntD (canD rs) := by rw [hcdD]; omega
                        obtain ⟨y, hy⟩ : ∃ y, y = ixD (canD rs) N := ⟨_, rfl⟩
                        have hith : ithV (canD rs) ((N : Nat) : Int) = (y, 0) := by unfold ithV; rw [if_neg (not_not_intro hcok), if_neg (by omega), hy]; rfl
                        have hra := rowAt_eq hchk (k := k) (i := sk + j) hkl (by omega) (by omega)
                        have hst : (fromK rs starts cols (sk + j + 1)) = (fromK rs starts cols (sk + j)) ++ [y] := by rw [fromK_succ, hra, ← hW, ← hc, hcn, hy, hN]; rfl
                        have hok2 : ∀ i, i < sk + (j + 1) → 0 ≤ cols.getD i 0 ∧ cols.getD i 0 < (W : Int) := fun i hi => by
                          by_cases e : i = sk + j
                          · rw [e, ← hc]; omega
                          · exact hokj i (by omega)
                        refine J.condF rfl rfl ?_
                        refine J.skip rfl ?_
                        refine J.seq rfl ?_
                        refine J.region rfl ?_
                        refine JO.pur rfl rfl rfl (Pur.loadA rfl rfl rfl CellsIn.blk) ?_
                        refine JO.pur rfl rfl rfl (Pur.move rfl) ?_
                        refine JO.pur rfl rfl rfl (Pur.move rfl) ?_
                        refine JO.pur rfl rfl rfl (Pur.mul rfl rfl (by rw [hkwI]; exact wr64 (by omega))) ?_
                        refine JO.setv (u' := .int .i64 ((k * W : Nat) : Int)) 101 rfl (congrArg (Value.int .i64) hkwI) ?_
                        refine JO.pur rfl rfl rfl (Pur.move rfl) ?_
                        refine JO.pur rfl rfl rfl (Pur.add rfl rfl (wr64 (by omega))) ?_
                        refine JO.setv (u' := .int .i64 ((N : Nat) : Int)) 103 rfl (congrArg (Value.int .i64) (by rw [hN, hcn]; rfl)) ?_
                        refine JO.eff rfl rfl rfl (Eff.call rfl (d_Ith (rs := canD rs) (i := ((N : Nat) : Int)) rfl)) ?_
                        rintro _ _ ⟨a104, c104, rfl, rfl⟩
                        rw [hith]
                        refine JO.pur rfl rfl rfl (Pur.move rfl) ?_
                        refine JO.pur rfl rfl rfl (Pur.extract rfl rfl) ?_
                        refine JO.setv (u' := .slice a104 y.length c104) 105 rfl rfl ?_
                        refine JO.pur rfl rfl rfl (Pur.extract rfl rfl) ?_
                        refine JO.pur rfl rfl rfl (Pur.assign rfl) ?_
                        refine JO.pur rfl rfl rfl (Pur.assign rfl) ?_
                        refine JO.nil ?_
                        refine J.region rfl ?_
                        refine JO.pur rfl rfl rfl (Pur.fieldAddr rfl) ?_
                        refine JO.pur rfl rfl rfl (Pur.load rfl (CellIn.blk rfl)) ?_
                        refine JO.pur rfl rfl rfl (Pur.move rfl) ?_
                        refine JO.eff rfl rfl rfl (Eff.buildSlice hE [⟨a104, y.length, c104⟩] rfl rfl rfl rfl rfl rfl rfl) ?_
                        rintro _ _ ⟨b110, rfl, -, rfl⟩
                        refine JO.eff rfl rfl rfl (Eff.append rfl rfl rfl rfl (by first | rfl | omega | (simp; done) | (simp; omega)) (by first | rfl | omega | (simp; done) | (simp; omega)) (by decide) (by simp; omega) (by simp; omega) (fun h => by cases h)) ?_
                        rintro _ _ ⟨a111, c111, rfl, rfl⟩
                        refine JO.pur rfl rfl rfl (Pur.fieldAddr rfl) ?_
                        refine JO.effN rfl rfl (Eff.storeB rfl rfl rfl (.tail .head)) ?_
                        rintro _ _ ⟨rfl, rfl⟩
                        refine JO.nil ?_
                        refine J.inBlock ?_
                        refine J.region rfl ?_
                        refine JO.pur rfl rfl rfl (Pur.add rfl rfl (wr64 (by omega))) ?_
                        refine JO.pur rfl rfl rfl (Pur.move rfl) ?_
                        refine JO.nil ?_
                        exact J.weaken (.cons rfl (congrArg (Value.int .i64) (by first | rfl | (dsimp only; omega))) (.cons rfl rfl (.cons rfl rfl (.cons rfl rfl (.cons rfl rfl (.cons rfl rfl (.cons rfl rfl (.cons rfl rfl (.cons rfl rfl (.cons rfl rfl (.cons rfl rfl (.cons rfl rfl .nil)))))))))))) (fun h s => by have s2 := snoc_row (E := intE) (a := a104) (n := y.length) (cap := c104) (xs := y) (hs := hs1) (xss := fromK rs starts cols (sk + j)) rfl s; rw [← hst] at s2; dsimp only; simp only [List.length_append, List.length_cons, List.length_nil] at s2 ⊢; exact SubC.out h s2) (ihj (j + 1, a111, c111, hs1 ++ [⟨a104, y.length, c104⟩]) ⟨by dsimp only; omega, by dsimp only; simp [hh1]; omega, hok2⟩ (by dsimp only; omega))
                  · try simp only [decide_eq_true_eq, decide_eq_false_iff_not, Bool.not_eq_true', Bool.not_eq_false', Bool.and_eq_true, Bool.or_eq_true, Bool.and_eq_false_iff, Bool.or_eq_false_iff, Option.isNone_some, Option.isSome_some, Option.isNone_none, Option.isSome_none, Int.not_lt, Int.not_le, beq_iff_eq, beq_eq_false_iff_ne, bne_iff_ne, ne_eq, Bool.not_not, Decidable.not_not] at h86
                    have hjm : j = m := by omega
                    subst hjm
                    refine J.condF rfl rfl ?_
                    refine J.exit rfl rfl ?_
                    refine J.inBlock ?_
                    refine J.region rfl ?_
                    refine JO.pur rfl rfl rfl (Pur.add rfl rfl (wr64 (by omega))) ?_
                    refine JO.pur rfl rfl rfl (Pur.move rfl) ?_
                    refine JO.nil ?_
                    exact J.weaken (.cons rfl (congrArg (Value.int .i64) (by first | rfl | (dsimp only; omega))) (.cons rfl rfl (.cons rfl rfl (.cons rfl rfl (.cons rfl rfl (.cons rfl rfl (.cons rfl rfl (.cons rfl rfl .nil)))))))) (fun h s => by dsimp only; exact SubC.out h s) (ihk (k + 1, sk + j, a1, c1, hs1) ⟨by dsimp only; omega, by dsimp only; rw [hs1e]; omega, hh1, hokj⟩ (by dsimp only; omega))
                · try simp only [decide_eq_true_eq, decide_eq_false_iff_not, Bool.not_eq_true', Bool.not_eq_false', Bool.and_eq_true, Bool.or_eq_true, Bool.and_eq_false_iff, Bool.or_eq_false_iff, Option.isNone_some, Option.isSome_some, Option.isNone_none, Option.isSome_none, Int.not_lt, Int.not_le, beq_iff_eq, beq_eq_false_iff_ne, bne_iff_ne, ne_eq, Bool.not_not, Decidable.not_not] at h71
                  have hke : k = R := by omega
                  subst hke
                  have hskc : sk = cols.length := by have := hchk.2.2.1; omega
                  subst hskc
                  refine J.condF rfl rfl ?_
                  refine J.exit rfl rfl ?_
                  refine J.seq rfl ?_
                  refine J.seq rfl ?_
                  refine J.region rfl ?_
                  refine JO.pur rfl rfl rfl (Pur.loadA rfl rfl rfl CellsIn.blk) ?_
                  refine JO.effR rfl rfl rfl (Eff.call rfl (s_Valid (rs := rs) (hs := hs0) (xss := (fromK rs starts cols (cols.length))) rfl rfl)) ?_
                  refine JO.pur rfl rfl rfl (Pur.not rfl) ?_
                  refine JO.nil ?_
                  refine J.splitB 117 rfl (fun h117 => ?_) (fun h117 => ?_)
                  · try simp only [decide_eq_true_eq, decide_eq_false_iff_not, Bool.not_eq_true', Bool.not_eq_false', Bool.and_eq_true, Bool.or_eq_true, Bool.and_eq_false_iff, Bool.or_eq_false_iff, Option.isNone_some, Option.isSome_some, Option.isNone_none, Option.isSome_none, Int.not_lt, Int.not_le, beq_iff_eq, beq_eq_false_iff_ne, bne_iff_ne, ne_eq, Bool.not_not, Decidable.not_not] at h117
                    have hbv := h117
                    refine J.condT rfl rfl ?_
                    refine J.seq rfl ?_
                    refine J.region rfl ?_
                    refine JO.pur rfl rfl rfl (Pur.build (cs := [_, _]) rfl rfl) ?_
                    refine JO.effN rfl rfl (Eff.storeBA (cs' := [_, _]) rfl rfl (by rfl) (by rfl) (by rfl)) ?_
                    rintro _ _ ⟨rfl, rfl⟩
                    refine JO.pur rfl rfl rfl (Pur.assign rfl) ?_
                    refine JO.nil ?_
                    refine J.retC rfl (.cell rfl (ld_agg rfl CellsIn.blk) (.tmp rfl .nil)) ?_
                    have hv : frmS rs starts cols = (([], []), 5) := by
                      unfold frmS; rw [if_neg (not_not_intro hgd), if_neg (not_not_intro hl2), ← hR]
                      rw [if_pos (fun g => hbv g.2.2)]
                    refine ⟨_, _, ⟨none, 0, none, 0, [], rfl, rfl⟩, by rw [hv]; rfl, fun h s => ?_⟩
                    rw [hv]; exact sl_nil_new (sl_nil_new (rows_nil (SubC.out h s)))
                  · try simp only [decide_eq_true_eq, decide_eq_false_iff_not, Bool.not_eq_true', Bool.not_eq_false', Bool.and_eq_true, Bool.or_eq_true, Bool.and_eq_false_iff, Bool.or_eq_false_iff, Option.isNone_some, Option.isSome_some, Option.isNone_none, Option.isSome_none, Int.not_lt, Int.not_le, beq_iff_eq, beq_eq_false_iff_ne, bne_iff_ne, ne_eq, Bool.not_not, Decidable.not_not] at h117
                    have hgv := h117
                    refine J.condF rfl rfl ?_
                    refine J.skip rfl ?_
                    refine J.seq rfl ?_
                    refine J.region rfl ?_
                    refine JO.pur rfl rfl rfl (Pur.loadA rfl rfl rfl CellsIn.blk) ?_
                    refine JO.effN rfl rfl (Eff.storeBA (cs' := [_, _]) rfl rfl (by rfl) (by rfl) (by rfl)) ?_
                    rintro _ _ ⟨rfl, rfl⟩
                    refine JO.pur rfl rfl rfl (Pur.assign rfl) ?_
                    refine JO.nil ?_
                    refine J.retC rfl (.cell rfl (ld_agg rfl CellsIn.blk) (.tmp rfl .nil)) ?_
                    have hgc : goodC rs cols := fun i hi => by rw [← hW]; exact hokc i hi
                    have hv : frmS rs starts cols = ((rs, (fromK rs starts cols (cols.length))), 0) := by
                      unfold frmS; rw [if_neg (not_not_intro hgd), if_neg (not_not_intro hl2), ← hR]
                      rw [if_neg (not_not_intro ⟨hchk, hgc, hgv⟩)]
                    refine ⟨_, _, ⟨a67, c67, a0, c0, hs0, rfl, rfl⟩, by rw [hv]; dsimp only; rw [fromK_len, ← hh0]; rfl, fun h s => ?_⟩
                    rw [hv]
                    exact SubC.out h s

end Go.Proofs.Ytnhippfllgnngaa

/- The text SpPlain6. -/
set_option linter.unusedVariables false
set_option linter.unusedSimpArgs false
/-! The reference's way from lists that are compressed by rows. -/
namespace Go.Proofs.Ytnhippfllgnngaa
open Go Go.KK Dm
theorem othK_mono (ps : List (Int × Int)) (w : Nat) : ∀ j i, i ≤ j → (othK ps w i).length ≤ (othK ps w j).length
  | 0, i, h => by rw [show i = 0 by omega]; exact Nat.le_refl _
  | j + 1, i, h => by
    by_cases e : i = j + 1
    · rw [e]; exact Nat.le_refl _
    · have := othK_mono ps w j i (by omega)
      rw [othK_succ, List.length_append]; omega
theorem stsK_get {ps : List (Int × Int)} {w R j : Nat} (h : j < R + 1) : (stsK ps w R).getD j 0 = ((othK ps w j).length : Int) := by
  unfold stsK
  rw [List.getD_eq_getElem?_getD, List.getElem?_map, List.getElem?_range h]; rfl
theorem oth_col {rs : List Rg} {xss : List (List Int)} (h : okS rs xss) (hl : rs.length = 2) {R : Nat} (hR : R = cnt ((canD rs).getD 0 default)) : othK (tabL (canD rs) xss) 0 R = colL (canD rs) xss := by
  rw [othK_sorted (tab_sorted h hl) (fun p hp => (tab_bnd h hl hp).1) R, List.filter_eq_self.2 (fun p hp => decide_eq_true (by rw [hR]; exact (tab_bnd h hl hp).2))]
  unfold tabL colL
  rw [List.map_map]; rfl
/-- A sorted list's counts. -/
theorem cnt_sorted {f : Nat → Int} {l : List (List Int)} {g : List Int → Int} (hs : l.Pairwise fun x y => g x ≤ g y) {i : Nat} {x : List Int} (hx : l[i]? = some x) (k : Int) : g x < k ↔ i < l.countP fun y => decide (g y < k) := by
  have hi := (List.getElem?_eq_some_iff.1 hx).1
  have hp := List.pairwise_iff_getElem.1 hs
  have hg : g l[i] = g x := by rw [List.getElem?_eq_getElem hi] at hx; rw [Option.some.inj hx]
  have e : l.countP (fun y => decide (g y < k)) = (l.take (i + 1)).countP (fun y => decide (g y < k)) + (l.drop (i + 1)).countP (fun y => decide (g y < k)) := by
    conv => lhs; rw [← List.take_append_drop (i + 1) l, List.countP_append]
  constructor
  · intro h
    have a1 : (l.take (i + 1)).countP (fun y => decide (g y < k)) = (l.take (i + 1)).length := List.countP_eq_length.2 fun y hy => by
      obtain ⟨j, hj, e⟩ := List.getElem_of_mem hy
      rw [List.length_take] at hj
      rw [List.getElem_take] at e
      by_cases ej : j = i
      · subst ej; rw [← e]; exact decide_eq_true (by omega)
      · have := hp j i (by omega) hi (by omega)
        rw [e] at this; exact decide_eq_true (by omega)
    rw [e, a1, List.length_take]; omega
  · intro h
    refine Classical.byContradiction fun hn => ?_
    have a2 : (l.drop i).countP (fun y => decide (g y < k)) = 0 := List.countP_eq_zero.2 fun y hy => by
      obtain ⟨j, hj, e⟩ := List.getElem_of_mem hy
      rw [List.length_drop] at hj
      rw [List.getElem_drop] at e
      by_cases ej : j = 0
      · subst ej; rw [← e]; simp only [Nat.add_zero]; simp; omega
      · have := hp i (i + j) hi (by omega) (by omega)
        rw [e] at this; simp; omega
    have e3 : l.countP (fun y => decide (g y < k)) = (l.take i).countP (fun y => decide (g y < k)) + (l.drop i).countP (fun y => decide (g y < k)) := by
      conv => lhs; rw [← List.take_append_drop i l, List.countP_append]
    have := List.countP_le_length (p := fun y => decide (g y < k)) (l := l.take i)
    rw [List.length_take] at this
    omega
theorem sts_cnt {rs : List Rg} {xss : List (List Int)} (h : okS rs xss) (hl : rs.length = 2) (k : Nat) : (othK (tabL (canD rs) xss) 0 k).length = xss.countP fun x => decide (memS (canD rs) 0 (x.getD 0 0) < (k : Int)) := by
  rw [othK_cnt _ 0 (fun p hp => (tab_bnd h hl hp).1)]
  unfold tabL
  rw [List.countP_map]; rfl
theorem rows_sorted {rs : List Rg} {xss : List (List Int)} (h : okS rs xss) (hl : rs.length = 2) : xss.Pairwise fun x y => memS (canD rs) 0 (x.getD 0 0) ≤ memS (canD rs) 0 (y.getD 0 0) := by
  have := tab_sorted h hl
  unfold tabL at this
  rwa [List.pairwise_map] at this
/-- What Rows gives names the indexes again. -/
theorem rows_from {rs : List Rg} {xss : List (List Int)} (h : okS rs xss) (hl : rs.length = 2) {R : Nat} (hR : R = cnt ((canD rs).getD 0 default)) :
    chkF R (stsK (tabL (canD rs) xss) 0 R) (colL (canD rs) xss) ∧ goodC rs (colL (canD rs) xss) ∧ fromK rs (stsK (tabL (canD rs) xss) 0 R) (colL (canD rs) xss) (colL (canD rs) xss).length = xss := by
  have hcl : (colL (canD rs) xss).length = xss.length := by simp [colL]
  have hchk : chkF R (stsK (tabL (canD rs) xss) 0 R) (colL (canD rs) xss) := by
    refine ⟨stsK_len _ _ _, ?_, ?_, by rw [hcl]; exact h.2.1, fun i hi h1 => ?_⟩
    · rw [stsK_get (by omega)]; rfl
    · rw [stsK_get (by omega), oth_col h hl hR]
    · rw [stsK_len] at hi
      rw [stsK_get (by omega), stsK_get (by omega)]
      have := othK_mono (tabL (canD rs) xss) 0 i (i - 1) (by omega)
      omega
  have hcg : ∀ {i : Nat} {x : List Int}, xss[i]? = some x → (colL (canD rs) xss).getD i 0 = memS (canD rs) 1 (x.getD 1 0) := fun {i x} hx => by
    unfold colL; exact getD_of' (by rw [List.getElem?_map, hx]; rfl)
  refine ⟨hchk, fun i hi => ?_, ?_⟩
  · rw [hcl] at hi
    obtain ⟨x, hx⟩ : ∃ x, xss[i]? = some x := ⟨_, List.getElem?_eq_getElem hi⟩
    obtain ⟨r, c, m0, m1, l0, l1, e⟩ := at_rc h.1 hl (okS_some h (List.mem_of_getElem? hx))
    rw [hcg hx, m1]; omega
  · apply List.ext_getElem?
    intro i
    by_cases hi : i < xss.length
    · obtain ⟨x, hx⟩ : ∃ x, xss[i]? = some x := ⟨_, List.getElem?_eq_getElem hi⟩
      have hsome := okS_some h (List.mem_of_getElem? hx)
      obtain ⟨r, c, m0, m1, l0, l1, e⟩ := at_rc h.1 hl hsome
      have c1 := cnt_sorted (f := fun _ => 0) (rows_sorted h hl) hx (r : Int)
      have c2 := cnt_sorted (f := fun _ => 0) (rows_sorted h hl) hx ((r + 1 : Nat) : Int)
      rw [m0, ← sts_cnt h hl r] at c1
      rw [m0, ← sts_cnt h hl (r + 1)] at c2
      have hra : rowAt (stsK (tabL (canD rs) xss) 0 R) i = r := rowAt_eq hchk (by omega) (by rw [stsK_get (by omega)]; omega) (by rw [stsK_get (by omega)]; omega)
      unfold fromK
      rw [List.getElem?_map, List.getElem?_range (by omega), hx]
      show some (ixD (canD rs) (rowAt (stsK (tabL (canD rs) xss) 0 R) i * _ + _)) = some x
      rw [hra, hcg hx, m1]
      obtain ⟨n, hn⟩ := Option.isSome_iff_exists.1 hsome
      unfold atS at e
      rw [hn] at e
      have e2 : n = r * cnt ((canD rs).getD 1 default) + c := Int.ofNat.inj e
      have hne : rs ≠ [] := fun e => by rw [e] at hl; simp at hl
      have e3 := (plD_iff h.1.2.2.1).1 hn
      rw [← canD_idx h.1.2.2.1 hne] at e3
      have hlt : n < cntD (canD rs) := by rw [← idx_len]; exact (List.getElem?_eq_some_iff.1 e3).1
      rw [ixD_get hlt] at e3
      rw [show ((c : Nat) : Int).toNat = c from rfl, ← e2]; exact e3
    · rw [List.getElem?_eq_none (by rw [fromK_len]; omega), List.getElem?_eq_none (by omega)]
end Go.Proofs.Ytnhippfllgnngaa
