/-
  A part of the proof of the claim that this folder bears.
-/
import Derived.Test.YtnhippfllgnngaaPAO
import Derived.Test.YtnhippfllgnngaaPAI
import Derived.Test.YtnhippfllgnngaaKC
import Derived.Test.YtnhippfllgnngaaPAL
/- The text SM7. -/
set_option linter.unusedVariables false
set_option linter.unusedSimpArgs false
set_option maxRecDepth 10000
namespace Go.Proofs.Ytnhippfllgnngaa
open Go Go.KK Dm

theorem rows_one {α : Type} {E : Enc α} {L : List Asn} {xa : Option Addr} {xc : Nat} {x : List α} [hx : SlIn E L xa x] (h1 : xa = none → x.length = 0 ∧ xc = 0) (h2 : x.length ≤ xc) : RowsR E L [⟨xa, x.length, xc⟩] [x] := ⟨fun h s => ⟨rfl, fun i hd xs e1 e2 => by
  cases i with
  | succ i => simp at e1
  | zero =>
    simp only [List.getElem?_cons_zero, Option.some.injEq] at e1 e2
    subst e1; subst e2
    exact ⟨hx.out h s, h1, h2⟩⟩⟩
theorem findL_neg2 {l : List (List Int)} {x : List Int} : 0 ≤ findL l x ↔ x ∈ l := by
  have := findL_neg (l := l) (x := x)
  constructor
  · intro h; exact Classical.byContradiction fun g => by have := this.2 g; omega
  · intro h; exact Int.not_lt.1 fun g => this.1 g h
theorem s_Add {L : List Asn} {a la xa : Option Addr} {n cap ln lc xn xc : Nat} {rs : List Rg} {hs : List Hdr} {xss : List (List Int)} {x : List Int} [SlIn rgE L a rs] [SlIn hE L la hs] [RowsR intE L hs xss] [SlIn intE L xa x] (hn : n = rs.length) (hl : ln = hs.length) (hxn : xn = x.length) (hnA : la = none → hs.length = 0 ∧ lc = 0) (hnX : xa = none → x.length = 0 ∧ xc = 0) (hcX : x.length ≤ xc) :
    CallS Try.prog 48 [.agg #[.slice a n cap, .slice la ln lc], .slice xa xn xc].toArray L (fun w M => ∃ pa pc qa qc hs', w = .tuple #[.agg #[.slice pa (a1S rs xss x).1.1.length pc, .slice qa (a1S rs xss x).1.2.length qc], .int .i64 (a1S rs xss x).2] ∧ M = sl rgE pa pc (a1S rs xss x).1.1 :: sl hE qa qc hs' :: rows intE hs' (a1S rs xss x).1.2 :: L) := by
  subst hn
  subst hl
  subst hxn
  refine CallS.fact (fun h s => RowsR.len (E := intE) (hs := hs) (xss := xss) s) fun hnn => ?_
  have hhl : hs.length = xss.length := rows_len hnn
  refine CallS.ent ?_
  refine CallS.enter Try.func48 rfl rfl rfl rfl rfl ?_
  refine J.seq rfl ?_
  refine J.region rfl ?_
  refine JO.eff rfl rfl rfl (Eff.box (cs := [_, _]) rfl rfl) ?_
  rintro _ _ ⟨b2, rfl, rfl⟩
  refine JO.eff rfl rfl rfl (Eff.alloc (cs := [_, _]) rfl) ?_
  rintro _ _ ⟨b4, rfl, rfl⟩
  refine JO.pur rfl rfl rfl (Pur.assign rfl) ?_
  refine JO.nil ?_
  refine J.seq rfl ?_
  refine J.seq rfl ?_
  refine J.region rfl ?_
  refine JO.pur rfl rfl rfl (Pur.loadA rfl rfl rfl CellsIn.blk) ?_
  refine JO.effR rfl rfl rfl (Eff.call rfl (s_Valid (rs := rs) (hs := hs) (xss := xss) rfl rfl)) ?_
  refine JO.pur rfl rfl rfl (Pur.not rfl) ?_
  refine JO.nil ?_
  refine J.splitB 15 rfl (fun h15 => ?_) (fun h15 => ?_)
  · try simp only [decide_eq_true_eq, decide_eq_false_iff_not, Bool.not_eq_true', Bool.not_eq_false', Bool.and_eq_true, Bool.or_eq_true, Bool.and_eq_false_iff, Bool.or_eq_false_iff, Option.isNone_some, Option.isSome_some, Option.isNone_none, Option.isSome_none, Int.not_lt, Int.not_le, beq_iff_eq, beq_eq_false_iff_ne, bne_iff_ne, ne_eq, Bool.not_not, Decidable.not_not] at h15
    have hns : ¬ okS rs xss := h15
    refine J.condT rfl rfl ?_
    refine J.seq rfl ?_
    refine J.region rfl ?_
    refine JO.pur rfl rfl rfl (Pur.build (cs := [_, _]) rfl rfl) ?_
    refine JO.effN rfl rfl (Eff.storeBA (cs' := [_, _]) rfl rfl (by rfl) (by rfl) (by rfl)) ?_
    rintro _ _ ⟨rfl, rfl⟩
    refine JO.pur rfl rfl rfl (Pur.assign rfl) ?_
    refine JO.nil ?_
    refine J.retC rfl (.cell rfl (ld_agg rfl CellsIn.blk) (.tmp rfl .nil)) ?_
    have hv : a1S rs xss x = (([], []), 50) := by unfold a1S; rw [if_pos hns]
    refine ⟨_, _, ⟨none, 0, none, 0, [], rfl, rfl⟩, by rw [hv]; rfl, fun h s => ?_⟩
    rw [hv]; exact sl_nil_new (sl_nil_new (rows_nil (SubC.out h s)))
  · try simp only [decide_eq_true_eq, decide_eq_false_iff_not, Bool.not_eq_true', Bool.not_eq_false', Bool.and_eq_true, Bool.or_eq_true, Bool.and_eq_false_iff, Bool.or_eq_false_iff, Option.isNone_some, Option.isSome_some, Option.isNone_none, Option.isSome_none, Int.not_lt, Int.not_le, beq_iff_eq, beq_eq_false_iff_ne, bne_iff_ne, ne_eq, Bool.not_not, Decidable.not_not] at h15
    have hs0 : okS rs xss := h15
    have hxl4 := hs0.2.1
    refine J.condF rfl rfl ?_
    refine J.skip rfl ?_
    refine J.seq rfl ?_
    refine J.seq rfl ?_
    refine J.region rfl ?_
    refine JO.pur rfl rfl rfl (Pur.fieldAddr rfl) ?_
    refine JO.pur rfl rfl rfl (Pur.loadA rfl rfl rfl (CellsIn.sub1 rfl)) ?_
    refine JO.pur rfl rfl rfl (Pur.move rfl) ?_
    refine JO.effR rfl rfl rfl (Eff.call rfl (d_Has (rs := rs) (x := x) rfl rfl)) ?_
    refine JO.pur rfl rfl rfl (Pur.move rfl) ?_
    refine JO.pur rfl rfl rfl (Pur.extract rfl rfl) ?_
    refine JO.pur rfl rfl rfl (Pur.extract rfl rfl) ?_
    refine JO.pur rfl rfl rfl (Pur.assign rfl) ?_
    refine JO.pur rfl rfl rfl (Pur.assign rfl) ?_
    refine JO.nil ?_
    refine J.seq rfl ?_
    refine J.region rfl ?_
    refine JO.pur rfl rfl rfl (Pur.move rfl) ?_
    refine JO.pur rfl rfl rfl (Pur.neqI rfl rfl) ?_
    refine JO.pur rfl rfl rfl (Pur.move rfl) ?_
    refine JO.splitB 26 rfl (fun h26 => ?_) (fun h26 => ?_)
    · try simp only [decide_eq_true_eq, decide_eq_false_iff_not, Bool.not_eq_true', Bool.not_eq_false', Bool.and_eq_true, Bool.or_eq_true, Bool.and_eq_false_iff, Bool.or_eq_false_iff, Option.isNone_some, Option.isSome_some, Option.isNone_none, Option.isSome_none, Int.not_lt, Int.not_le, beq_iff_eq, beq_eq_false_iff_ne, bne_iff_ne, ne_eq, Bool.not_not, Decidable.not_not] at h26
      have hbad : (plV rs x).2 ≠ 0 := (has_pl hs0.1).1 (.inl (by simpa using h26))
      refine JO.no rfl rfl rfl ?_
      refine JO.no rfl rfl rfl ?_
      refine JO.pur rfl rfl rfl (Pur.pickT rfl rfl) ?_
      refine JO.nil ?_
      refine J.condT rfl rfl ?_
      refine J.seq rfl ?_
      refine J.region rfl ?_
      refine JO.pur rfl rfl rfl (Pur.build (cs := [_, _]) rfl rfl) ?_
      refine JO.effN rfl rfl (Eff.storeBA (cs' := [_, _]) rfl rfl (by rfl) (by rfl) (by rfl)) ?_
      rintro _ _ ⟨rfl, rfl⟩
      refine JO.pur rfl rfl rfl (Pur.assign rfl) ?_
      refine JO.nil ?_
      refine J.retC rfl (.cell rfl (ld_agg rfl CellsIn.blk) (.tmp rfl .nil)) ?_
      have hv : a1S rs xss x = (([], []), 2) := by unfold a1S; rw [if_neg (not_not_intro hs0), if_pos hbad]
      refine ⟨_, _, ⟨none, 0, none, 0, [], rfl, rfl⟩, by rw [hv]; rfl, fun h s => ?_⟩
      rw [hv]; exact sl_nil_new (sl_nil_new (rows_nil (SubC.out h s)))
    · try simp only [decide_eq_true_eq, decide_eq_false_iff_not, Bool.not_eq_true', Bool.not_eq_false', Bool.and_eq_true, Bool.or_eq_true, Bool.and_eq_false_iff, Bool.or_eq_false_iff, Option.isNone_some, Option.isSome_some, Option.isNone_none, Option.isSome_none, Int.not_lt, Int.not_le, beq_iff_eq, beq_eq_false_iff_ne, bne_iff_ne, ne_eq, Bool.not_not, Decidable.not_not] at h26
      refine JO.pur rfl rfl rfl (Pur.move rfl) ?_
      refine JO.pur rfl rfl rfl (Pur.not rfl) ?_
      refine JO.pur rfl rfl rfl (Pur.pickF rfl rfl) ?_
      refine JO.nil ?_
      refine J.splitB 29 rfl (fun h29 => ?_) (fun h29 => ?_)
      · try simp only [decide_eq_true_eq, decide_eq_false_iff_not, Bool.not_eq_true', Bool.not_eq_false', Bool.and_eq_true, Bool.or_eq_true, Bool.and_eq_false_iff, Bool.or_eq_false_iff, Option.isNone_some, Option.isSome_some, Option.isNone_none, Option.isSome_none, Int.not_lt, Int.not_le, beq_iff_eq, beq_eq_false_iff_ne, bne_iff_ne, ne_eq, Bool.not_not, Decidable.not_not] at h29
        have hbad : (plV rs x).2 ≠ 0 := (has_pl hs0.1).1 (.inr (by simpa using h29))
        refine J.condT rfl rfl ?_
        refine J.seq rfl ?_
        refine J.region rfl ?_
        refine JO.pur rfl rfl rfl (Pur.build (cs := [_, _]) rfl rfl) ?_
        refine JO.effN rfl rfl (Eff.storeBA (cs' := [_, _]) rfl rfl (by rfl) (by rfl) (by rfl)) ?_
        rintro _ _ ⟨rfl, rfl⟩
        refine JO.pur rfl rfl rfl (Pur.assign rfl) ?_
        refine JO.nil ?_
        refine J.retC rfl (.cell rfl (ld_agg rfl CellsIn.blk) (.tmp rfl .nil)) ?_
        have hv : a1S rs xss x = (([], []), 2) := by unfold a1S; rw [if_neg (not_not_intro hs0), if_pos hbad]
        refine ⟨_, _, ⟨none, 0, none, 0, [], rfl, rfl⟩, by rw [hv]; rfl, fun h s => ?_⟩
        rw [hv]; exact sl_nil_new (sl_nil_new (rows_nil (SubC.out h s)))
      · try simp only [decide_eq_true_eq, decide_eq_false_iff_not, Bool.not_eq_true', Bool.not_eq_false', Bool.and_eq_true, Bool.or_eq_true, Bool.and_eq_false_iff, Bool.or_eq_false_iff, Option.isNone_some, Option.isSome_some, Option.isNone_none, Option.isSome_none, Int.not_lt, Int.not_le, beq_iff_eq, beq_eq_false_iff_ne, bne_iff_ne, ne_eq, Bool.not_not, Decidable.not_not] at h29
        have hgd : (plV rs x).2 = 0 := Classical.byContradiction fun g => by
          rcases (has_pl hs0.1).2 g with g | g
          · exact g (by simpa using h26)
          · rw [g] at h29; simp at h29
        have hpx := (plV_ok hs0.1 x).1.1 hgd
        refine J.condF rfl rfl ?_
        refine J.skip rfl ?_
        refine J.seq rfl ?_
        refine J.seq rfl ?_
        refine J.region rfl ?_
        refine JO.pur rfl rfl rfl (Pur.loadA rfl rfl rfl CellsIn.blk) ?_
        refine JO.pur rfl rfl rfl (Pur.move rfl) ?_
        refine JO.effR rfl rfl rfl (Eff.call rfl (s_find (rs := rs) (hs := hs) (xss := xss) (x := x) rfl rfl rfl hs0)) ?_
        refine JO.pur rfl rfl rfl (Pur.move rfl) ?_
        refine JO.pur rfl rfl rfl (Pur.extract rfl rfl) ?_
        refine JO.pur rfl rfl rfl (Pur.extract rfl rfl) ?_
        refine JO.setv (u' := .bool (decide (x ∈ xss))) 36 rfl (congrArg Value.bool (fnd_mem hs0 x)) ?_
        refine JO.pur rfl rfl rfl (Pur.assign rfl) ?_
        refine JO.pur rfl rfl rfl (Pur.assign rfl) ?_
        refine JO.nil ?_
        refine J.seq rfl ?_
        refine J.region rfl ?_
        refine JO.pur rfl rfl rfl (Pur.move rfl) ?_
        refine JO.nil ?_
        refine J.splitB 37 rfl (fun h37 => ?_) (fun h37 => ?_)
        · try simp only [decide_eq_true_eq, decide_eq_false_iff_not, Bool.not_eq_true', Bool.not_eq_false', Bool.and_eq_true, Bool.or_eq_true, Bool.and_eq_false_iff, Bool.or_eq_false_iff, Option.isNone_some, Option.isSome_some, Option.isNone_none, Option.isSome_none, Int.not_lt, Int.not_le, beq_iff_eq, beq_eq_false_iff_ne, bne_iff_ne, ne_eq, Bool.not_not, Decidable.not_not] at h37
          have hin : x ∈ xss := by simpa using h37
          refine J.condT rfl rfl ?_
          refine J.seq rfl ?_
          refine J.region rfl ?_
          refine JO.pur rfl rfl rfl (Pur.build (cs := [_, _]) rfl rfl) ?_
          refine JO.effN rfl rfl (Eff.storeBA (cs' := [_, _]) rfl rfl (by rfl) (by rfl) (by rfl)) ?_
          rintro _ _ ⟨rfl, rfl⟩
          refine JO.pur rfl rfl rfl (Pur.assign rfl) ?_
          refine JO.nil ?_
          refine J.retC rfl (.cell rfl (ld_agg rfl CellsIn.blk) (.tmp rfl .nil)) ?_
          have hv : a1S rs xss x = (([], []), 7) := by unfold a1S; rw [if_neg (not_not_intro hs0), if_neg (not_not_intro hgd), if_pos hin]
          refine ⟨_, _, ⟨none, 0, none, 0, [], rfl, rfl⟩, by rw [hv]; rfl, fun h s => ?_⟩
          rw [hv]; exact sl_nil_new (sl_nil_new (rows_nil (SubC.out h s)))
        · try simp only [decide_eq_true_eq, decide_eq_false_iff_not, Bool.not_eq_true', Bool.not_eq_false', Bool.and_eq_true, Bool.or_eq_true, Bool.and_eq_false_iff, Bool.or_eq_false_iff, Option.isNone_some, Option.isSome_some, Option.isNone_none, Option.isSome_none, Int.not_lt, Int.not_le, beq_iff_eq, beq_eq_false_iff_ne, bne_iff_ne, ne_eq, Bool.not_not, Decidable.not_not] at h37
          have hni : ¬ x ∈ xss := by simpa using h37
          refine J.condF rfl rfl ?_
          refine J.skip rfl ?_
          refine J.seq rfl ?_
          refine J.region rfl ?_
          refine JO.pur rfl rfl rfl (Pur.loadA rfl rfl rfl CellsIn.blk) ?_
          refine JO.pur rfl rfl rfl (Pur.move rfl) ?_
          refine JO.eff rfl rfl rfl (Eff.buildSlice hE [⟨xa, x.length, xc⟩] rfl rfl rfl rfl rfl rfl rfl) ?_
          rintro _ _ ⟨b42, rfl, -, rfl⟩
          refine JO.eff rfl rfl rfl (Eff.call rfl (@s_AddAll _ _ _ _ _ _ _ _ _ _ rs hs [⟨xa, x.length, xc⟩] xss [x] inferInstance inferInstance inferInstance inferInstance (rows_one hnX hcX) rfl rfl rfl hnA (fun e => by cases e) (by simp))) ?_
          rintro _ _ ⟨pa, pc, qa, qc, hs1, rfl, rfl⟩
          refine JO.pur rfl rfl rfl (Pur.move rfl) ?_
          refine JO.pur rfl rfl rfl (Pur.extract rfl rfl) ?_
          refine JO.pur rfl rfl rfl (Pur.extract rfl rfl) ?_
          refine JO.pur rfl rfl rfl (Pur.extract rfl rfl) ?_
          refine JO.eff rfl rfl rfl (Eff.alloc (cs := [_, _]) rfl) ?_
          rintro _ _ ⟨b10, rfl, rfl⟩
          refine JO.effN rfl rfl (Eff.storeBA (cs' := [_, _]) rfl rfl (by rfl) (by rfl) (by rfl)) ?_
          rintro _ _ ⟨rfl, rfl⟩
          refine JO.pur rfl rfl rfl (Pur.assign rfl) ?_
          refine JO.pur rfl rfl rfl (Pur.assign rfl) ?_
          refine JO.nil ?_
          refine J.seq rfl ?_
          refine J.region rfl ?_
          refine JO.pur rfl rfl rfl (Pur.loadA rfl rfl rfl CellsIn.blk) ?_
          refine JO.pur rfl rfl rfl (Pur.move rfl) ?_
          refine JO.effN rfl rfl (Eff.storeBA (cs' := [_, _]) rfl rfl (by rfl) (by rfl) (by rfl)) ?_
          rintro _ _ ⟨rfl, rfl⟩
          refine JO.pur rfl rfl rfl (Pur.assign rfl) ?_
          refine JO.nil ?_
          refine J.retC rfl (.cell rfl (ld_agg rfl CellsIn.blk) (.tmp rfl .nil)) ?_
          have hv := a1S_add hs0 hgd hni
          refine ⟨_, _, ⟨pa, pc, qa, qc, hs1, rfl, rfl⟩, by rw [hv]; rfl, fun h s => ?_⟩
          rw [hv]
          exact SubC.out h s

theorem rs_Add {L : List Asn} {a la xa : Option Addr} {n cap ln lc xn xc : Nat} {rs : List Rg} {hs : List Hdr} {xss : List (List Int)} {x : List Int} [SlIn rgE L a rs] [SlIn hE L la hs] [RowsR intE L hs xss] [SlIn intE L xa x] (hn : n = rs.length) (hl : ln = hs.length) (hxn : xn = x.length) :
    CallS Try.prog 49 [.agg #[.slice a n cap, .slice la ln lc], .slice xa xn xc].toArray L (fun w M => ∃ pa pc qa qc hs', w = .tuple #[.agg #[.slice pa (a1S rs xss x).1.1.length pc, .slice qa (a1S rs xss x).1.2.length qc], .int .i64 (a1S rs xss x).2] ∧ M = sl rgE pa pc (a1S rs xss x).1.1 :: sl hE qa qc hs' :: rows intE hs' (a1S rs xss x).1.2 :: L) := by
  subst hn
  subst hl
  subst hxn
  refine CallS.fact (fun h s => RowsR.len (E := intE) (hs := hs) (xss := xss) s) fun hnn => ?_
  have hhl : hs.length = xss.length := rows_len hnn
  refine CallS.ent ?_
  refine CallS.enter Try.func49 rfl rfl rfl rfl rfl ?_
  refine J.seq rfl ?_
  refine J.region rfl ?_
  refine JO.eff rfl rfl rfl (Eff.box (cs := [_, _]) rfl rfl) ?_
  rintro _ _ ⟨b2, rfl, rfl⟩
  refine JO.eff rfl rfl rfl (Eff.alloc (cs := [_, _]) rfl) ?_
  rintro _ _ ⟨b4, rfl, rfl⟩
  refine JO.pur rfl rfl rfl (Pur.assign rfl) ?_
  refine JO.nil ?_
  refine J.seq rfl ?_
  refine J.seq rfl ?_
  refine J.region rfl ?_
  refine JO.pur rfl rfl rfl (Pur.loadA rfl rfl rfl CellsIn.blk) ?_
  refine JO.effR rfl rfl rfl (Eff.call rfl (rs_Valid (rs := rs) (hs := hs) (xss := xss) rfl rfl)) ?_
  refine JO.pur rfl rfl rfl (Pur.not rfl) ?_
  refine JO.nil ?_
  refine J.splitB 12 rfl (fun h12 => ?_) (fun h12 => ?_)
  · try simp only [decide_eq_true_eq, decide_eq_false_iff_not, Bool.not_eq_true', Bool.not_eq_false', Bool.and_eq_true, Bool.or_eq_true, Bool.and_eq_false_iff, Bool.or_eq_false_iff, Option.isNone_some, Option.isSome_some, Option.isNone_none, Option.isSome_none, Int.not_lt, Int.not_le, beq_iff_eq, beq_eq_false_iff_ne, bne_iff_ne, ne_eq, Bool.not_not, Decidable.not_not] at h12
    have hns : ¬ okS rs xss := h12
    refine J.condT rfl rfl ?_
    refine J.seq rfl ?_
    refine J.region rfl ?_
    refine JO.pur rfl rfl rfl (Pur.build (cs := [_, _]) rfl rfl) ?_
    refine JO.effN rfl rfl (Eff.storeBA (cs' := [_, _]) rfl rfl (by rfl) (by rfl) (by rfl)) ?_
    rintro _ _ ⟨rfl, rfl⟩
    refine JO.pur rfl rfl rfl (Pur.assign rfl) ?_
    refine JO.nil ?_
    refine J.retC rfl (.cell rfl (ld_agg rfl CellsIn.blk) (.tmp rfl .nil)) ?_
    have hv : a1S rs xss x = (([], []), 50) := by unfold a1S; rw [if_pos hns]
    refine ⟨_, _, ⟨none, 0, none, 0, [], rfl, rfl⟩, by rw [hv]; rfl, fun h s => ?_⟩
    rw [hv]; exact sl_nil_new (sl_nil_new (rows_nil (SubC.out h s)))
  · try simp only [decide_eq_true_eq, decide_eq_false_iff_not, Bool.not_eq_true', Bool.not_eq_false', Bool.and_eq_true, Bool.or_eq_true, Bool.and_eq_false_iff, Bool.or_eq_false_iff, Option.isNone_some, Option.isSome_some, Option.isNone_none, Option.isSome_none, Int.not_lt, Int.not_le, beq_iff_eq, beq_eq_false_iff_ne, bne_iff_ne, ne_eq, Bool.not_not, Decidable.not_not] at h12
    have hs0 : okS rs xss := h12
    have hxl4 := hs0.2.1
    have hpx : plcV rs xss = (xss.map (atS rs), true) := plcV_yes (fun x hx => (plV_ok hs0.1 x).1.2 (okS_some hs0 hx))
    have hlen : ∀ y ∈ xss, y.length ≤ 1000000 := fun y hy => by have := okS_len hs0 hy; have := hs0.1.2.1; omega
    refine J.condF rfl rfl ?_
    refine J.skip rfl ?_
    refine J.seq rfl ?_
    refine J.region rfl ?_
    refine JO.pur rfl rfl rfl (Pur.fieldAddr rfl) ?_
    refine JO.pur rfl rfl rfl (Pur.loadA rfl rfl rfl (CellsIn.sub1 rfl)) ?_
    refine JO.pur rfl rfl rfl (Pur.move rfl) ?_
    refine JO.effR rfl rfl rfl (Eff.call rfl (r_Place (rs := rs) (x := x) rfl rfl)) ?_
    refine JO.pur rfl rfl rfl (Pur.move rfl) ?_
    refine JO.pur rfl rfl rfl (Pur.extract rfl rfl) ?_
    refine JO.pur rfl rfl rfl (Pur.extract rfl rfl) ?_
    refine JO.pur rfl rfl rfl (Pur.assign rfl) ?_
    refine JO.pur rfl rfl rfl (Pur.assign rfl) ?_
    refine JO.nil ?_
    refine J.seq rfl ?_
    refine J.block rfl ?_
    refine J.seq rfl ?_
    refine J.region rfl ?_
    refine JO.pur rfl rfl rfl (Pur.move rfl) ?_
    refine JO.pur rfl rfl rfl (Pur.neqI rfl rfl) ?_
    refine JO.pur rfl rfl rfl (Pur.assign rfl) ?_
    refine JO.nil ?_
    refine J.splitB 21 rfl (fun h21 => ?_) (fun h21 => ?_)
    · try simp only [decide_eq_true_eq, decide_eq_false_iff_not, Bool.not_eq_true', Bool.not_eq_false', Bool.and_eq_true, Bool.or_eq_true, Bool.and_eq_false_iff, Bool.or_eq_false_iff, Option.isNone_some, Option.isSome_some, Option.isNone_none, Option.isSome_none, Int.not_lt, Int.not_le, beq_iff_eq, beq_eq_false_iff_ne, bne_iff_ne, ne_eq, Bool.not_not, Decidable.not_not] at h21
      have hbad : (plV rs x).2 ≠ 0 := by simpa using h21
      refine J.condT rfl rfl ?_
      refine J.seq rfl ?_
      refine J.region rfl ?_
      refine JO.pur rfl rfl rfl (Pur.build (cs := [_, _]) rfl rfl) ?_
      refine JO.effN rfl rfl (Eff.storeBA (cs' := [_, _]) rfl rfl (by rfl) (by rfl) (by rfl)) ?_
      rintro _ _ ⟨rfl, rfl⟩
      refine JO.pur rfl rfl rfl (Pur.assign rfl) ?_
      refine JO.nil ?_
      refine J.retC rfl (.cell rfl (ld_agg rfl CellsIn.blk) (.tmp rfl .nil)) ?_
      have hv : a1S rs xss x = (([], []), 2) := by unfold a1S; rw [if_neg (not_not_intro hs0), if_pos hbad]
      refine ⟨_, _, ⟨none, 0, none, 0, [], rfl, rfl⟩, by rw [hv]; rfl, fun h s => ?_⟩
      rw [hv]; exact sl_nil_new (sl_nil_new (rows_nil (SubC.out h s)))
    · try simp only [decide_eq_true_eq, decide_eq_false_iff_not, Bool.not_eq_true', Bool.not_eq_false', Bool.and_eq_true, Bool.or_eq_true, Bool.and_eq_false_iff, Bool.or_eq_false_iff, Option.isNone_some, Option.isSome_some, Option.isNone_none, Option.isSome_none, Int.not_lt, Int.not_le, beq_iff_eq, beq_eq_false_iff_ne, bne_iff_ne, ne_eq, Bool.not_not, Decidable.not_not] at h21
      have hgd : (plV rs x).2 = 0 := by simpa using h21
      have hsx := (plV_ok hs0.1 x).1.1 hgd
      have hpa : (plV rs x).1 = atS rs x := by rw [(plV_ok hs0.1 x).2 hsx]
      refine J.condF rfl rfl ?_
      refine J.seq rfl ?_
      refine J.region rfl ?_
      refine JO.pur rfl rfl rfl (Pur.fieldAddr rfl) ?_
      refine JO.pur rfl rfl rfl (Pur.load rfl (CellIn.blk rfl)) ?_
      refine JO.pur rfl rfl rfl (Pur.move rfl) ?_
      refine JO.effR rfl rfl rfl (Eff.call rfl (rs_find (hs := hs) (xss := xss) (x := x) rfl rfl hlen (by omega))) ?_
      refine JO.pur rfl rfl rfl (Pur.geq rfl rfl) ?_
      refine JO.pur rfl rfl rfl (Pur.assign rfl) ?_
      refine JO.nil ?_
      refine J.splitB 25 rfl (fun h25 => ?_) (fun h25 => ?_)
      · try simp only [decide_eq_true_eq, decide_eq_false_iff_not, Bool.not_eq_true', Bool.not_eq_false', Bool.and_eq_true, Bool.or_eq_true, Bool.and_eq_false_iff, Bool.or_eq_false_iff, Option.isNone_some, Option.isSome_some, Option.isNone_none, Option.isSome_none, Int.not_lt, Int.not_le, beq_iff_eq, beq_eq_false_iff_ne, bne_iff_ne, ne_eq, Bool.not_not, Decidable.not_not] at h25
        have hin : x ∈ xss := findL_neg2.1 h25
        refine J.condT rfl rfl ?_
        refine J.seq rfl ?_
        refine J.region rfl ?_
        refine JO.pur rfl rfl rfl (Pur.build (cs := [_, _]) rfl rfl) ?_
        refine JO.effN rfl rfl (Eff.storeBA (cs' := [_, _]) rfl rfl (by rfl) (by rfl) (by rfl)) ?_
        rintro _ _ ⟨rfl, rfl⟩
        refine JO.pur rfl rfl rfl (Pur.assign rfl) ?_
        refine JO.nil ?_
        refine J.retC rfl (.cell rfl (ld_agg rfl CellsIn.blk) (.tmp rfl .nil)) ?_
        have hv : a1S rs xss x = (([], []), 7) := by unfold a1S; rw [if_neg (not_not_intro hs0), if_neg (not_not_intro hgd), if_pos hin]
        refine ⟨_, _, ⟨none, 0, none, 0, [], rfl, rfl⟩, by rw [hv]; rfl, fun h s => ?_⟩
        rw [hv]; exact sl_nil_new (sl_nil_new (rows_nil (SubC.out h s)))
      · try simp only [decide_eq_true_eq, decide_eq_false_iff_not, Bool.not_eq_true', Bool.not_eq_false', Bool.and_eq_true, Bool.or_eq_true, Bool.and_eq_false_iff, Bool.or_eq_false_iff, Option.isNone_some, Option.isSome_some, Option.isNone_none, Option.isSome_none, Int.not_lt, Int.not_le, beq_iff_eq, beq_eq_false_iff_ne, bne_iff_ne, ne_eq, Bool.not_not, Decidable.not_not] at h25
        have hni : ¬ x ∈ xss := fun g => by have := findL_neg2.2 g; omega
        have hml := made_len1 hs0 hsx hni
        refine J.condF rfl rfl ?_
        refine J.seq rfl ?_
        refine J.region rfl ?_
        refine JO.pur rfl rfl rfl (Pur.fieldAddr rfl) ?_
        refine JO.pur rfl rfl rfl (Pur.load rfl (CellIn.blk rfl)) ?_
        refine JO.pur rfl rfl rfl (Pur.len rfl) ?_
        refine JO.pur rfl rfl rfl (Pur.eqlI rfl rfl) ?_
        refine JO.pur rfl rfl rfl (Pur.assign rfl) ?_
        refine JO.nil ?_
        refine J.splitB 32 rfl (fun h32 => ?_) (fun h32 => ?_)
        · try simp only [decide_eq_true_eq, decide_eq_false_iff_not, Bool.not_eq_true', Bool.not_eq_false', Bool.and_eq_true, Bool.or_eq_true, Bool.and_eq_false_iff, Bool.or_eq_false_iff, Option.isNone_some, Option.isSome_some, Option.isNone_none, Option.isSome_none, Int.not_lt, Int.not_le, beq_iff_eq, beq_eq_false_iff_ne, bne_iff_ne, ne_eq, Bool.not_not, Decidable.not_not] at h32
          have hbig : 400 < (madeL rs ((xss ++ [x]).map (atS rs))).length := by omega
          refine J.condT rfl rfl ?_
          refine J.seq rfl ?_
          refine J.region rfl ?_
          refine JO.pur rfl rfl rfl (Pur.build (cs := [_, _]) rfl rfl) ?_
          refine JO.effN rfl rfl (Eff.storeBA (cs' := [_, _]) rfl rfl (by rfl) (by rfl) (by rfl)) ?_
          rintro _ _ ⟨rfl, rfl⟩
          refine JO.pur rfl rfl rfl (Pur.assign rfl) ?_
          refine JO.nil ?_
          refine J.retC rfl (.cell rfl (ld_agg rfl CellsIn.blk) (.tmp rfl .nil)) ?_
          have hv : a1S rs xss x = (([], []), 4) := by unfold a1S; rw [if_neg (not_not_intro hs0), if_neg (not_not_intro hgd), if_neg hni, if_pos hbig]
          refine ⟨_, _, ⟨none, 0, none, 0, [], rfl, rfl⟩, by rw [hv]; rfl, fun h s => ?_⟩
          rw [hv]; exact sl_nil_new (sl_nil_new (rows_nil (SubC.out h s)))
        · try simp only [decide_eq_true_eq, decide_eq_false_iff_not, Bool.not_eq_true', Bool.not_eq_false', Bool.and_eq_true, Bool.or_eq_true, Bool.and_eq_false_iff, Bool.or_eq_false_iff, Option.isNone_some, Option.isSome_some, Option.isNone_none, Option.isSome_none, Int.not_lt, Int.not_le, beq_iff_eq, beq_eq_false_iff_ne, bne_iff_ne, ne_eq, Bool.not_not, Decidable.not_not] at h32
          have hsm : ¬ 400 < (madeL rs ((xss ++ [x]).map (atS rs))).length := by omega
          refine J.condF rfl rfl ?_
          refine J.skip rfl ?_
          refine J.inBlock ?_
          refine J.seq rfl ?_
          refine J.region rfl ?_
          refine JO.pur rfl rfl rfl (Pur.fieldAddr rfl) ?_
          refine JO.pur rfl rfl rfl (Pur.loadA rfl rfl rfl (CellsIn.sub1 rfl)) ?_
          refine JO.pur rfl rfl rfl (Pur.fieldAddr rfl) ?_
          refine JO.pur rfl rfl rfl (Pur.load rfl (CellIn.blk rfl)) ?_
          refine JO.eff rfl rfl rfl (Eff.call rfl (places_ok (rs := rs) (hs := hs) (xss := xss) rfl rfl (by omega))) ?_
          rintro _ _ ⟨a43, c43, rfl, rfl⟩
          rw [hpx]
          refine JO.pur rfl rfl rfl (Pur.move rfl) ?_
          refine JO.pur rfl rfl rfl (Pur.extract rfl rfl) ?_
          refine JO.pur rfl rfl rfl (Pur.extract rfl rfl) ?_
          refine JO.pur rfl rfl rfl (Pur.assign rfl) ?_
          refine JO.pur rfl rfl rfl (Pur.assign rfl) ?_
          refine JO.nil ?_
          refine J.seq rfl ?_
          refine J.mask0 (n := 9) [5, 6, 7] rfl Try.mixed rfl (by kernel_rfl) ?_
          refine JM.takeF 0 (.inr (fun _ h => h)) rfl (by kernel_rfl) rfl rfl rfl (m' := 1) rfl (Pur.fieldAddr rfl) ?_
          refine JM.take 2 (fun _ h => h) rfl (by kernel_rfl) rfl rfl rfl (m' := 5) rfl (Pur.move rfl) ?_
          refine JM.take 3 (fun _ h => h) rfl (by kernel_rfl) rfl rfl rfl (m' := 13) rfl (Pur.move rfl) ?_
          refine JM.many (rs := [1, 4]) (by kernel_rfl) rfl (fun i hi => ?_)
          simp only [List.mem_cons, List.not_mem_nil, or_false] at hi
          rcases hi with rfl | rfl
          · skip
            refine JMi.eff rfl rfl rfl rfl (m' := 15) rfl (Pur.eff (Pur.loadA rfl rfl rfl (CellsIn.sub1 rfl))) ?_
            rintro _ _ ⟨rfl, rfl⟩
            refine ⟨.inr (fun _ h => h), ?_⟩
            refine JM.one (i := 4) (by kernel_rfl) ?_
            refine JMi.eff rfl rfl rfl rfl (m' := 31) rfl (Eff.buildSlice intE [(plV rs x).1] rfl rfl rfl rfl rfl rfl rfl) ?_
            rintro _ _ ⟨b50, rfl, -, rfl⟩
            refine ⟨.inr (fun _ h => h.tail), ?_⟩
            refine JM.one (i := 5) (by kernel_rfl) ?_
            refine JMi.eff rfl rfl rfl rfl (m' := 63) rfl (Eff.append rfl rfl rfl rfl (by first | rfl | omega | (simp; done) | (simp; omega)) (by first | rfl | omega | (simp; done) | (simp; omega)) (by decide) (by simp; omega) (by simp; omega) (fun h => by cases h)) ?_
            rintro _ _ ⟨a51, c51, rfl, rfl⟩
            refine ⟨.inl (by simp), ?_⟩
            refine JM.one (i := 6) (by kernel_rfl) ?_
            refine JMi.eff rfl rfl rfl rfl (m' := 127) rfl (Eff.call rfl (made_ok (rs := rs) (ts := xss.map (atS rs) ++ [(plV rs x).1]) rfl (by simp) hs0.1 (by simp; omega) (fun t ht => by rcases List.mem_append.1 ht with ht | ht; obtain ⟨y, hy, rfl⟩ := List.mem_map.1 ht; exact ⟨atS_nonneg rs y, atS_lt2 hs0.1 (okS_some hs0 hy)⟩; rw [List.mem_singleton.1 ht, hpa]; exact ⟨atS_nonneg rs x, atS_lt2 hs0.1 hsx⟩))) ?_
            rintro _ _ ⟨pa, pc, qa, qc, hs1, rfl, rfl⟩
            refine ⟨.inl (by simp), ?_⟩
            rw [hpa, show xss.map (atS rs) ++ [atS rs x] = (xss ++ [x]).map (atS rs) by simp]
            refine JM.one (i := 7) (by kernel_rfl) ?_
            refine JMi.effN rfl rfl rfl (m' := 255) rfl (Eff.storeBA (cs' := [_, _]) rfl rfl (by rfl) (by rfl) (by rfl)) ?_
            rintro _ _ ⟨rfl, rfl⟩
            refine ⟨.inl (by simp), ?_⟩
            refine JM.takeF 8 (.inl (by kernel_rfl)) rfl (by kernel_rfl) rfl rfl rfl (m' := 511) rfl (Pur.assign rfl) ?_
            refine JM.done rfl ?_
            refine J.retC rfl (.cell rfl (ld_agg rfl CellsIn.blk) (.tmp rfl .nil)) ?_
            have hv : a1S rs xss x = ((rs, (madeL rs ((xss ++ [x]).map (atS rs)))), 0) := by unfold a1S; rw [if_neg (not_not_intro hs0), if_neg (not_not_intro hgd), if_neg hni, if_neg hsm]
            refine ⟨_, _, ⟨pa, pc, qa, qc, hs1, rfl, rfl⟩, by rw [hv]; rfl, fun h s => ?_⟩
            rw [hv]
            exact SubC.out h s
          · skip
            refine JMi.eff rfl rfl rfl rfl (m' := 29) rfl (Eff.buildSlice intE [(plV rs x).1] rfl rfl rfl rfl rfl rfl rfl) ?_
            rintro _ _ ⟨b50, rfl, -, rfl⟩
            refine ⟨.inr (fun _ h => h.tail), ?_⟩
            refine JM.many (rs := [1, 5]) (by kernel_rfl) rfl (fun i hi => ?_)
            simp only [List.mem_cons, List.not_mem_nil, or_false] at hi
            rcases hi with rfl | rfl
            · skip
              refine JMi.eff rfl rfl rfl rfl (m' := 31) rfl (Pur.eff (Pur.loadA rfl rfl rfl (CellsIn.sub1 rfl))) ?_
              rintro _ _ ⟨rfl, rfl⟩
              refine ⟨.inr (fun _ h => h.tail), ?_⟩
              refine JM.one (i := 5) (by kernel_rfl) ?_
              refine JMi.eff rfl rfl rfl rfl (m' := 63) rfl (Eff.append rfl rfl rfl rfl (by first | rfl | omega | (simp; done) | (simp; omega)) (by first | rfl | omega | (simp; done) | (simp; omega)) (by decide) (by simp; omega) (by simp; omega) (fun h => by cases h)) ?_
              rintro _ _ ⟨a51, c51, rfl, rfl⟩
              refine ⟨.inl (by simp), ?_⟩
              refine JM.one (i := 6) (by kernel_rfl) ?_
              refine JMi.eff rfl rfl rfl rfl (m' := 127) rfl (Eff.call rfl (made_ok (rs := rs) (ts := xss.map (atS rs) ++ [(plV rs x).1]) rfl (by simp) hs0.1 (by simp; omega) (fun t ht => by rcases List.mem_append.1 ht with ht | ht; obtain ⟨y, hy, rfl⟩ := List.mem_map.1 ht; exact ⟨atS_nonneg rs y, atS_lt2 hs0.1 (okS_some hs0 hy)⟩; rw [List.mem_singleton.1 ht, hpa]; exact ⟨atS_nonneg rs x, atS_lt2 hs0.1 hsx⟩))) ?_
              rintro _ _ ⟨pa, pc, qa, qc, hs1, rfl, rfl⟩
              refine ⟨.inl (by simp), ?_⟩
              rw [hpa, show xss.map (atS rs) ++ [atS rs x] = (xss ++ [x]).map (atS rs) by simp]
              refine JM.one (i := 7) (by kernel_rfl) ?_
              refine JMi.effN rfl rfl rfl (m' := 255) rfl (Eff.storeBA (cs' := [_, _]) rfl rfl (by rfl) (by rfl) (by rfl)) ?_
              rintro _ _ ⟨rfl, rfl⟩
              refine ⟨.inl (by simp), ?_⟩
              refine JM.takeF 8 (.inl (by kernel_rfl)) rfl (by kernel_rfl) rfl rfl rfl (m' := 511) rfl (Pur.assign rfl) ?_
              refine JM.done rfl ?_
              refine J.retC rfl (.cell rfl (ld_agg rfl CellsIn.blk) (.tmp rfl .nil)) ?_
              have hv : a1S rs xss x = ((rs, (madeL rs ((xss ++ [x]).map (atS rs)))), 0) := by unfold a1S; rw [if_neg (not_not_intro hs0), if_neg (not_not_intro hgd), if_neg hni, if_neg hsm]
              refine ⟨_, _, ⟨pa, pc, qa, qc, hs1, rfl, rfl⟩, by rw [hv]; rfl, fun h s => ?_⟩
              rw [hv]
              exact SubC.out h s
            · skip
              refine JMi.eff rfl rfl rfl rfl (m' := 61) rfl (Eff.append rfl rfl rfl rfl (by first | rfl | omega | (simp; done) | (simp; omega)) (by first | rfl | omega | (simp; done) | (simp; omega)) (by decide) (by simp; omega) (by simp; omega) (fun h => by cases h)) ?_
              rintro _ _ ⟨a51, c51, rfl, rfl⟩
              refine ⟨.inl (by simp), ?_⟩
              refine JM.one (i := 1) (by kernel_rfl) ?_
              refine JMi.eff rfl rfl rfl rfl (m' := 63) rfl (Pur.eff (Pur.loadA rfl rfl rfl (CellsIn.sub1 rfl))) ?_
              rintro _ _ ⟨rfl, rfl⟩
              refine ⟨.inl (.inr (by kernel_rfl)), ?_⟩
              refine JM.one (i := 6) (by kernel_rfl) ?_
              refine JMi.eff rfl rfl rfl rfl (m' := 127) rfl (Eff.call rfl (made_ok (rs := rs) (ts := xss.map (atS rs) ++ [(plV rs x).1]) rfl (by simp) hs0.1 (by simp; omega) (fun t ht => by rcases List.mem_append.1 ht with ht | ht; obtain ⟨y, hy, rfl⟩ := List.mem_map.1 ht; exact ⟨atS_nonneg rs y, atS_lt2 hs0.1 (okS_some hs0 hy)⟩; rw [List.mem_singleton.1 ht, hpa]; exact ⟨atS_nonneg rs x, atS_lt2 hs0.1 hsx⟩))) ?_
              rintro _ _ ⟨pa, pc, qa, qc, hs1, rfl, rfl⟩
              refine ⟨.inl (by simp), ?_⟩
              rw [hpa, show xss.map (atS rs) ++ [atS rs x] = (xss ++ [x]).map (atS rs) by simp]
              refine JM.one (i := 7) (by kernel_rfl) ?_
              refine JMi.effN rfl rfl rfl (m' := 255) rfl (Eff.storeBA (cs' := [_, _]) rfl rfl (by rfl) (by rfl) (by rfl)) ?_
              rintro _ _ ⟨rfl, rfl⟩
              refine ⟨.inl (by simp), ?_⟩
              refine JM.takeF 8 (.inl (by kernel_rfl)) rfl (by kernel_rfl) rfl rfl rfl (m' := 511) rfl (Pur.assign rfl) ?_
              refine JM.done rfl ?_
              refine J.retC rfl (.cell rfl (ld_agg rfl CellsIn.blk) (.tmp rfl .nil)) ?_
              have hv : a1S rs xss x = ((rs, (madeL rs ((xss ++ [x]).map (atS rs)))), 0) := by unfold a1S; rw [if_neg (not_not_intro hs0), if_neg (not_not_intro hgd), if_neg hni, if_neg hsm]
              refine ⟨_, _, ⟨pa, pc, qa, qc, hs1, rfl, rfl⟩, by rw [hv]; rfl, fun h s => ?_⟩
              rw [hv]
              exact SubC.out h s

theorem rem_cl {L : List Asn} {b ya : Option Addr} {cq yn yc bx : Nat} {x y : List Int} [hx : SlIn intE L b x] [hy : SlIn intE L ya y] [hbx : BlkIn L bx (.cells #[.slice b x.length cq] 28)] (hyn : yn = y.length) (hxl : x.length ≤ 1000000) :
    CallS Try.prog 118 [.slice ya yn yc, .pointer (some ⟨bx, 0, none⟩)].toArray L (fun v M => v = .bool (!decide (x = y)) ∧ M = L) := by
  refine CallS.ent ?_
  refine CallS.enter Try.func118 rfl rfl rfl rfl rfl ?_
  refine J.seq rfl ?_
  refine J.region rfl ?_
  refine JO.pur rfl rfl rfl (Pur.assign rfl) ?_
  refine JO.nil ?_
  refine J.seq rfl ?_
  refine J.region rfl ?_
  refine JO.pur rfl rfl rfl (Pur.load rfl (CellIn.blk rfl)) ?_
  refine JO.pur rfl rfl rfl (Pur.move rfl) ?_
  refine JO.effR rfl rfl rfl (Eff.call rfl (eqInts_ok (xs := x) (ys := y) rfl hyn hxl)) ?_
  refine JO.pur rfl rfl rfl (Pur.not rfl) ?_
  refine JO.pur rfl rfl rfl (Pur.assign rfl) ?_
  refine JO.nil ?_
  refine J.ret rfl rfl ?_
  refine ⟨_, _, ⟨rfl, rfl⟩, rfl, SubC.out⟩

theorem s_Remove {L : List Asn} {a la xa : Option Addr} {n cap ln lc xn xc : Nat} {rs : List Rg} {hs : List Hdr} {xss : List (List Int)} {x : List Int} [SlIn rgE L a rs] [SlIn hE L la hs] [RowsR intE L hs xss] [SlIn intE L xa x] (hn : n = rs.length) (hl : ln = hs.length) (hxn : xn = x.length) :
    CallS Try.prog 50 [.agg #[.slice a n cap, .slice la ln lc], .slice xa xn xc].toArray L (fun w M => ∃ pa pc qa qc hs', w = .tuple #[.agg #[.slice pa (remS rs xss x).1.1.length pc, .slice qa (remS rs xss x).1.2.length qc], .int .i64 (remS rs xss x).2] ∧ M = sl rgE pa pc (remS rs xss x).1.1 :: sl hE qa qc hs' :: rows intE hs' (remS rs xss x).1.2 :: L) := by
  subst hn
  subst hl
  subst hxn
  refine CallS.fact (fun h s => RowsR.len (E := intE) (hs := hs) (xss := xss) s) fun hnn => ?_
  have hhl : hs.length = xss.length := rows_len hnn
  refine CallS.ent ?_
  refine CallS.enter Try.func50 rfl rfl rfl rfl rfl ?_
  refine J.seq rfl ?_
  refine J.region rfl ?_
  refine JO.eff rfl rfl rfl (Eff.box (cs := [_, _]) rfl rfl) ?_
  rintro _ _ ⟨b2, rfl, rfl⟩
  refine JO.eff rfl rfl rfl (Eff.box (cs := [_]) rfl rfl) ?_
  rintro _ _ ⟨b3, rfl, rfl⟩
  refine JO.eff rfl rfl rfl (Eff.alloc (cs := [_, _]) rfl) ?_
  rintro _ _ ⟨b4, rfl, rfl⟩
  refine JO.pur rfl rfl rfl (Pur.assign rfl) ?_
  refine JO.nil ?_
  refine J.seq rfl ?_
  refine J.seq rfl ?_
  refine J.region rfl ?_
  refine JO.pur rfl rfl rfl (Pur.loadA rfl rfl rfl CellsIn.blk) ?_
  refine JO.effR rfl rfl rfl (Eff.call rfl (s_Valid (rs := rs) (hs := hs) (xss := xss) rfl rfl)) ?_
  refine JO.pur rfl rfl rfl (Pur.not rfl) ?_
  refine JO.nil ?_
  refine J.splitB 10 rfl (fun h10 => ?_) (fun h10 => ?_)
  · try simp only [decide_eq_true_eq, decide_eq_false_iff_not, Bool.not_eq_true', Bool.not_eq_false', Bool.and_eq_true, Bool.or_eq_true, Bool.and_eq_false_iff, Bool.or_eq_false_iff, Option.isNone_some, Option.isSome_some, Option.isNone_none, Option.isSome_none, Int.not_lt, Int.not_le, beq_iff_eq, beq_eq_false_iff_ne, bne_iff_ne, ne_eq, Bool.not_not, Decidable.not_not] at h10
    have hns : ¬ okS rs xss := h10
    refine J.condT rfl rfl ?_
    refine J.seq rfl ?_
    refine J.region rfl ?_
    refine JO.pur rfl rfl rfl (Pur.build (cs := [_, _]) rfl rfl) ?_
    refine JO.effN rfl rfl (Eff.storeBA (cs' := [_, _]) rfl rfl (by rfl) (by rfl) (by rfl)) ?_
    rintro _ _ ⟨rfl, rfl⟩
    refine JO.pur rfl rfl rfl (Pur.assign rfl) ?_
    refine JO.nil ?_
    refine J.retC rfl (.cell rfl (ld_agg rfl CellsIn.blk) (.tmp rfl .nil)) ?_
    have hv : remS rs xss x = (([], []), 50) := by unfold remS; rw [if_pos hns]
    refine ⟨_, _, ⟨none, 0, none, 0, [], rfl, rfl⟩, by rw [hv]; rfl, fun h s => ?_⟩
    rw [hv]; exact sl_nil_new (sl_nil_new (rows_nil (SubC.out h s)))
  · try simp only [decide_eq_true_eq, decide_eq_false_iff_not, Bool.not_eq_true', Bool.not_eq_false', Bool.and_eq_true, Bool.or_eq_true, Bool.and_eq_false_iff, Bool.or_eq_false_iff, Option.isNone_some, Option.isSome_some, Option.isNone_none, Option.isSome_none, Int.not_lt, Int.not_le, beq_iff_eq, beq_eq_false_iff_ne, bne_iff_ne, ne_eq, Bool.not_not, Decidable.not_not] at h10
    have hs0 : okS rs xss := h10
    have hrow : ∀ y ∈ xss, y.length ≤ 1000 := fun y hy => by have := okS_len hs0 hy; have := hs0.1.2.1; omega
    refine J.condF rfl rfl ?_
    refine J.skip rfl ?_
    refine J.seq rfl ?_
    refine J.seq rfl ?_
    refine J.region rfl ?_
    refine JO.pur rfl rfl rfl (Pur.loadA rfl rfl rfl CellsIn.blk) ?_
    refine JO.pur rfl rfl rfl (Pur.load rfl (CellIn.blk rfl)) ?_
    refine JO.effR rfl rfl rfl (Eff.call rfl (s_find (rs := rs) (hs := hs) (xss := xss) (x := x) rfl rfl rfl hs0)) ?_
    refine JO.pur rfl rfl rfl (Pur.move rfl) ?_
    refine JO.pur rfl rfl rfl (Pur.extract rfl rfl) ?_
    refine JO.pur rfl rfl rfl (Pur.extract rfl rfl) ?_
    refine JO.setv (u' := .bool (decide (x ∈ xss))) 17 rfl (congrArg Value.bool (fnd_mem hs0 x)) ?_
    refine JO.pur rfl rfl rfl (Pur.assign rfl) ?_
    refine JO.pur rfl rfl rfl (Pur.assign rfl) ?_
    refine JO.nil ?_
    refine J.seq rfl ?_
    refine J.region rfl ?_
    refine JO.pur rfl rfl rfl (Pur.move rfl) ?_
    refine JO.pur rfl rfl rfl (Pur.not rfl) ?_
    refine JO.nil ?_
    refine J.splitB 19 rfl (fun h19 => ?_) (fun h19 => ?_)
    · try simp only [decide_eq_true_eq, decide_eq_false_iff_not, Bool.not_eq_true', Bool.not_eq_false', Bool.and_eq_true, Bool.or_eq_true, Bool.and_eq_false_iff, Bool.or_eq_false_iff, Option.isNone_some, Option.isSome_some, Option.isNone_none, Option.isSome_none, Int.not_lt, Int.not_le, beq_iff_eq, beq_eq_false_iff_ne, bne_iff_ne, ne_eq, Bool.not_not, Decidable.not_not] at h19
      have hni : ¬ x ∈ xss := by simpa using h19
      refine J.condT rfl rfl ?_
      refine J.seq rfl ?_
      refine J.region rfl ?_
      refine JO.pur rfl rfl rfl (Pur.build (cs := [_, _]) rfl rfl) ?_
      refine JO.effN rfl rfl (Eff.storeBA (cs' := [_, _]) rfl rfl (by rfl) (by rfl) (by rfl)) ?_
      rintro _ _ ⟨rfl, rfl⟩
      refine JO.pur rfl rfl rfl (Pur.assign rfl) ?_
      refine JO.nil ?_
      refine J.retC rfl (.cell rfl (ld_agg rfl CellsIn.blk) (.tmp rfl .nil)) ?_
      have hv : remS rs xss x = (([], []), 5) := by unfold remS; rw [if_neg (not_not_intro hs0), if_pos hni]
      refine ⟨_, _, ⟨none, 0, none, 0, [], rfl, rfl⟩, by rw [hv]; rfl, fun h s => ?_⟩
      rw [hv]; exact sl_nil_new (sl_nil_new (rows_nil (SubC.out h s)))
    · try simp only [decide_eq_true_eq, decide_eq_false_iff_not, Bool.not_eq_true', Bool.not_eq_false', Bool.and_eq_true, Bool.or_eq_true, Bool.and_eq_false_iff, Bool.or_eq_false_iff, Option.isNone_some, Option.isSome_some, Option.isNone_none, Option.isSome_none, Int.not_lt, Int.not_le, beq_iff_eq, beq_eq_false_iff_ne, bne_iff_ne, ne_eq, Bool.not_not, Decidable.not_not] at h19
      have hin : x ∈ xss := by simpa using h19
      have hxr := hrow x hin
      refine J.condF rfl rfl ?_
      refine J.skip rfl ?_
      refine J.seq rfl ?_
      refine J.region rfl ?_
      refine JO.pur rfl rfl rfl (Pur.loadA rfl rfl rfl CellsIn.blk) ?_
      refine JO.pur rfl rfl rfl (Pur.makeFunc rfl rfl) ?_
      refine JO.eff rfl rfl rfl (Eff.call rfl (some_ok (g := 118) (caps := [.pointer (some ⟨b3, 0, none⟩)]) (p := fun y => !decide (x = y)) (rs := rs) (hs := hs) (xss := xss) rfl rfl hs0.1 hs0.2.1 hrow (fun {M ya yc y} hym hyi hmm => rem_cl (x := x) (y := y) (b := xa) (cq := xc) (hx := SlIn.lift inferInstance hmm) (hy := hyi) (hbx := BlkIn.lift inferInstance hmm) rfl (by omega)))) ?_
      rintro _ _ ⟨pa, pc, qa, qc, hs1, rfl, rfl⟩
      refine JO.effN rfl rfl (Eff.storeBA (cs' := [_, _]) rfl rfl (by rfl) (by rfl) (by rfl)) ?_
      rintro _ _ ⟨rfl, rfl⟩
      refine JO.pur rfl rfl rfl (Pur.assign rfl) ?_
      refine JO.nil ?_
      refine J.retC rfl (.cell rfl (ld_agg rfl CellsIn.blk) (.tmp rfl .nil)) ?_
      have hv : remS rs xss x = ((rs, (xss.filter fun y => !decide (x = y))), 0) := by unfold remS; rw [if_neg (not_not_intro hs0), if_neg (not_not_intro hin)]
      refine ⟨_, _, ⟨pa, pc, qa, qc, hs1, rfl, rfl⟩, by rw [hv]; rfl, fun h s => ?_⟩
      rw [hv]
      exact SubC.out h s

theorem rs_Remove {L : List Asn} {a la xa : Option Addr} {n cap ln lc xn xc : Nat} {rs : List Rg} {hs : List Hdr} {xss : List (List Int)} {x : List Int} [SlIn rgE L a rs] [SlIn hE L la hs] [RowsR intE L hs xss] [SlIn intE L xa x] (hn : n = rs.length) (hl : ln = hs.length) (hxn : xn = x.length) :
    CallS Try.prog 51 [.agg #[.slice a n cap, .slice la ln lc], .slice xa xn xc].toArray L (fun w M => ∃ pa pc qa qc hs', w = .tuple #[.agg #[.slice pa (remS rs xss x).1.1.length pc, .slice qa (remS rs xss x).1.2.length qc], .int .i64 (remS rs xss x).2] ∧ M = sl rgE pa pc (remS rs xss x).1.1 :: sl hE qa qc hs' :: rows intE hs' (remS rs xss x).1.2 :: L) := by
  subst hn
  subst hl
  subst hxn
  refine CallS.fact (fun h s => RowsR.len (E := intE) (hs := hs) (xss := xss) s) fun hnn => ?_
  have hhl : hs.length = xss.length := rows_len hnn
  refine CallS.ent ?_
  refine CallS.enter Try.func51 rfl rfl rfl rfl rfl ?_
  refine J.seq rfl ?_
  refine J.region rfl ?_
  refine JO.eff rfl rfl rfl (Eff.box (cs := [_, _]) rfl rfl) ?_
  rintro _ _ ⟨b2, rfl, rfl⟩
  refine JO.eff rfl rfl rfl (Eff.alloc (cs := [_, _]) rfl) ?_
  rintro _ _ ⟨b4, rfl, rfl⟩
  refine JO.pur rfl rfl rfl (Pur.assign rfl) ?_
  refine JO.nil ?_
  refine J.seq rfl ?_
  refine J.seq rfl ?_
  refine J.region rfl ?_
  refine JO.pur rfl rfl rfl (Pur.loadA rfl rfl rfl CellsIn.blk) ?_
  refine JO.effR rfl rfl rfl (Eff.call rfl (rs_Valid (rs := rs) (hs := hs) (xss := xss) rfl rfl)) ?_
  refine JO.pur rfl rfl rfl (Pur.not rfl) ?_
  refine JO.nil ?_
  refine J.splitB 11 rfl (fun h11 => ?_) (fun h11 => ?_)
  · try simp only [decide_eq_true_eq, decide_eq_false_iff_not, Bool.not_eq_true', Bool.not_eq_false', Bool.and_eq_true, Bool.or_eq_true, Bool.and_eq_false_iff, Bool.or_eq_false_iff, Option.isNone_some, Option.isSome_some, Option.isNone_none, Option.isSome_none, Int.not_lt, Int.not_le, beq_iff_eq, beq_eq_false_iff_ne, bne_iff_ne, ne_eq, Bool.not_not, Decidable.not_not] at h11
    have hns : ¬ okS rs xss := h11
    refine J.condT rfl rfl ?_
    refine J.seq rfl ?_
    refine J.region rfl ?_
    refine JO.pur rfl rfl rfl (Pur.build (cs := [_, _]) rfl rfl) ?_
    refine JO.effN rfl rfl (Eff.storeBA (cs' := [_, _]) rfl rfl (by rfl) (by rfl) (by rfl)) ?_
    rintro _ _ ⟨rfl, rfl⟩
    refine JO.pur rfl rfl rfl (Pur.assign rfl) ?_
    refine JO.nil ?_
    refine J.retC rfl (.cell rfl (ld_agg rfl CellsIn.blk) (.tmp rfl .nil)) ?_
    have hv : remS rs xss x = (([], []), 50) := by unfold remS; rw [if_pos hns]
    refine ⟨_, _, ⟨none, 0, none, 0, [], rfl, rfl⟩, by rw [hv]; rfl, fun h s => ?_⟩
    rw [hv]; exact sl_nil_new (sl_nil_new (rows_nil (SubC.out h s)))
  · try simp only [decide_eq_true_eq, decide_eq_false_iff_not, Bool.not_eq_true', Bool.not_eq_false', Bool.and_eq_true, Bool.or_eq_true, Bool.and_eq_false_iff, Bool.or_eq_false_iff, Option.isNone_some, Option.isSome_some, Option.isNone_none, Option.isSome_none, Int.not_lt, Int.not_le, beq_iff_eq, beq_eq_false_iff_ne, bne_iff_ne, ne_eq, Bool.not_not, Decidable.not_not] at h11
    have hs0 : okS rs xss := h11
    have hxl4 := hs0.2.1
    have hpx : plcV rs xss = (xss.map (atS rs), true) := plcV_yes (fun x hx => (plV_ok hs0.1 x).1.2 (okS_some hs0 hx))
    have hlen : ∀ y ∈ xss, y.length ≤ 1000000 := fun y hy => by have := okS_len hs0 hy; have := hs0.1.2.1; omega
    refine J.condF rfl rfl ?_
    refine J.skip rfl ?_
    refine J.seq rfl ?_
    refine J.region rfl ?_
    refine JO.pur rfl rfl rfl (Pur.fieldAddr rfl) ?_
    refine JO.pur rfl rfl rfl (Pur.load rfl (CellIn.blk rfl)) ?_
    refine JO.pur rfl rfl rfl (Pur.move rfl) ?_
    refine JO.effR rfl rfl rfl (Eff.call rfl (rs_find (hs := hs) (xss := xss) (x := x) rfl rfl hlen (by omega))) ?_
    refine JO.pur rfl rfl rfl (Pur.assign rfl) ?_
    refine JO.nil ?_
    refine J.seq rfl ?_
    refine J.seq rfl ?_
    refine J.region rfl ?_
    refine JO.pur rfl rfl rfl (Pur.move rfl) ?_
    refine JO.pur rfl rfl rfl (Pur.lss rfl rfl) ?_
    refine JO.nil ?_
    refine J.splitB 18 rfl (fun h18 => ?_) (fun h18 => ?_)
    · try simp only [decide_eq_true_eq, decide_eq_false_iff_not, Bool.not_eq_true', Bool.not_eq_false', Bool.and_eq_true, Bool.or_eq_true, Bool.and_eq_false_iff, Bool.or_eq_false_iff, Option.isNone_some, Option.isSome_some, Option.isNone_none, Option.isSome_none, Int.not_lt, Int.not_le, beq_iff_eq, beq_eq_false_iff_ne, bne_iff_ne, ne_eq, Bool.not_not, Decidable.not_not] at h18
      have hni : ¬ x ∈ xss := findL_neg.1 h18
      refine J.condT rfl rfl ?_
      refine J.seq rfl ?_
      refine J.region rfl ?_
      refine JO.pur rfl rfl rfl (Pur.build (cs := [_, _]) rfl rfl) ?_
      refine JO.effN rfl rfl (Eff.storeBA (cs' := [_, _]) rfl rfl (by rfl) (by rfl) (by rfl)) ?_
      rintro _ _ ⟨rfl, rfl⟩
      refine JO.pur rfl rfl rfl (Pur.assign rfl) ?_
      refine JO.nil ?_
      refine J.retC rfl (.cell rfl (ld_agg rfl CellsIn.blk) (.tmp rfl .nil)) ?_
      have hv : remS rs xss x = (([], []), 5) := by unfold remS; rw [if_neg (not_not_intro hs0), if_pos hni]
      refine ⟨_, _, ⟨none, 0, none, 0, [], rfl, rfl⟩, by rw [hv]; rfl, fun h s => ?_⟩
      rw [hv]; exact sl_nil_new (sl_nil_new (rows_nil (SubC.out h s)))
    · try simp only [decide_eq_true_eq, decide_eq_false_iff_not, Bool.not_eq_true', Bool.not_eq_false', Bool.and_eq_true, Bool.or_eq_true, Bool.and_eq_false_iff, Bool.or_eq_false_iff, Option.isNone_some, Option.isSome_some, Option.isNone_none, Option.isSome_none, Int.not_lt, Int.not_le, beq_iff_eq, beq_eq_false_iff_ne, bne_iff_ne, ne_eq, Bool.not_not, Decidable.not_not] at h18
      have hin : x ∈ xss := findL_neg2.1 h18
      obtain ⟨k, hk, hkl, hcut⟩ := rem_parts hs0 hin
      have htl : (xss.map (atS rs)).length = xss.length := List.length_map _
      have hmf : madeL rs ((xss.filter fun y => !decide (x = y)).map (atS rs)) = (xss.filter fun y => !decide (x = y)) := made_filter hs0 _
      refine J.condF rfl rfl ?_
      refine J.skip rfl ?_
      refine J.seq rfl ?_
      refine J.region rfl ?_
      refine JO.pur rfl rfl rfl (Pur.fieldAddr rfl) ?_
      refine JO.pur rfl rfl rfl (Pur.loadA rfl rfl rfl (CellsIn.sub1 rfl)) ?_
      refine JO.pur rfl rfl rfl (Pur.fieldAddr rfl) ?_
      refine JO.pur rfl rfl rfl (Pur.load rfl (CellIn.blk rfl)) ?_
      refine JO.eff rfl rfl rfl (Eff.call rfl (places_ok (rs := rs) (hs := hs) (xss := xss) rfl rfl (by omega))) ?_
      rintro _ _ ⟨a25, c25, rfl, rfl⟩
      rw [hpx]
      refine JO.pur rfl rfl rfl (Pur.move rfl) ?_
      refine JO.pur rfl rfl rfl (Pur.extract rfl rfl) ?_
      refine JO.pur rfl rfl rfl (Pur.extract rfl rfl) ?_
      refine JO.pur rfl rfl rfl (Pur.assign rfl) ?_
      refine JO.pur rfl rfl rfl (Pur.assign rfl) ?_
      refine JO.nil ?_
      refine J.seq rfl ?_
      refine J.fact (fun h s => SlH.nil (E := intE) (a := a25) (cap := c25) (xs := xss.map (atS rs)) s) fun hnl => ?_
      refine J.fact (fun h s => SlH.le (E := intE) (a := a25) (cap := c25) (xs := xss.map (atS rs)) s) fun hcl => ?_
      have hane : a25 ≠ none := fun e => by have := congrArg List.length (hnl e).1; rw [htl, List.length_nil] at this; omega
      refine J.mask0 (n := 14) [10, 11, 12] rfl Try.mixed rfl (by kernel_rfl) ?_
      refine JM.takeF 0 (.inr (fun _ h => h)) rfl (by kernel_rfl) rfl rfl rfl (m' := 1) rfl (Pur.fieldAddr rfl) ?_
      refine JM.take 2 (fun _ h => h) rfl (by kernel_rfl) rfl rfl rfl (m' := 5) rfl (Pur.move rfl) ?_
      refine JM.take 3 (fun _ h => h) rfl (by kernel_rfl) rfl rfl rfl (m' := 13) rfl (Pur.move rfl) ?_
      refine JM.take 4 (fun _ h => h) rfl (by kernel_rfl) rfl rfl rfl (m' := 29) rfl (Pur.move rfl) ?_
      refine JM.take 5 (fun _ h => h) rfl (by kernel_rfl) rfl rfl rfl (m' := 61) rfl (Pur.slice0m (h := k) (mx := k) rfl rfl rfl hk hk (Nat.le_refl _) (by omega)) ?_
      refine JM.take 6 (fun _ h => h) rfl (by kernel_rfl) rfl rfl rfl (m' := 125) rfl (Pur.move rfl) ?_
      refine JM.take 7 (fun _ h => h) rfl (by kernel_rfl) rfl rfl rfl (m' := 253) rfl (Pur.move rfl) ?_
      refine JM.take 8 (fun _ h => h) rfl (by kernel_rfl) rfl rfl rfl (m' := 509) rfl (Pur.add rfl rfl (wr64 (by omega))) ?_
      refine JM.take 9 (fun _ h => h) rfl (by kernel_rfl) rfl rfl rfl (m' := 1021) rfl (Pur.slice1 rfl rfl (show findL xss x + 1 = ((k + 1 : Nat) : Int) by rw [hk]; rfl) (by first | omega | (dsimp only; omega) | (simp; omega)) (by first | omega | (dsimp only; omega) | (simp; omega))) ?_
      refine JM.many (rs := [1, 10]) (by kernel_rfl) rfl (fun i hi => ?_)
      simp only [List.mem_cons, List.not_mem_nil, or_false] at hi
      rcases hi with rfl | rfl
      · skip
        refine JMi.eff rfl rfl rfl rfl (m' := 1023) rfl (Pur.eff (Pur.loadA rfl rfl rfl (CellsIn.sub1 rfl))) ?_
        rintro _ _ ⟨rfl, rfl⟩
        refine ⟨.inr (fun _ h => h), ?_⟩
        refine JM.one (i := 10) (by kernel_rfl) ?_
        refine JMi.eff rfl rfl rfl rfl (m' := 2047) rfl (Eff.appendFull (xs := (xss.map (atS rs)).take k) (ys := (xss.map (atS rs)).drop (k + 1)) rfl rfl (SlIn.takeN inferInstance k) (SlIn.dropN (E := intE) (cap := c25) (a := a25) (xs := (xss.map (atS rs))) (m := 1) inferInstance rfl (k + 1) (fun e => by omega)) rfl rfl (by rw [List.length_take]; omega) (by rw [List.length_drop]) hane (by rw [List.length_take, List.length_drop]; omega) (by rw [List.length_take, List.length_drop]; omega)) ?_
        rintro _ _ ⟨a38, c38, A38, ⟨rfl, hI38⟩, rfl⟩
        refine ⟨.inl (by simp), ?_⟩
        refine JM.one (i := 11) (by kernel_rfl) ?_
        refine JMi.eff rfl rfl rfl rfl (m' := 4095) rfl (Eff.call rfl (made_ok (ta := a38) (rs := rs) (ts := (xss.map (atS rs)).take k ++ (xss.map (atS rs)).drop (k + 1)) rfl (by rw [List.length_append]) hs0.1 (by rw [hcut, List.length_map]; have := List.length_filter_le (fun y => !decide (x = y)) xss; omega) (fun t ht => by rw [hcut] at ht; obtain ⟨y, hy, rfl⟩ := List.mem_map.1 ht; exact ⟨atS_nonneg rs y, atS_lt2 hs0.1 (okS_some hs0 (List.mem_filter.1 hy).1)⟩))) ?_
        rintro _ _ ⟨pa, pc, qa, qc, hs1, rfl, rfl⟩
        refine ⟨.inl (by simp), ?_⟩
        rw [hcut, hmf]
        refine JM.one (i := 12) (by kernel_rfl) ?_
        refine JMi.effN rfl rfl rfl (m' := 8191) rfl (Eff.storeBA (cs' := [_, _]) rfl rfl (by rfl) (by rfl) (by rfl)) ?_
        rintro _ _ ⟨rfl, rfl⟩
        refine ⟨.inl (by simp), ?_⟩
        refine JM.takeF 13 (.inl (by kernel_rfl)) rfl (by kernel_rfl) rfl rfl rfl (m' := 16383) rfl (Pur.assign rfl) ?_
        refine JM.done rfl ?_
        refine J.retC rfl (.cell rfl (ld_agg rfl CellsIn.blk) (.tmp rfl .nil)) ?_
        have hv : remS rs xss x = ((rs, (xss.filter fun y => !decide (x = y))), 0) := by unfold remS; rw [if_neg (not_not_intro hs0), if_neg (not_not_intro hin)]
        refine ⟨_, _, ⟨pa, pc, qa, qc, hs1, rfl, rfl⟩, by rw [hv]; rfl, fun h s => ?_⟩
        rw [hv]
        exact SubC.out h s
      · skip
        refine JMi.eff rfl rfl rfl rfl (m' := 2045) rfl (Eff.appendFull (xs := (xss.map (atS rs)).take k) (ys := (xss.map (atS rs)).drop (k + 1)) rfl rfl (SlIn.takeN inferInstance k) (SlIn.dropN (E := intE) (cap := c25) (a := a25) (xs := (xss.map (atS rs))) (m := 1) inferInstance rfl (k + 1) (fun e => by omega)) rfl rfl (by rw [List.length_take]; omega) (by rw [List.length_drop]) hane (by rw [List.length_take, List.length_drop]; omega) (by rw [List.length_take, List.length_drop]; omega)) ?_
        rintro _ _ ⟨a38, c38, A38, ⟨rfl, hI38⟩, rfl⟩
        refine ⟨.inl (by simp), ?_⟩
        refine JM.one (i := 1) (by kernel_rfl) ?_
        refine JMi.eff rfl rfl rfl rfl (m' := 2047) rfl (Pur.eff (Pur.loadA rfl rfl rfl (CellsIn.sub1 rfl))) ?_
        rintro _ _ ⟨rfl, rfl⟩
        refine ⟨.inl (.inr (by kernel_rfl)), ?_⟩
        refine JM.one (i := 11) (by kernel_rfl) ?_
        refine JMi.eff rfl rfl rfl rfl (m' := 4095) rfl (Eff.call rfl (made_ok (ta := a38) (rs := rs) (ts := (xss.map (atS rs)).take k ++ (xss.map (atS rs)).drop (k + 1)) rfl (by rw [List.length_append]) hs0.1 (by rw [hcut, List.length_map]; have := List.length_filter_le (fun y => !decide (x = y)) xss; omega) (fun t ht => by rw [hcut] at ht; obtain ⟨y, hy, rfl⟩ := List.mem_map.1 ht; exact ⟨atS_nonneg rs y, atS_lt2 hs0.1 (okS_some hs0 (List.mem_filter.1 hy).1)⟩))) ?_
        rintro _ _ ⟨pa, pc, qa, qc, hs1, rfl, rfl⟩
        refine ⟨.inl (by simp), ?_⟩
        rw [hcut, hmf]
        refine JM.one (i := 12) (by kernel_rfl) ?_
        refine JMi.effN rfl rfl rfl (m' := 8191) rfl (Eff.storeBA (cs' := [_, _]) rfl rfl (by rfl) (by rfl) (by rfl)) ?_
        rintro _ _ ⟨rfl, rfl⟩
        refine ⟨.inl (by simp), ?_⟩
        refine JM.takeF 13 (.inl (by kernel_rfl)) rfl (by kernel_rfl) rfl rfl rfl (m' := 16383) rfl (Pur.assign rfl) ?_
        refine JM.done rfl ?_
        refine J.retC rfl (.cell rfl (ld_agg rfl CellsIn.blk) (.tmp rfl .nil)) ?_
        have hv : remS rs xss x = ((rs, (xss.filter fun y => !decide (x = y))), 0) := by unfold remS; rw [if_neg (not_not_intro hs0), if_neg (not_not_intro hin)]
        refine ⟨_, _, ⟨pa, pc, qa, qc, hs1, rfl, rfl⟩, by rw [hv]; rfl, fun h s => ?_⟩
        rw [hv]
        exact SubC.out h s

end Go.Proofs.Ytnhippfllgnngaa

/- The text SN1. -/
set_option linter.unusedVariables false
set_option linter.unusedSimpArgs false
set_option maxRecDepth 10000
namespace Go.Proofs.Ytnhippfllgnngaa
open Go Go.KK Dm

theorem made_b {rs : List Rg} (h : okD rs) (ts : List Int) : ∀ x ∈ madeL rs ts, x.length ≤ 1000000 := fun x hx => by
  unfold madeL at hx
  obtain ⟨i, hi, rfl⟩ := List.mem_map.1 hx
  have h1 := List.mem_range.1 (List.mem_filter.1 hi).1
  rw [ixD_len h1]; have := h.2.1; omega
end Go.Proofs.Ytnhippfllgnngaa
