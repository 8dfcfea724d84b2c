/-
  A part of the proof of the claim that this folder bears.
-/
import Derived.Test.YtnhippfllgnngaaPAK
import Derived.Test.YtnhippfllgnngaaPAI
import Derived.Test.YtnhippfllgnngaaPAA
import Derived.Test.YtnhippfllgnngaaKC
/- The text SM10. -/
set_option linter.unusedVariables false
set_option linter.unusedSimpArgs false
set_option maxRecDepth 10000
namespace Go.Proofs.Ytnhippfllgnngaa
open Go Go.KK Dm

theorem RowsR.lift {α : Type} {E : Enc α} {L M : List Asn} {hs : List Hdr} {xss : List (List α)} (hr : RowsR E L hs xss) (hm : ∀ h, Sat h M → Sat h L) : RowsR E M hs xss := ⟨fun h s => hr.out h (hm h s)⟩
theorem meet_cl {L : List Asn} {b lb ya : Option Addr} {m cq lm lq yn yc bx : Nat} {ss : List Rg} {gs : List Hdr} {yss : List (List Int)} {y : List Int} [hr : SlIn rgE L b ss] [hg : SlIn hE L lb gs] [hrr : RowsR intE L gs yss] [hy : SlIn intE L ya y] [hbx : BlkIn L bx (.cells #[.slice b m cq, .slice lb lm lq] 27)] (hm : m = ss.length) (hl2 : lm = gs.length) (hyn : yn = y.length) (hs2 : okS ss yss) :
    CallS Try.prog 121 [.slice ya yn yc, .pointer (some ⟨bx, 0, none⟩)].toArray L (fun v M => v = .bool (decide (y ∈ yss)) ∧ M = L) := by
  refine CallS.ent ?_
  refine CallS.enter Try.func121 rfl rfl rfl rfl rfl ?_
  refine J.seq rfl ?_
  refine J.region rfl ?_
  refine JO.pur rfl rfl rfl (Pur.assign rfl) ?_
  refine JO.nil ?_
  refine J.seq rfl ?_
  refine J.region rfl ?_
  refine JO.pur rfl rfl rfl (Pur.loadA rfl rfl rfl CellsIn.blk) ?_
  refine JO.pur rfl rfl rfl (Pur.move rfl) ?_
  refine JO.effR rfl rfl rfl (Eff.call rfl (s_find (rs := ss) (hs := gs) (xss := yss) (x := y) hm hl2 hyn hs2)) ?_
  refine JO.pur rfl rfl rfl (Pur.move rfl) ?_
  refine JO.pur rfl rfl rfl (Pur.extract rfl rfl) ?_
  refine JO.pur rfl rfl rfl (Pur.extract rfl rfl) ?_
  refine JO.pur rfl rfl rfl (Pur.assign rfl) ?_
  refine JO.pur rfl rfl rfl (Pur.assign rfl) ?_
  refine JO.nil ?_
  refine J.seq rfl ?_
  refine J.region rfl ?_
  refine JO.pur rfl rfl rfl (Pur.move rfl) ?_
  refine JO.pur rfl rfl rfl (Pur.assign rfl) ?_
  refine JO.nil ?_
  refine J.ret rfl rfl ?_
  refine ⟨_, _, ⟨rfl, rfl⟩, congrArg Value.bool (fnd_mem hs2 y), SubC.out⟩

theorem s_Meet {L : List Asn} {a la b lb : Option Addr} {n cap ln lc m cq lm lq : Nat} {rs ss : List Rg} {hs gs : List Hdr} {xss yss : List (List Int)} [SlIn rgE L a rs] [SlIn hE L la hs] [RowsR intE L hs xss] [SlIn rgE L b ss] [SlIn hE L lb gs] [RowsR intE L gs yss] (hn : n = rs.length) (hl : ln = hs.length) (hm : m = ss.length) (hl2 : lm = gs.length) :
    CallS Try.prog 52 [.agg #[.slice a n cap, .slice la ln lc], .agg #[.slice b m cq, .slice lb lm lq]].toArray L (fun w M => ∃ pa pc qa qc hs', w = .tuple #[.agg #[.slice pa (meetS rs xss ss yss).1.1.length pc, .slice qa (meetS rs xss ss yss).1.2.length qc], .int .i64 (meetS rs xss ss yss).2] ∧ M = sl rgE pa pc (meetS rs xss ss yss).1.1 :: sl hE qa qc hs' :: rows intE hs' (meetS rs xss ss yss).1.2 :: L) := by
  subst hn
  subst hl
  subst hm
  subst hl2
  refine CallS.fact (fun h s => RowsR.len (E := intE) (hs := hs) (xss := xss) s) fun hnn => ?_
  have hhl : hs.length = xss.length := rows_len hnn
  refine CallS.fact (fun h s => RowsR.len (E := intE) (hs := gs) (xss := yss) s) fun hnn2 => ?_
  have hgl : gs.length = yss.length := rows_len hnn2
  refine CallS.ent ?_
  refine CallS.enter Try.func52 rfl rfl rfl rfl rfl ?_
  refine J.seq rfl ?_
  refine J.region rfl ?_
  refine JO.eff rfl rfl rfl (Eff.box (cs := [_, _]) rfl rfl) ?_
  rintro _ _ ⟨b2, rfl, rfl⟩
  refine JO.eff rfl rfl rfl (Eff.box (cs := [_, _]) rfl rfl) ?_
  rintro _ _ ⟨b3, rfl, rfl⟩
  refine JO.eff rfl rfl rfl (Eff.alloc (cs := [_, _]) rfl) ?_
  rintro _ _ ⟨b4, rfl, rfl⟩
  refine JO.pur rfl rfl rfl (Pur.assign rfl) ?_
  refine JO.nil ?_
  refine J.seq rfl ?_
  refine J.seq rfl ?_
  refine J.region rfl ?_
  refine JO.pur rfl rfl rfl (Pur.loadA rfl rfl rfl CellsIn.blk) ?_
  refine JO.pur rfl rfl rfl (Pur.loadA rfl rfl rfl CellsIn.blk) ?_
  refine JO.effR rfl rfl rfl (Eff.call rfl (s_two (rs := rs) (ss := ss) (hs := hs) (gs := gs) (xss := xss) (yss := yss) rfl rfl rfl rfl)) ?_
  refine JO.pur rfl rfl rfl (Pur.assign rfl) ?_
  refine JO.nil ?_
  refine J.seq rfl ?_
  refine J.region rfl ?_
  refine JO.pur rfl rfl rfl (Pur.move rfl) ?_
  refine JO.pur rfl rfl rfl (Pur.neqI rfl rfl) ?_
  refine JO.nil ?_
  refine J.splitB 11 rfl (fun h11 => ?_) (fun h11 => ?_)
  · try simp only [decide_eq_true_eq, decide_eq_false_iff_not, Bool.not_eq_true', Bool.not_eq_false', Bool.and_eq_true, Bool.or_eq_true, Bool.and_eq_false_iff, Bool.or_eq_false_iff, Option.isNone_some, Option.isSome_some, Option.isNone_none, Option.isSome_none, Int.not_lt, Int.not_le, beq_iff_eq, beq_eq_false_iff_ne, bne_iff_ne, ne_eq, Bool.not_not, Decidable.not_not] at h11
    have hne : (twoS rs xss ss yss) ≠ 0 := by simpa using h11
    refine J.condT rfl rfl ?_
    refine J.seq rfl ?_
    refine J.region rfl ?_
    refine JO.pur rfl rfl rfl (Pur.build (cs := [_, _]) rfl rfl) ?_
    refine JO.pur rfl rfl rfl (Pur.move rfl) ?_
    refine JO.effN rfl rfl (Eff.storeBA (cs' := [_, _]) rfl rfl (by rfl) (by rfl) (by rfl)) ?_
    rintro _ _ ⟨rfl, rfl⟩
    refine JO.pur rfl rfl rfl (Pur.assign rfl) ?_
    refine JO.nil ?_
    refine J.retC rfl (.cell rfl (ld_agg rfl CellsIn.blk) (.tmp rfl .nil)) ?_
    have hv : meetS rs xss ss yss = (([], []), (twoS rs xss ss yss)) := if_pos hne
    refine ⟨_, _, ⟨none, 0, none, 0, [], rfl, rfl⟩, by rw [hv]; rfl, fun h s => ?_⟩
    rw [hv]; exact sl_nil_new (sl_nil_new (rows_nil (SubC.out h s)))
  · try simp only [decide_eq_true_eq, decide_eq_false_iff_not, Bool.not_eq_true', Bool.not_eq_false', Bool.and_eq_true, Bool.or_eq_true, Bool.and_eq_false_iff, Bool.or_eq_false_iff, Option.isNone_some, Option.isSome_some, Option.isNone_none, Option.isSome_none, Int.not_lt, Int.not_le, beq_iff_eq, beq_eq_false_iff_ne, bne_iff_ne, ne_eq, Bool.not_not, Decidable.not_not] at h11
    have h0 : (twoS rs xss ss yss) = 0 := by simpa using h11
    obtain ⟨hs1, hs2, hsm⟩ := twoS_ok h0
    have hrow : ∀ y ∈ xss, y.length ≤ 1000 := fun y hy => by have := okS_len hs1 hy; have := hs1.1.2.1; omega
    refine J.condF rfl rfl ?_
    refine J.skip rfl ?_
    refine J.seq rfl ?_
    refine J.region rfl ?_
    refine JO.pur rfl rfl rfl (Pur.loadA rfl rfl rfl CellsIn.blk) ?_
    refine JO.pur rfl rfl rfl (Pur.makeFunc rfl rfl) ?_
    refine JO.eff rfl rfl rfl (Eff.call rfl (some_ok (g := 121) (caps := [.pointer (some ⟨b3, 0, none⟩)]) (p := fun x => decide (x ∈ yss)) (rs := rs) (hs := hs) (xss := xss) rfl rfl hs1.1 hs1.2.1 hrow (fun {M ya yc y} hym hyi hmm => meet_cl (ss := ss) (gs := gs) (yss := yss) (y := y) (b := b) (cq := cq) (lb := lb) (lq := lq) (hr := SlIn.lift inferInstance hmm) (hg := SlIn.lift inferInstance hmm) (hrr := RowsR.lift inferInstance hmm) (hy := hyi) (hbx := BlkIn.lift inferInstance hmm) rfl rfl rfl hs2))) ?_
    rintro _ _ ⟨pa, pc, qa, qc, hs3, rfl, rfl⟩
    refine JO.effN rfl rfl (Eff.storeBA (cs' := [_, _]) rfl rfl (by rfl) (by rfl) (by rfl)) ?_
    rintro _ _ ⟨rfl, rfl⟩
    refine JO.pur rfl rfl rfl (Pur.assign rfl) ?_
    refine JO.nil ?_
    refine J.retC rfl (.cell rfl (ld_agg rfl CellsIn.blk) (.tmp rfl .nil)) ?_
    have hv : meetS rs xss ss yss = ((rs, (xss.filter fun x => decide (x ∈ yss))), 0) := if_neg (fun g => g h0)
    refine ⟨_, _, ⟨pa, pc, qa, qc, hs3, rfl, rfl⟩, by rw [hv]; rfl, fun h s => ?_⟩
    rw [hv]
    exact SubC.out h s

theorem s_Join {L : List Asn} {a la b lb : Option Addr} {n cap ln lc m cq lm lq : Nat} {rs ss : List Rg} {hs gs : List Hdr} {xss yss : List (List Int)} [SlIn rgE L a rs] [SlIn hE L la hs] [RowsR intE L hs xss] [SlIn rgE L b ss] [SlIn hE L lb gs] [RowsR intE L gs yss] (hn : n = rs.length) (hl : ln = hs.length) (hm : m = ss.length) (hl2 : lm = gs.length) (hnA : la = none → hs.length = 0 ∧ lc = 0) (hnB : lb = none → gs.length = 0 ∧ lq = 0) :
    CallS Try.prog 53 [.agg #[.slice a n cap, .slice la ln lc], .agg #[.slice b m cq, .slice lb lm lq]].toArray L (fun w M => ∃ pa pc qa qc hs', w = .tuple #[.agg #[.slice pa (joinS rs xss ss yss).1.1.length pc, .slice qa (joinS rs xss ss yss).1.2.length qc], .int .i64 (joinS rs xss ss yss).2] ∧ M = sl rgE pa pc (joinS rs xss ss yss).1.1 :: sl hE qa qc hs' :: rows intE hs' (joinS rs xss ss yss).1.2 :: L) := by
  subst hn
  subst hl
  subst hm
  subst hl2
  refine CallS.fact (fun h s => RowsR.len (E := intE) (hs := hs) (xss := xss) s) fun hnn => ?_
  have hhl : hs.length = xss.length := rows_len hnn
  refine CallS.fact (fun h s => RowsR.len (E := intE) (hs := gs) (xss := yss) s) fun hnn2 => ?_
  have hgl : gs.length = yss.length := rows_len hnn2
  refine CallS.ent ?_
  refine CallS.enter Try.func53 rfl rfl rfl rfl rfl ?_
  refine J.seq rfl ?_
  refine J.region rfl ?_
  refine JO.eff rfl rfl rfl (Eff.box (cs := [_, _]) rfl rfl) ?_
  rintro _ _ ⟨b2, rfl, rfl⟩
  refine JO.eff rfl rfl rfl (Eff.box (cs := [_, _]) rfl rfl) ?_
  rintro _ _ ⟨b3, rfl, rfl⟩
  refine JO.eff rfl rfl rfl (Eff.alloc (cs := [_, _]) rfl) ?_
  rintro _ _ ⟨b4, rfl, rfl⟩
  refine JO.pur rfl rfl rfl (Pur.assign rfl) ?_
  refine JO.nil ?_
  refine J.seq rfl ?_
  refine J.seq rfl ?_
  refine J.region rfl ?_
  refine JO.pur rfl rfl rfl (Pur.loadA rfl rfl rfl CellsIn.blk) ?_
  refine JO.pur rfl rfl rfl (Pur.loadA rfl rfl rfl CellsIn.blk) ?_
  refine JO.effR rfl rfl rfl (Eff.call rfl (s_two (rs := rs) (ss := ss) (hs := hs) (gs := gs) (xss := xss) (yss := yss) rfl rfl rfl rfl)) ?_
  refine JO.pur rfl rfl rfl (Pur.assign rfl) ?_
  refine JO.nil ?_
  refine J.seq rfl ?_
  refine J.region rfl ?_
  refine JO.pur rfl rfl rfl (Pur.move rfl) ?_
  refine JO.pur rfl rfl rfl (Pur.neqI rfl rfl) ?_
  refine JO.nil ?_
  refine J.splitB 14 rfl (fun h14 => ?_) (fun h14 => ?_)
  · try simp only [decide_eq_true_eq, decide_eq_false_iff_not, Bool.not_eq_true', Bool.not_eq_false', Bool.and_eq_true, Bool.or_eq_true, Bool.and_eq_false_iff, Bool.or_eq_false_iff, Option.isNone_some, Option.isSome_some, Option.isNone_none, Option.isSome_none, Int.not_lt, Int.not_le, beq_iff_eq, beq_eq_false_iff_ne, bne_iff_ne, ne_eq, Bool.not_not, Decidable.not_not] at h14
    have hne : (twoS rs xss ss yss) ≠ 0 := by simpa using h14
    refine J.condT rfl rfl ?_
    refine J.seq rfl ?_
    refine J.region rfl ?_
    refine JO.pur rfl rfl rfl (Pur.build (cs := [_, _]) rfl rfl) ?_
    refine JO.pur rfl rfl rfl (Pur.move rfl) ?_
    refine JO.effN rfl rfl (Eff.storeBA (cs' := [_, _]) rfl rfl (by rfl) (by rfl) (by rfl)) ?_
    rintro _ _ ⟨rfl, rfl⟩
    refine JO.pur rfl rfl rfl (Pur.assign rfl) ?_
    refine JO.nil ?_
    refine J.retC rfl (.cell rfl (ld_agg rfl CellsIn.blk) (.tmp rfl .nil)) ?_
    have hv : joinS rs xss ss yss = (([], []), (twoS rs xss ss yss)) := if_pos hne
    refine ⟨_, _, ⟨none, 0, none, 0, [], rfl, rfl⟩, by rw [hv]; rfl, fun h s => ?_⟩
    rw [hv]; exact sl_nil_new (sl_nil_new (rows_nil (SubC.out h s)))
  · try simp only [decide_eq_true_eq, decide_eq_false_iff_not, Bool.not_eq_true', Bool.not_eq_false', Bool.and_eq_true, Bool.or_eq_true, Bool.and_eq_false_iff, Bool.or_eq_false_iff, Option.isNone_some, Option.isSome_some, Option.isNone_none, Option.isSome_none, Int.not_lt, Int.not_le, beq_iff_eq, beq_eq_false_iff_ne, bne_iff_ne, ne_eq, Bool.not_not, Decidable.not_not] at h14
    have h0 : (twoS rs xss ss yss) = 0 := by simpa using h14
    obtain ⟨hs1, hs2, hsm⟩ := twoS_ok h0
    have hrow : ∀ y ∈ xss, y.length ≤ 1000 := fun y hy => by have := okS_len hs1 hy; have := hs1.1.2.1; omega
    have hy4 := hs2.2.1
    refine J.condF rfl rfl ?_
    refine J.skip rfl ?_
    refine J.seq rfl ?_
    refine J.region rfl ?_
    refine JO.pur rfl rfl rfl (Pur.loadA rfl rfl rfl CellsIn.blk) ?_
    refine JO.pur rfl rfl rfl (Pur.fieldAddr rfl) ?_
    refine JO.pur rfl rfl rfl (Pur.load rfl (CellIn.blk rfl)) ?_
    refine JO.eff rfl rfl rfl (Eff.call rfl (s_AddAll (rs := rs) (hs := hs) (gs := gs) (xss := xss) (yss := yss) rfl rfl rfl hnA hnB (by omega))) ?_
    rintro _ _ ⟨pa, pc, qa, qc, hs3, rfl, rfl⟩
    refine JO.pur rfl rfl rfl (Pur.move rfl) ?_
    refine JO.pur rfl rfl rfl (Pur.extract rfl rfl) ?_
    refine JO.pur rfl rfl rfl (Pur.extract rfl rfl) ?_
    refine JO.pur rfl rfl rfl (Pur.extract rfl rfl) ?_
    refine JO.eff rfl rfl rfl (Eff.alloc (cs := [_, _]) rfl) ?_
    rintro _ _ ⟨b7, rfl, rfl⟩
    refine JO.effN rfl rfl (Eff.storeBA (cs' := [_, _]) rfl rfl (by rfl) (by rfl) (by rfl)) ?_
    rintro _ _ ⟨rfl, rfl⟩
    refine JO.pur rfl rfl rfl (Pur.assign rfl) ?_
    refine JO.pur rfl rfl rfl (Pur.assign rfl) ?_
    refine JO.nil ?_
    refine J.seq rfl ?_
    refine J.region rfl ?_
    refine JO.pur rfl rfl rfl (Pur.loadA rfl rfl rfl CellsIn.blk) ?_
    refine JO.pur rfl rfl rfl (Pur.move rfl) ?_
    refine JO.effN rfl rfl (Eff.storeBA (cs' := [_, _]) rfl rfl (by rfl) (by rfl) (by rfl)) ?_
    rintro _ _ ⟨rfl, rfl⟩
    refine JO.pur rfl rfl rfl (Pur.assign rfl) ?_
    refine JO.nil ?_
    refine J.retC rfl (.cell rfl (ld_agg rfl CellsIn.blk) (.tmp rfl .nil)) ?_
    have hv : joinS rs xss ss yss = addS rs xss yss := if_neg (fun g => g h0)
    refine ⟨_, _, ⟨pa, pc, qa, qc, hs3, rfl, rfl⟩, by rw [hv]; rfl, fun h s => ?_⟩
    rw [hv]
    exact SubC.out h s

end Go.Proofs.Ytnhippfllgnngaa

/- The text SpPlainH. -/
set_option linter.unusedVariables false
set_option linter.unusedSimpArgs false
namespace Go.Proofs.Ytnhippfllgnngaa
open Go Go.KK Dm
theorem countP_both {α : Type} (p q : α → Bool) : ∀ (l : List α), l.countP (fun x => p x || q x) + l.countP (fun x => p x && q x) = l.countP p + l.countP q
  | [] => rfl
  | x :: l => by
    have ih := countP_both p q l
    simp only [List.countP_cons]
    by_cases hp : p x = true <;> by_cases hq : q x = true <;> simp [hp, hq] <;> omega
theorem sam_at {rs ss : List Rg} (h : samD rs ss) (x : List Int) : atS rs x = atS ss x := by unfold atS; rw [sam_pl h]
theorem sam_ok {rs ss : List Rg} {yss : List (List Int)} (h : samD rs ss) (hy : okS ss yss) : okS rs yss :=
  okS_of h.1 hy.2.1 (fun y hy2 => by rw [sam_pl h]; exact okS_some hy hy2) ((okS_pw hy).imp fun {a b} g => by rw [sam_at h, sam_at h]; exact g)
theorem made_mem {rs : List Rg} {ls : List (List Int)} (hok : okD rs) (hall : ∀ x ∈ ls, (plD rs x).isSome = true) (x : List Int) : x ∈ madeL rs (ls.map (atS rs)) ↔ x ∈ ls := by
  unfold madeL
  constructor
  · intro h
    obtain ⟨i, hi, e⟩ := List.mem_map.1 h
    obtain ⟨hi1, hi2⟩ := List.mem_filter.1 hi
    have hlt := List.mem_range.1 hi1
    obtain ⟨y, hy, e2⟩ := List.mem_map.1 (of_decide_eq_true hi2)
    have hx : plD rs x = some i := (plD_iff hok.2.2.1).2 (by rw [← e]; exact ixD_get hlt)
    have hat : atS rs x = atS rs y := by unfold atS at e2 ⊢; rw [hx]; exact e2.symm
    rw [atS_inj hok.2.2.1 (by rw [hx]; rfl) (hall y hy) hat]; exact hy
  · intro h
    obtain ⟨i, hi⟩ := Option.isSome_iff_exists.1 (hall x h)
    have hlt := plD_lt hok.2.2.1 hi
    have hat : atS rs x = (i : Int) := by unfold atS; rw [hi]; rfl
    refine List.mem_map.2 ⟨i, List.mem_filter.2 ⟨List.mem_range.2 hlt, decide_eq_true (List.mem_map.2 ⟨x, h, hat⟩)⟩, ?_⟩
    have h1 := (plD_iff hok.2.2.1).1 hi
    have h2 := ixD_get hlt
    rw [h1] at h2; exact (Option.some.inj h2).symm
/-- What is made is a sparse domain. -/
theorem made_asc {rs : List Rg} (hok : okD rs) (ts : List Int) : (∀ x ∈ madeL rs ts, (plD rs x).isSome = true) ∧ (madeL rs ts).Pairwise fun x y => atS rs x < atS rs y := by
  have hpl : ∀ i, i < cntD rs → plD rs (ixD rs i) = some i := fun i hi => (plD_iff hok.2.2.1).2 (ixD_get hi)
  unfold madeL
  refine ⟨fun x hx => ?_, ?_⟩
  · obtain ⟨i, hi, rfl⟩ := List.mem_map.1 hx
    rw [hpl i (List.mem_range.1 (List.mem_filter.1 hi).1)]; rfl
  · rw [List.pairwise_map]
    refine (List.pairwise_lt_range.filter _).imp_of_mem ?_
    intro i j hi hj hlt
    unfold atS
    rw [hpl i (List.mem_range.1 (List.mem_filter.1 hi).1), hpl j (List.mem_range.1 (List.mem_filter.1 hj).1)]
    exact Int.ofNat_lt.2 hlt
theorem made_ok' {rs : List Rg} (hok : okD rs) {ts : List Int} (hl : (madeL rs ts).length ≤ 400) : okS rs (madeL rs ts) := okS_of hok hl (made_asc hok ts).1 (made_asc hok ts).2
theorem made_self {rs : List Rg} {xss : List (List Int)} (h : okS rs xss) : madeL rs (xss.map (atS rs)) = xss := made_of h.1 (fun y hy => okS_some h hy) (okS_pw h)
theorem sets_len {rs : List Rg} {xss yss : List (List Int)} (hx : okS rs xss) (hy : okS rs yss) : (xss.filter fun x => decide (x ∈ yss)).length + (madeL rs ((xss ++ yss).map (atS rs))).length = xss.length + yss.length := by
  have h1 := made_len rs (xss.map (atS rs))
  rw [made_self hx] at h1
  have h2 := made_len rs (yss.map (atS rs))
  rw [made_self hy] at h2
  have h3 := made_len rs ((xss ++ yss).map (atS rs))
  have h4 := made_len rs ((xss.filter fun x => decide (x ∈ yss)).map (atS rs))
  rw [made_filter hx] at h4
  have h5 := countP_both (fun (i : Nat) => decide ((i : Int) ∈ xss.map (atS rs))) (fun (i : Nat) => decide ((i : Int) ∈ yss.map (atS rs))) (List.range (cntD rs))
  have e1 : (fun (i : Nat) => decide ((i : Int) ∈ (xss ++ yss).map (atS rs))) = fun (i : Nat) => decide ((i : Int) ∈ xss.map (atS rs)) || decide ((i : Int) ∈ yss.map (atS rs)) := by
    funext i
    rw [List.map_append]; simp only [List.mem_append, Bool.decide_or]
  have e2 : (fun (i : Nat) => decide ((i : Int) ∈ (xss.filter fun x => decide (x ∈ yss)).map (atS rs))) = fun (i : Nat) => decide ((i : Int) ∈ xss.map (atS rs)) && decide ((i : Int) ∈ yss.map (atS rs)) := by
    funext i
    rw [← Bool.decide_and]
    refine decide_eq_decide.2 ⟨fun h => ?_, fun h => ?_⟩
    · obtain ⟨x, hx1, hx2⟩ := List.mem_map.1 h
      obtain ⟨hx3, hx4⟩ := List.mem_filter.1 hx1
      exact ⟨List.mem_map.2 ⟨x, hx3, hx2⟩, List.mem_map.2 ⟨x, of_decide_eq_true hx4, hx2⟩⟩
    · obtain ⟨x, hx1, hx2⟩ := List.mem_map.1 h.1
      obtain ⟨y, hy1, hy2⟩ := List.mem_map.1 h.2
      have := atS_inj hx.1.2.2.1 (okS_some hx hx1) (okS_some hy hy1) (by rw [hx2, hy2])
      subst this
      exact List.mem_map.2 ⟨x, List.mem_filter.2 ⟨hx1, decide_eq_true hy1⟩, hx2⟩
  rw [e1] at h3
  rw [e2] at h4
  omega
theorem filt_ok {rs : List Rg} {xss : List (List Int)} (h : okS rs xss) (p : List Int → Bool) : okS rs (xss.filter p) :=
  okS_of h.1 (Nat.le_trans (List.length_filter_le _ _) h.2.1) (fun y hy => okS_some h (List.mem_filter.1 hy).1) ((okS_pw h).filter _)
/-- What follows of a join without an error. -/
theorem addS_ok {rs : List Rg} {xss yss : List (List Int)} (h : (addS rs xss yss).2 = 0) : okS rs xss ∧ (∀ y ∈ yss, (plV rs y).2 = 0) ∧ (madeL rs ((xss ++ yss).map (atS rs))).length ≤ 400 ∧ addS rs xss yss = ((rs, madeL rs ((xss ++ yss).map (atS rs))), 0) := by
  unfold addS at h ⊢
  by_cases h1 : okS rs xss
  · rw [if_neg (not_not_intro h1)] at h ⊢
    by_cases h2 : ∀ y ∈ yss, (plV rs y).2 = 0
    · rw [if_neg (not_not_intro h2)] at h ⊢
      by_cases h3 : 400 < (madeL rs ((xss ++ yss).map (atS rs))).length
      · rw [if_pos h3] at h; cases h
      · rw [if_neg h3]; exact ⟨h1, h2, by omega, rfl⟩
    · rw [if_pos h2] at h; cases h
  · rw [if_pos h1] at h; cases h
theorem addS_all {rs : List Rg} {xss yss : List (List Int)} (h : okS rs xss) (h2 : ∀ y ∈ yss, (plV rs y).2 = 0) : ∀ x ∈ xss ++ yss, (plD rs x).isSome = true := fun x hx => by
  rcases List.mem_append.1 hx with hx | hx
  · exact okS_some h hx
  · exact (plV_ok h.1 x).1.1 (h2 x hx)
end Go.Proofs.Ytnhippfllgnngaa

/- The text SN1. -/
set_option linter.unusedVariables false
set_option linter.unusedSimpArgs false
set_option maxRecDepth 10000
namespace Go.Proofs.Ytnhippfllgnngaa
open Go Go.KK Dm

end Go.Proofs.Ytnhippfllgnngaa

/- The text SN5. -/
set_option linter.unusedVariables false
set_option linter.unusedSimpArgs false
set_option maxRecDepth 10000
namespace Go.Proofs.Ytnhippfllgnngaa
open Go Go.KK Dm

theorem lawSets {L : List Asn} {a la b lb xa : Option Addr} {n cap ln lc m cq lm lq xn xc : Nat} {rs ss : List Rg} {hs gs : List Hdr} {xss yss : List (List Int)} {x : List Int} [SlIn rgE L a rs] [SlIn hE L la hs] [RowsR intE L hs xss] [SlIn rgE L b ss] [SlIn hE L lb gs] [RowsR intE L gs yss] [SlIn intE L xa x] (hn : n = rs.length) (hl : ln = hs.length) (hm : m = ss.length) (hl2 : lm = gs.length) (hxn : xn = x.length) (hb : hs.length ≤ 9223372036854775807) (hb2 : gs.length ≤ 9223372036854775807) (hnA : la = none → hs.length = 0 ∧ lc = 0) (hnB : lb = none → gs.length = 0 ∧ lq = 0) :
    CallS Try.prog 10 [.agg #[.slice a n cap, .slice la ln lc], .agg #[.slice b m cq, .slice lb lm lq], .slice xa xn xc].toArray L (fun v M => v = .bool true ∧ M = L) := by
  subst hxn
  subst hn
  subst hl
  subst hm
  subst hl2
  refine CallS.fact (fun h s => RowsR.len (E := intE) (hs := hs) (xss := xss) s) fun hnn => ?_
  have hhl : hs.length = xss.length := rows_len hnn
  refine CallS.fact (fun h s => RowsR.len (E := intE) (hs := gs) (xss := yss) s) fun hnn2 => ?_
  have hgl : gs.length = yss.length := rows_len hnn2
  refine CallS.ent ?_
  refine CallS.enter Try.func10 rfl rfl rfl rfl rfl ?_
  refine J.seq rfl ?_
  refine J.region rfl ?_
  refine JO.eff rfl rfl rfl (Eff.box (cs := [_, _]) rfl rfl) ?_
  rintro _ _ ⟨b3, rfl, rfl⟩
  refine JO.eff rfl rfl rfl (Eff.box (cs := [_, _]) rfl rfl) ?_
  rintro _ _ ⟨b4, rfl, rfl⟩
  refine JO.pur rfl rfl rfl (Pur.assign rfl) ?_
  refine JO.nil ?_
  refine J.seq rfl ?_
  refine J.seq rfl ?_
  refine J.region rfl ?_
  refine JO.pur rfl rfl rfl (Pur.loadA rfl rfl rfl CellsIn.blk) ?_
  refine JO.effR rfl rfl rfl (Eff.call rfl (largeS_ok (rs := rs) (hs := hs) (xss := xss) rfl rfl hb)) ?_
  refine JO.pur rfl rfl rfl (Pur.move rfl) ?_
  refine JO.splitB 18 rfl (fun h18 => ?_) (fun h18 => ?_)
  · try simp only [decide_eq_true_eq, decide_eq_false_iff_not, Bool.not_eq_true', Bool.not_eq_false', Bool.and_eq_true, Bool.or_eq_true, Bool.and_eq_false_iff, Bool.or_eq_false_iff, Option.isNone_some, Option.isSome_some, Option.isNone_none, Option.isSome_none, Int.not_lt, Int.not_le, beq_iff_eq, beq_eq_false_iff_ne, bne_iff_ne, ne_eq, Bool.not_not, Decidable.not_not] at h18
    refine JO.no rfl rfl rfl ?_
    refine JO.no rfl rfl rfl ?_
    refine JO.pur rfl rfl rfl (Pur.pickT rfl rfl) ?_
    refine JO.pur rfl rfl rfl (Pur.move rfl) ?_
    refine JO.no rfl rfl rfl ?_
    refine JO.no rfl rfl rfl ?_
    refine JO.no rfl rfl rfl ?_
    refine JO.pur rfl rfl rfl (Pur.pickT rfl rfl) ?_
    refine JO.nil ?_
    refine J.condT rfl rfl ?_
    refine J.seq rfl ?_
    refine J.region rfl ?_
    refine JO.effR rfl rfl rfl (Eff.call rfl (first_ok)) ?_
    refine JO.pur rfl rfl rfl (Pur.assign rfl) ?_
    refine JO.nil ?_
    refine J.ret rfl rfl ?_
    refine ⟨_, _, ⟨rfl, rfl⟩, rfl, SubC.out⟩
  · try simp only [decide_eq_true_eq, decide_eq_false_iff_not, Bool.not_eq_true', Bool.not_eq_false', Bool.and_eq_true, Bool.or_eq_true, Bool.and_eq_false_iff, Bool.or_eq_false_iff, Option.isNone_some, Option.isSome_some, Option.isNone_none, Option.isSome_none, Int.not_lt, Int.not_le, beq_iff_eq, beq_eq_false_iff_ne, bne_iff_ne, ne_eq, Bool.not_not, Decidable.not_not] at h18
    refine JO.pur rfl rfl rfl (Pur.loadA rfl rfl rfl CellsIn.blk) ?_
    refine JO.effR rfl rfl rfl (Eff.call rfl (largeS_ok (rs := ss) (hs := gs) (xss := yss) rfl rfl hb2)) ?_
    refine JO.pur rfl rfl rfl (Pur.pickF rfl rfl) ?_
    refine JO.pur rfl rfl rfl (Pur.move rfl) ?_
    refine JO.splitB 22 rfl (fun h22 => ?_) (fun h22 => ?_)
    · try simp only [decide_eq_true_eq, decide_eq_false_iff_not, Bool.not_eq_true', Bool.not_eq_false', Bool.and_eq_true, Bool.or_eq_true, Bool.and_eq_false_iff, Bool.or_eq_false_iff, Option.isNone_some, Option.isSome_some, Option.isNone_none, Option.isSome_none, Int.not_lt, Int.not_le, beq_iff_eq, beq_eq_false_iff_ne, bne_iff_ne, ne_eq, Bool.not_not, Decidable.not_not] at h22
      refine JO.no rfl rfl rfl ?_
      refine JO.no rfl rfl rfl ?_
      refine JO.no rfl rfl rfl ?_
      refine JO.pur rfl rfl rfl (Pur.pickT rfl rfl) ?_
      refine JO.nil ?_
      refine J.condT rfl rfl ?_
      refine J.seq rfl ?_
      refine J.region rfl ?_
      refine JO.effR rfl rfl rfl (Eff.call rfl (first_ok)) ?_
      refine JO.pur rfl rfl rfl (Pur.assign rfl) ?_
      refine JO.nil ?_
      refine J.ret rfl rfl ?_
      refine ⟨_, _, ⟨rfl, rfl⟩, rfl, SubC.out⟩
    · try simp only [decide_eq_true_eq, decide_eq_false_iff_not, Bool.not_eq_true', Bool.not_eq_false', Bool.and_eq_true, Bool.or_eq_true, Bool.and_eq_false_iff, Bool.or_eq_false_iff, Option.isNone_some, Option.isSome_some, Option.isNone_none, Option.isSome_none, Int.not_lt, Int.not_le, beq_iff_eq, beq_eq_false_iff_ne, bne_iff_ne, ne_eq, Bool.not_not, Decidable.not_not] at h22
      refine JO.pur rfl rfl rfl (Pur.move rfl) ?_
      refine JO.pur rfl rfl rfl (Pur.len rfl) ?_
      refine JO.pur rfl rfl rfl (Pur.gtr rfl rfl) ?_
      refine JO.pur rfl rfl rfl (Pur.pickF rfl rfl) ?_
      refine JO.nil ?_
      refine J.splitB 26 rfl (fun h26 => ?_) (fun h26 => ?_)
      · try simp only [decide_eq_true_eq, decide_eq_false_iff_not, Bool.not_eq_true', Bool.not_eq_false', Bool.and_eq_true, Bool.or_eq_true, Bool.and_eq_false_iff, Bool.or_eq_false_iff, Option.isNone_some, Option.isSome_some, Option.isNone_none, Option.isSome_none, Int.not_lt, Int.not_le, beq_iff_eq, beq_eq_false_iff_ne, bne_iff_ne, ne_eq, Bool.not_not, Decidable.not_not] at h26
        refine J.condT rfl rfl ?_
        refine J.seq rfl ?_
        refine J.region rfl ?_
        refine JO.effR rfl rfl rfl (Eff.call rfl (first_ok)) ?_
        refine JO.pur rfl rfl rfl (Pur.assign rfl) ?_
        refine JO.nil ?_
        refine J.ret rfl rfl ?_
        refine ⟨_, _, ⟨rfl, rfl⟩, rfl, SubC.out⟩
      · try simp only [decide_eq_true_eq, decide_eq_false_iff_not, Bool.not_eq_true', Bool.not_eq_false', Bool.and_eq_true, Bool.or_eq_true, Bool.and_eq_false_iff, Bool.or_eq_false_iff, Option.isNone_some, Option.isSome_some, Option.isNone_none, Option.isSome_none, Int.not_lt, Int.not_le, beq_iff_eq, beq_eq_false_iff_ne, bne_iff_ne, ne_eq, Bool.not_not, Decidable.not_not] at h26
        refine J.condF rfl rfl ?_
        refine J.skip rfl ?_
        refine J.seq rfl ?_
        refine J.region rfl ?_
        refine JO.pur rfl rfl rfl (Pur.loadA rfl rfl rfl CellsIn.blk) ?_
        refine JO.pur rfl rfl rfl (Pur.loadA rfl rfl rfl CellsIn.blk) ?_
        refine JO.eff rfl rfl rfl (Eff.call rfl (s_Meet (rs := rs) (ss := ss) (hs := hs) (gs := gs) (xss := xss) (yss := yss) rfl rfl rfl rfl)) ?_
        rintro _ _ ⟨pa31, pc31, qa31, qc31, hs31, rfl, rfl⟩
        refine JO.pur rfl rfl rfl (Pur.move rfl) ?_
        refine JO.pur rfl rfl rfl (Pur.extract rfl rfl) ?_
        refine JO.pur rfl rfl rfl (Pur.extract rfl rfl) ?_
        refine JO.eff rfl rfl rfl (Eff.alloc (cs := [_, _]) rfl) ?_
        rintro _ _ ⟨b7, rfl, rfl⟩
        refine JO.effN rfl rfl (Eff.storeBA (cs' := [_, _]) rfl rfl (by rfl) (by rfl) (by rfl)) ?_
        rintro _ _ ⟨rfl, rfl⟩
        refine JO.pur rfl rfl rfl (Pur.assign rfl) ?_
        refine JO.nil ?_
        refine J.seq rfl ?_
        refine J.seq rfl ?_
        refine J.region rfl ?_
        refine JO.pur rfl rfl rfl (Pur.move rfl) ?_
        refine JO.pur rfl rfl rfl (Pur.neqI rfl rfl) ?_
        refine JO.nil ?_
        refine J.splitB 35 rfl (fun h35 => ?_) (fun h35 => ?_)
        · try simp only [decide_eq_true_eq, decide_eq_false_iff_not, Bool.not_eq_true', Bool.not_eq_false', Bool.and_eq_true, Bool.or_eq_true, Bool.and_eq_false_iff, Bool.or_eq_false_iff, Option.isNone_some, Option.isSome_some, Option.isNone_none, Option.isSome_none, Int.not_lt, Int.not_le, beq_iff_eq, beq_eq_false_iff_ne, bne_iff_ne, ne_eq, Bool.not_not, Decidable.not_not] at h35
          refine J.condT rfl rfl ?_
          refine J.seq rfl ?_
          refine J.region rfl ?_
          refine JO.effR rfl rfl rfl (Eff.call rfl (first_ok)) ?_
          refine JO.pur rfl rfl rfl (Pur.assign rfl) ?_
          refine JO.nil ?_
          refine J.ret rfl rfl ?_
          refine ⟨_, _, ⟨rfl, rfl⟩, rfl, SubC.out⟩
        · try simp only [decide_eq_true_eq, decide_eq_false_iff_not, Bool.not_eq_true', Bool.not_eq_false', Bool.and_eq_true, Bool.or_eq_true, Bool.and_eq_false_iff, Bool.or_eq_false_iff, Option.isNone_some, Option.isSome_some, Option.isNone_none, Option.isSome_none, Int.not_lt, Int.not_le, beq_iff_eq, beq_eq_false_iff_ne, bne_iff_ne, ne_eq, Bool.not_not, Decidable.not_not] at h35
          have h00 : (meetS rs xss ss yss).2 = 0 := by simpa using h35
          have h0 : twoS rs xss ss yss = 0 := by
            unfold meetS at h00
            by_cases g : twoS rs xss ss yss = 0
            · exact g
            · rw [if_pos g] at h00; exact h00
          obtain ⟨hs1, hs2, hsm⟩ := twoS_ok h0
          have hv : meetS rs xss ss yss = ((rs, (xss.filter fun x => decide (x ∈ yss))), 0) := if_neg (fun g => g h0)
          rw [hv]
          have hx4 := hs1.2.1
          have hy4 := hs2.2.1
          have hsy := sam_ok hsm hs2
          have hfo : okS rs (xss.filter fun x => decide (x ∈ yss)) := filt_ok hs1 _
          have hh1 : hasS rs xss x = (decide (x ∈ xss), 0) := if_neg (not_not_intro hs1)
          have hh2 : hasS ss yss x = (decide (x ∈ yss), 0) := if_neg (not_not_intro hs2)
          have hh3 : hasS rs (xss.filter fun x => decide (x ∈ yss)) x = (decide (x ∈ (xss.filter fun x => decide (x ∈ yss))), 0) := if_neg (not_not_intro hfo)
          have hFm : decide (x ∈ (xss.filter fun x => decide (x ∈ yss))) = (decide (x ∈ xss) && decide (x ∈ yss)) := by rw [← Bool.decide_and]; exact decide_eq_decide.2 (by rw [List.mem_filter]; simp)
          have hsl := sets_len hs1 hsy
          refine J.fact (fun h s => RowsR.len (E := intE) (hs := hs31) (xss := (xss.filter fun x => decide (x ∈ yss))) s) fun hnn3 => ?_
          refine J.condF rfl rfl ?_
          refine J.skip rfl ?_
          refine J.seq rfl ?_
          refine J.region rfl ?_
          refine JO.pur rfl rfl rfl (Pur.loadA rfl rfl rfl CellsIn.blk) ?_
          refine JO.pur rfl rfl rfl (Pur.move rfl) ?_
          refine JO.effR rfl rfl rfl (Eff.call rfl (s_Has (rs := rs) (hs := hs) (xss := xss) (x := x) rfl rfl rfl)) ?_
          rw [hh1]
          refine JO.pur rfl rfl rfl (Pur.move rfl) ?_
          refine JO.pur rfl rfl rfl (Pur.extract rfl rfl) ?_
          refine JO.pur rfl rfl rfl (Pur.extract rfl rfl) ?_
          refine JO.pur rfl rfl rfl (Pur.assign rfl) ?_
          refine JO.pur rfl rfl rfl (Pur.assign rfl) ?_
          refine JO.nil ?_
          refine J.seq rfl ?_
          refine J.region rfl ?_
          refine JO.pur rfl rfl rfl (Pur.loadA rfl rfl rfl CellsIn.blk) ?_
          refine JO.pur rfl rfl rfl (Pur.move rfl) ?_
          refine JO.effR rfl rfl rfl (Eff.call rfl (s_Has (rs := ss) (hs := gs) (xss := yss) (x := x) rfl rfl rfl)) ?_
          rw [hh2]
          refine JO.pur rfl rfl rfl (Pur.move rfl) ?_
          refine JO.pur rfl rfl rfl (Pur.extract rfl rfl) ?_
          refine JO.pur rfl rfl rfl (Pur.extract rfl rfl) ?_
          refine JO.pur rfl rfl rfl (Pur.assign rfl) ?_
          refine JO.pur rfl rfl rfl (Pur.assign rfl) ?_
          refine JO.nil ?_
          refine J.seq rfl ?_
          refine J.region rfl ?_
          refine JO.pur rfl rfl rfl (Pur.loadA rfl rfl rfl CellsIn.blk) ?_
          refine JO.pur rfl rfl rfl (Pur.move rfl) ?_
          refine JO.effR rfl rfl rfl (Eff.call rfl (s_Has (rs := rs) (hs := hs31) (xss := (xss.filter fun x => decide (x ∈ yss))) (x := x) rfl (rows_len hnn3).symm rfl)) ?_
          rw [hh3]
          refine JO.pur rfl rfl rfl (Pur.move rfl) ?_
          refine JO.pur rfl rfl rfl (Pur.extract rfl rfl) ?_
          refine JO.pur rfl rfl rfl (Pur.extract rfl rfl) ?_
          refine JO.pur rfl rfl rfl (Pur.assign rfl) ?_
          refine JO.pur rfl rfl rfl (Pur.assign rfl) ?_
          refine JO.nil ?_
          refine J.seq rfl ?_
          refine J.seq rfl ?_
          refine J.region rfl ?_
          refine JO.pur rfl rfl rfl (Pur.move rfl) ?_
          refine JO.pur rfl rfl rfl (Pur.neqI rfl rfl) ?_
          refine JO.pur rfl rfl rfl (Pur.move rfl) ?_
          refine JO.setv (u' := .bool false) 57 rfl (congrArg Value.bool (decide_eq_false (fun e => e rfl))) ?_
          refine JO.pur rfl rfl rfl (Pur.move rfl) ?_
          refine JO.pur rfl rfl rfl (Pur.move rfl) ?_
          refine JO.pur rfl rfl rfl (Pur.move rfl) ?_
          refine JO.splitB 60 rfl (fun h60 => ?_) (fun h60 => ?_)
          · try simp only [decide_eq_true_eq, decide_eq_false_iff_not, Bool.not_eq_true', Bool.not_eq_false', Bool.and_eq_true, Bool.or_eq_true, Bool.and_eq_false_iff, Bool.or_eq_false_iff, Option.isNone_some, Option.isSome_some, Option.isNone_none, Option.isSome_none, Int.not_lt, Int.not_le, beq_iff_eq, beq_eq_false_iff_ne, bne_iff_ne, ne_eq, Bool.not_not, Decidable.not_not] at h60
            refine JO.pur rfl rfl rfl (Pur.move rfl) ?_
            refine JO.pur rfl rfl rfl (Pur.pickT rfl rfl) ?_
            refine JO.pur rfl rfl rfl (Pur.neqB rfl rfl) ?_
            refine JO.pur rfl rfl rfl (Pur.pickF rfl rfl) ?_
            refine JO.nil ?_
            refine J.setv (u' := .bool false) 64 rfl (congrArg Value.bool ((by first | (rw [hFm]; simp [h60]) | (dsimp only; rw [hFm]; simp [h60])))) ?_
            refine J.condF rfl rfl ?_
            refine J.skip rfl ?_
            refine J.seq rfl ?_
            refine J.region rfl ?_
            refine JO.pur rfl rfl rfl (Pur.loadA rfl rfl rfl CellsIn.blk) ?_
            refine JO.pur rfl rfl rfl (Pur.loadA rfl rfl rfl CellsIn.blk) ?_
            refine JO.eff rfl rfl rfl (Eff.call rfl (s_Join (rs := rs) (ss := ss) (hs := hs) (gs := gs) (xss := xss) (yss := yss) rfl rfl rfl rfl hnA hnB)) ?_
            rintro _ _ ⟨pa68, pc68, qa68, qc68, hs68, rfl, rfl⟩
            refine JO.pur rfl rfl rfl (Pur.move rfl) ?_
            refine JO.pur rfl rfl rfl (Pur.extract rfl rfl) ?_
            refine JO.pur rfl rfl rfl (Pur.extract rfl rfl) ?_
            refine JO.eff rfl rfl rfl (Eff.alloc (cs := [_, _]) rfl) ?_
            rintro _ _ ⟨b15, rfl, rfl⟩
            refine JO.effN rfl rfl (Eff.storeBA (cs' := [_, _]) rfl rfl (by rfl) (by rfl) (by rfl)) ?_
            rintro _ _ ⟨rfl, rfl⟩
            refine JO.pur rfl rfl rfl (Pur.assign rfl) ?_
            refine JO.nil ?_
            refine J.seq rfl ?_
            refine J.seq rfl ?_
            refine J.region rfl ?_
            refine JO.pur rfl rfl rfl (Pur.move rfl) ?_
            refine JO.pur rfl rfl rfl (Pur.neqI rfl rfl) ?_
            refine JO.nil ?_
            refine J.splitB 72 rfl (fun h72 => ?_) (fun h72 => ?_)
            · try simp only [decide_eq_true_eq, decide_eq_false_iff_not, Bool.not_eq_true', Bool.not_eq_false', Bool.and_eq_true, Bool.or_eq_true, Bool.and_eq_false_iff, Bool.or_eq_false_iff, Option.isNone_some, Option.isSome_some, Option.isNone_none, Option.isSome_none, Int.not_lt, Int.not_le, beq_iff_eq, beq_eq_false_iff_ne, bne_iff_ne, ne_eq, Bool.not_not, Decidable.not_not] at h72
              refine J.condT rfl rfl ?_
              refine J.seq rfl ?_
              refine J.region rfl ?_
              refine JO.effR rfl rfl rfl (Eff.call rfl (first_ok)) ?_
              refine JO.pur rfl rfl rfl (Pur.assign rfl) ?_
              refine JO.nil ?_
              refine J.ret rfl rfl ?_
              refine ⟨_, _, ⟨rfl, rfl⟩, rfl, SubC.out⟩
            · try simp only [decide_eq_true_eq, decide_eq_false_iff_not, Bool.not_eq_true', Bool.not_eq_false', Bool.and_eq_true, Bool.or_eq_true, Bool.and_eq_false_iff, Bool.or_eq_false_iff, Option.isNone_some, Option.isSome_some, Option.isNone_none, Option.isSome_none, Int.not_lt, Int.not_le, beq_iff_eq, beq_eq_false_iff_ne, bne_iff_ne, ne_eq, Bool.not_not, Decidable.not_not] at h72
              have h01 : (joinS rs xss ss yss).2 = 0 := by simpa using h72
              have hv1 : joinS rs xss ss yss = addS rs xss yss := if_neg (fun g => g h0)
              rw [hv1] at h01
              obtain ⟨-, hpl, hjl, hv2⟩ := addS_ok h01
              rw [hv1, hv2]
              have hall := addS_all hs1 hpl
              have hjo := made_ok' hs1.1 hjl
              have hh4 : hasS rs (madeL rs ((xss ++ yss).map (atS rs))) x = (decide (x ∈ (madeL rs ((xss ++ yss).map (atS rs)))), 0) := if_neg (not_not_intro hjo)
              have hMm : decide (x ∈ (madeL rs ((xss ++ yss).map (atS rs)))) = (decide (x ∈ xss) || decide (x ∈ yss)) := by rw [← Bool.decide_or]; exact decide_eq_decide.2 (by rw [made_mem hs1.1 hall, List.mem_append])
              refine J.fact (fun h s => RowsR.len (E := intE) (hs := hs68) (xss := (madeL rs ((xss ++ yss).map (atS rs)))) s) fun hnn4 => ?_
              refine J.condF rfl rfl ?_
              refine J.skip rfl ?_
              refine J.seq rfl ?_
              refine J.region rfl ?_
              refine JO.pur rfl rfl rfl (Pur.loadA rfl rfl rfl CellsIn.blk) ?_
              refine JO.pur rfl rfl rfl (Pur.move rfl) ?_
              refine JO.effR rfl rfl rfl (Eff.call rfl (s_Has (rs := rs) (hs := hs68) (xss := (madeL rs ((xss ++ yss).map (atS rs)))) (x := x) rfl (rows_len hnn4).symm rfl)) ?_
              rw [hh4]
              refine JO.pur rfl rfl rfl (Pur.move rfl) ?_
              refine JO.pur rfl rfl rfl (Pur.extract rfl rfl) ?_
              refine JO.pur rfl rfl rfl (Pur.extract rfl rfl) ?_
              refine JO.pur rfl rfl rfl (Pur.assign rfl) ?_
              refine JO.pur rfl rfl rfl (Pur.assign rfl) ?_
              refine JO.nil ?_
              refine J.seq rfl ?_
              refine J.region rfl ?_
              refine JO.pur rfl rfl rfl (Pur.move rfl) ?_
              refine JO.pur rfl rfl rfl (Pur.eqlI rfl rfl) ?_
              refine JO.pur rfl rfl rfl (Pur.move rfl) ?_
              refine JO.setv (u' := .bool true) 82 rfl (congrArg Value.bool (decide_eq_true rfl)) ?_
              refine JO.pur rfl rfl rfl (Pur.move rfl) ?_
              refine JO.pur rfl rfl rfl (Pur.move rfl) ?_
              refine JO.pur rfl rfl rfl (Pur.move rfl) ?_
              refine JO.splitB 85 rfl (fun h85 => ?_) (fun h85 => ?_)
              · try simp only [decide_eq_true_eq, decide_eq_false_iff_not, Bool.not_eq_true', Bool.not_eq_false', Bool.and_eq_true, Bool.or_eq_true, Bool.and_eq_false_iff, Bool.or_eq_false_iff, Option.isNone_some, Option.isSome_some, Option.isNone_none, Option.isSome_none, Int.not_lt, Int.not_le, beq_iff_eq, beq_eq_false_iff_ne, bne_iff_ne, ne_eq, Bool.not_not, Decidable.not_not] at h85
                refine JO.no rfl rfl rfl ?_
                refine JO.pur rfl rfl rfl (Pur.pickT rfl rfl) ?_
                refine JO.pur rfl rfl rfl (Pur.eqlB rfl rfl) ?_
                refine JO.pur rfl rfl rfl (Pur.pickT rfl rfl) ?_
                refine JO.pur rfl rfl rfl (Pur.move rfl) ?_
                refine JO.setv (u' := .bool true) 90 rfl (congrArg Value.bool ((by first | (rw [hMm]; simp [h85]) | (dsimp only; rw [hMm]; simp [h85])))) ?_
                refine JO.pur rfl rfl rfl (Pur.fieldAddr rfl) ?_
                refine JO.pur rfl rfl rfl (Pur.load rfl (CellIn.blk rfl)) ?_
                refine JO.pur rfl rfl rfl (Pur.len rfl) ?_
                refine JO.setv (u' := .int .i64 ((xss.filter fun x => decide (x ∈ yss)).length : Int)) 93 rfl rfl ?_
                refine JO.pur rfl rfl rfl (Pur.fieldAddr rfl) ?_
                refine JO.pur rfl rfl rfl (Pur.load rfl (CellIn.blk rfl)) ?_
                refine JO.pur rfl rfl rfl (Pur.len rfl) ?_
                refine JO.setv (u' := .int .i64 ((madeL rs ((xss ++ yss).map (atS rs))).length : Int)) 96 rfl rfl ?_
                refine JO.pur rfl rfl rfl (Pur.add rfl rfl (wr64 (by omega))) ?_
                refine JO.pur rfl rfl rfl (Pur.fieldAddr rfl) ?_
                refine JO.pur rfl rfl rfl (Pur.load rfl (CellIn.blk rfl)) ?_
                refine JO.pur rfl rfl rfl (Pur.len rfl) ?_
                refine JO.pur rfl rfl rfl (Pur.fieldAddr rfl) ?_
                refine JO.pur rfl rfl rfl (Pur.load rfl (CellIn.blk rfl)) ?_
                refine JO.pur rfl rfl rfl (Pur.len rfl) ?_
                refine JO.pur rfl rfl rfl (Pur.add rfl rfl (wr64 (by omega))) ?_
                refine JO.pur rfl rfl rfl (Pur.eqlI rfl rfl) ?_
                refine JO.pur rfl rfl rfl (Pur.pickT rfl rfl) ?_
                refine JO.pur rfl rfl rfl (Pur.move rfl) ?_
                refine JO.setv (u' := .bool true) 107 rfl (congrArg Value.bool (decide_eq_true (by omega))) ?_
                refine JO.effR rfl rfl rfl (Eff.call rfl (first_ok)) ?_
                refine JO.pur rfl rfl rfl (Pur.pickT rfl rfl) ?_
                refine JO.pur rfl rfl rfl (Pur.assign rfl) ?_
                refine JO.nil ?_
                refine J.ret rfl rfl ?_
                refine ⟨_, _, ⟨rfl, rfl⟩, rfl, SubC.out⟩
              · try simp only [decide_eq_true_eq, decide_eq_false_iff_not, Bool.not_eq_true', Bool.not_eq_false', Bool.and_eq_true, Bool.or_eq_true, Bool.and_eq_false_iff, Bool.or_eq_false_iff, Option.isNone_some, Option.isSome_some, Option.isNone_none, Option.isSome_none, Int.not_lt, Int.not_le, beq_iff_eq, beq_eq_false_iff_ne, bne_iff_ne, ne_eq, Bool.not_not, Decidable.not_not] at h85
                refine JO.pur rfl rfl rfl (Pur.move rfl) ?_
                refine JO.pur rfl rfl rfl (Pur.pickF rfl rfl) ?_
                refine JO.pur rfl rfl rfl (Pur.eqlB rfl rfl) ?_
                refine JO.pur rfl rfl rfl (Pur.pickT rfl rfl) ?_
                refine JO.pur rfl rfl rfl (Pur.move rfl) ?_
                refine JO.setv (u' := .bool true) 90 rfl (congrArg Value.bool ((by first | (rw [hMm]; simp [h85]) | (dsimp only; rw [hMm]; simp [h85])))) ?_
                refine JO.pur rfl rfl rfl (Pur.fieldAddr rfl) ?_
                refine JO.pur rfl rfl rfl (Pur.load rfl (CellIn.blk rfl)) ?_
                refine JO.pur rfl rfl rfl (Pur.len rfl) ?_
                refine JO.setv (u' := .int .i64 ((xss.filter fun x => decide (x ∈ yss)).length : Int)) 93 rfl rfl ?_
                refine JO.pur rfl rfl rfl (Pur.fieldAddr rfl) ?_
                refine JO.pur rfl rfl rfl (Pur.load rfl (CellIn.blk rfl)) ?_
                refine JO.pur rfl rfl rfl (Pur.len rfl) ?_
                refine JO.setv (u' := .int .i64 ((madeL rs ((xss ++ yss).map (atS rs))).length : Int)) 96 rfl rfl ?_
                refine JO.pur rfl rfl rfl (Pur.add rfl rfl (wr64 (by omega))) ?_
                refine JO.pur rfl rfl rfl (Pur.fieldAddr rfl) ?_
                refine JO.pur rfl rfl rfl (Pur.load rfl (CellIn.blk rfl)) ?_
                refine JO.pur rfl rfl rfl (Pur.len rfl) ?_
                refine JO.pur rfl rfl rfl (Pur.fieldAddr rfl) ?_
                refine JO.pur rfl rfl rfl (Pur.load rfl (CellIn.blk rfl)) ?_
                refine JO.pur rfl rfl rfl (Pur.len rfl) ?_
                refine JO.pur rfl rfl rfl (Pur.add rfl rfl (wr64 (by omega))) ?_
                refine JO.pur rfl rfl rfl (Pur.eqlI rfl rfl) ?_
                refine JO.pur rfl rfl rfl (Pur.pickT rfl rfl) ?_
                refine JO.pur rfl rfl rfl (Pur.move rfl) ?_
                refine JO.setv (u' := .bool true) 107 rfl (congrArg Value.bool (decide_eq_true (by omega))) ?_
                refine JO.effR rfl rfl rfl (Eff.call rfl (first_ok)) ?_
                refine JO.pur rfl rfl rfl (Pur.pickT rfl rfl) ?_
                refine JO.pur rfl rfl rfl (Pur.assign rfl) ?_
                refine JO.nil ?_
                refine J.ret rfl rfl ?_
                refine ⟨_, _, ⟨rfl, rfl⟩, rfl, SubC.out⟩
          · try simp only [decide_eq_true_eq, decide_eq_false_iff_not, Bool.not_eq_true', Bool.not_eq_false', Bool.and_eq_true, Bool.or_eq_true, Bool.and_eq_false_iff, Bool.or_eq_false_iff, Option.isNone_some, Option.isSome_some, Option.isNone_none, Option.isSome_none, Int.not_lt, Int.not_le, beq_iff_eq, beq_eq_false_iff_ne, bne_iff_ne, ne_eq, Bool.not_not, Decidable.not_not] at h60
            refine JO.no rfl rfl rfl ?_
            refine JO.pur rfl rfl rfl (Pur.pickF rfl rfl) ?_
            refine JO.pur rfl rfl rfl (Pur.neqB rfl rfl) ?_
            refine JO.pur rfl rfl rfl (Pur.pickF rfl rfl) ?_
            refine JO.nil ?_
            refine J.setv (u' := .bool false) 64 rfl (congrArg Value.bool ((by first | (rw [hFm]; simp [h60]) | (dsimp only; rw [hFm]; simp [h60])))) ?_
            refine J.condF rfl rfl ?_
            refine J.skip rfl ?_
            refine J.seq rfl ?_
            refine J.region rfl ?_
            refine JO.pur rfl rfl rfl (Pur.loadA rfl rfl rfl CellsIn.blk) ?_
            refine JO.pur rfl rfl rfl (Pur.loadA rfl rfl rfl CellsIn.blk) ?_
            refine JO.eff rfl rfl rfl (Eff.call rfl (s_Join (rs := rs) (ss := ss) (hs := hs) (gs := gs) (xss := xss) (yss := yss) rfl rfl rfl rfl hnA hnB)) ?_
            rintro _ _ ⟨pa68, pc68, qa68, qc68, hs68, rfl, rfl⟩
            refine JO.pur rfl rfl rfl (Pur.move rfl) ?_
            refine JO.pur rfl rfl rfl (Pur.extract rfl rfl) ?_
            refine JO.pur rfl rfl rfl (Pur.extract rfl rfl) ?_
            refine JO.eff rfl rfl rfl (Eff.alloc (cs := [_, _]) rfl) ?_
            rintro _ _ ⟨b15, rfl, rfl⟩
            refine JO.effN rfl rfl (Eff.storeBA (cs' := [_, _]) rfl rfl (by rfl) (by rfl) (by rfl)) ?_
            rintro _ _ ⟨rfl, rfl⟩
            refine JO.pur rfl rfl rfl (Pur.assign rfl) ?_
            refine JO.nil ?_
            refine J.seq rfl ?_
            refine J.seq rfl ?_
            refine J.region rfl ?_
            refine JO.pur rfl rfl rfl (Pur.move rfl) ?_
            refine JO.pur rfl rfl rfl (Pur.neqI rfl rfl) ?_
            refine JO.nil ?_
            refine J.splitB 72 rfl (fun h72 => ?_) (fun h72 => ?_)
            · try simp only [decide_eq_true_eq, decide_eq_false_iff_not, Bool.not_eq_true', Bool.not_eq_false', Bool.and_eq_true, Bool.or_eq_true, Bool.and_eq_false_iff, Bool.or_eq_false_iff, Option.isNone_some, Option.isSome_some, Option.isNone_none, Option.isSome_none, Int.not_lt, Int.not_le, beq_iff_eq, beq_eq_false_iff_ne, bne_iff_ne, ne_eq, Bool.not_not, Decidable.not_not] at h72
              refine J.condT rfl rfl ?_
              refine J.seq rfl ?_
              refine J.region rfl ?_
              refine JO.effR rfl rfl rfl (Eff.call rfl (first_ok)) ?_
              refine JO.pur rfl rfl rfl (Pur.assign rfl) ?_
              refine JO.nil ?_
              refine J.ret rfl rfl ?_
              refine ⟨_, _, ⟨rfl, rfl⟩, rfl, SubC.out⟩
            · try simp only [decide_eq_true_eq, decide_eq_false_iff_not, Bool.not_eq_true', Bool.not_eq_false', Bool.and_eq_true, Bool.or_eq_true, Bool.and_eq_false_iff, Bool.or_eq_false_iff, Option.isNone_some, Option.isSome_some, Option.isNone_none, Option.isSome_none, Int.not_lt, Int.not_le, beq_iff_eq, beq_eq_false_iff_ne, bne_iff_ne, ne_eq, Bool.not_not, Decidable.not_not] at h72
              have h01 : (joinS rs xss ss yss).2 = 0 := by simpa using h72
              have hv1 : joinS rs xss ss yss = addS rs xss yss := if_neg (fun g => g h0)
              rw [hv1] at h01
              obtain ⟨-, hpl, hjl, hv2⟩ := addS_ok h01
              rw [hv1, hv2]
              have hall := addS_all hs1 hpl
              have hjo := made_ok' hs1.1 hjl
              have hh4 : hasS rs (madeL rs ((xss ++ yss).map (atS rs))) x = (decide (x ∈ (madeL rs ((xss ++ yss).map (atS rs)))), 0) := if_neg (not_not_intro hjo)
              have hMm : decide (x ∈ (madeL rs ((xss ++ yss).map (atS rs)))) = (decide (x ∈ xss) || decide (x ∈ yss)) := by rw [← Bool.decide_or]; exact decide_eq_decide.2 (by rw [made_mem hs1.1 hall, List.mem_append])
              refine J.fact (fun h s => RowsR.len (E := intE) (hs := hs68) (xss := (madeL rs ((xss ++ yss).map (atS rs)))) s) fun hnn4 => ?_
              refine J.condF rfl rfl ?_
              refine J.skip rfl ?_
              refine J.seq rfl ?_
              refine J.region rfl ?_
              refine JO.pur rfl rfl rfl (Pur.loadA rfl rfl rfl CellsIn.blk) ?_
              refine JO.pur rfl rfl rfl (Pur.move rfl) ?_
              refine JO.effR rfl rfl rfl (Eff.call rfl (s_Has (rs := rs) (hs := hs68) (xss := (madeL rs ((xss ++ yss).map (atS rs)))) (x := x) rfl (rows_len hnn4).symm rfl)) ?_
              rw [hh4]
              refine JO.pur rfl rfl rfl (Pur.move rfl) ?_
              refine JO.pur rfl rfl rfl (Pur.extract rfl rfl) ?_
              refine JO.pur rfl rfl rfl (Pur.extract rfl rfl) ?_
              refine JO.pur rfl rfl rfl (Pur.assign rfl) ?_
              refine JO.pur rfl rfl rfl (Pur.assign rfl) ?_
              refine JO.nil ?_
              refine J.seq rfl ?_
              refine J.region rfl ?_
              refine JO.pur rfl rfl rfl (Pur.move rfl) ?_
              refine JO.pur rfl rfl rfl (Pur.eqlI rfl rfl) ?_
              refine JO.pur rfl rfl rfl (Pur.move rfl) ?_
              refine JO.setv (u' := .bool true) 82 rfl (congrArg Value.bool (decide_eq_true rfl)) ?_
              refine JO.pur rfl rfl rfl (Pur.move rfl) ?_
              refine JO.pur rfl rfl rfl (Pur.move rfl) ?_
              refine JO.pur rfl rfl rfl (Pur.move rfl) ?_
              refine JO.splitB 85 rfl (fun h85 => ?_) (fun h85 => ?_)
              · try simp only [decide_eq_true_eq, decide_eq_false_iff_not, Bool.not_eq_true', Bool.not_eq_false', Bool.and_eq_true, Bool.or_eq_true, Bool.and_eq_false_iff, Bool.or_eq_false_iff, Option.isNone_some, Option.isSome_some, Option.isNone_none, Option.isSome_none, Int.not_lt, Int.not_le, beq_iff_eq, beq_eq_false_iff_ne, bne_iff_ne, ne_eq, Bool.not_not, Decidable.not_not] at h85
                refine JO.no rfl rfl rfl ?_
                refine JO.pur rfl rfl rfl (Pur.pickT rfl rfl) ?_
                refine JO.pur rfl rfl rfl (Pur.eqlB rfl rfl) ?_
                refine JO.pur rfl rfl rfl (Pur.pickT rfl rfl) ?_
                refine JO.pur rfl rfl rfl (Pur.move rfl) ?_
                refine JO.setv (u' := .bool true) 90 rfl (congrArg Value.bool ((by first | (rw [hMm]; simp [h85]) | (dsimp only; rw [hMm]; simp [h85])))) ?_
                refine JO.pur rfl rfl rfl (Pur.fieldAddr rfl) ?_
                refine JO.pur rfl rfl rfl (Pur.load rfl (CellIn.blk rfl)) ?_
                refine JO.pur rfl rfl rfl (Pur.len rfl) ?_
                refine JO.setv (u' := .int .i64 ((xss.filter fun x => decide (x ∈ yss)).length : Int)) 93 rfl rfl ?_
                refine JO.pur rfl rfl rfl (Pur.fieldAddr rfl) ?_
                refine JO.pur rfl rfl rfl (Pur.load rfl (CellIn.blk rfl)) ?_
                refine JO.pur rfl rfl rfl (Pur.len rfl) ?_
                refine JO.setv (u' := .int .i64 ((madeL rs ((xss ++ yss).map (atS rs))).length : Int)) 96 rfl rfl ?_
                refine JO.pur rfl rfl rfl (Pur.add rfl rfl (wr64 (by omega))) ?_
                refine JO.pur rfl rfl rfl (Pur.fieldAddr rfl) ?_
                refine JO.pur rfl rfl rfl (Pur.load rfl (CellIn.blk rfl)) ?_
                refine JO.pur rfl rfl rfl (Pur.len rfl) ?_
                refine JO.pur rfl rfl rfl (Pur.fieldAddr rfl) ?_
                refine JO.pur rfl rfl rfl (Pur.load rfl (CellIn.blk rfl)) ?_
                refine JO.pur rfl rfl rfl (Pur.len rfl) ?_
                refine JO.pur rfl rfl rfl (Pur.add rfl rfl (wr64 (by omega))) ?_
                refine JO.pur rfl rfl rfl (Pur.eqlI rfl rfl) ?_
                refine JO.pur rfl rfl rfl (Pur.pickT rfl rfl) ?_
                refine JO.pur rfl rfl rfl (Pur.move rfl) ?_
                refine JO.setv (u' := .bool true) 107 rfl (congrArg Value.bool (decide_eq_true (by omega))) ?_
                refine JO.effR rfl rfl rfl (Eff.call rfl (first_ok)) ?_
                refine JO.pur rfl rfl rfl (Pur.pickT rfl rfl) ?_
                refine JO.pur rfl rfl rfl (Pur.assign rfl) ?_
                refine JO.nil ?_
                refine J.ret rfl rfl ?_
                refine ⟨_, _, ⟨rfl, rfl⟩, rfl, SubC.out⟩
              · try simp only [decide_eq_true_eq, decide_eq_false_iff_not, Bool.not_eq_true', Bool.not_eq_false', Bool.and_eq_true, Bool.or_eq_true, Bool.and_eq_false_iff, Bool.or_eq_false_iff, Option.isNone_some, Option.isSome_some, Option.isNone_none, Option.isSome_none, Int.not_lt, Int.not_le, beq_iff_eq, beq_eq_false_iff_ne, bne_iff_ne, ne_eq, Bool.not_not, Decidable.not_not] at h85
                refine JO.pur rfl rfl rfl (Pur.move rfl) ?_
                refine JO.pur rfl rfl rfl (Pur.pickF rfl rfl) ?_
                refine JO.pur rfl rfl rfl (Pur.eqlB rfl rfl) ?_
                refine JO.pur rfl rfl rfl (Pur.pickT rfl rfl) ?_
                refine JO.pur rfl rfl rfl (Pur.move rfl) ?_
                refine JO.setv (u' := .bool true) 90 rfl (congrArg Value.bool ((by first | (rw [hMm]; simp [h85]) | (dsimp only; rw [hMm]; simp [h85])))) ?_
                refine JO.pur rfl rfl rfl (Pur.fieldAddr rfl) ?_
                refine JO.pur rfl rfl rfl (Pur.load rfl (CellIn.blk rfl)) ?_
                refine JO.pur rfl rfl rfl (Pur.len rfl) ?_
                refine JO.setv (u' := .int .i64 ((xss.filter fun x => decide (x ∈ yss)).length : Int)) 93 rfl rfl ?_
                refine JO.pur rfl rfl rfl (Pur.fieldAddr rfl) ?_
                refine JO.pur rfl rfl rfl (Pur.load rfl (CellIn.blk rfl)) ?_
                refine JO.pur rfl rfl rfl (Pur.len rfl) ?_
                refine JO.setv (u' := .int .i64 ((madeL rs ((xss ++ yss).map (atS rs))).length : Int)) 96 rfl rfl ?_
                refine JO.pur rfl rfl rfl (Pur.add rfl rfl (wr64 (by omega))) ?_
                refine JO.pur rfl rfl rfl (Pur.fieldAddr rfl) ?_
                refine JO.pur rfl rfl rfl (Pur.load rfl (CellIn.blk rfl)) ?_
                refine JO.pur rfl rfl rfl (Pur.len rfl) ?_
                refine JO.pur rfl rfl rfl (Pur.fieldAddr rfl) ?_
                refine JO.pur rfl rfl rfl (Pur.load rfl (CellIn.blk rfl)) ?_
                refine JO.pur rfl rfl rfl (Pur.len rfl) ?_
                refine JO.pur rfl rfl rfl (Pur.add rfl rfl (wr64 (by omega))) ?_
                refine JO.pur rfl rfl rfl (Pur.eqlI rfl rfl) ?_
                refine JO.pur rfl rfl rfl (Pur.pickT rfl rfl) ?_
                refine JO.pur rfl rfl rfl (Pur.move rfl) ?_
                refine JO.setv (u' := .bool true) 107 rfl (congrArg Value.bool (decide_eq_true (by omega))) ?_
                refine JO.effR rfl rfl rfl (Eff.call rfl (first_ok)) ?_
                refine JO.pur rfl rfl rfl (Pur.pickT rfl rfl) ?_
                refine JO.pur rfl rfl rfl (Pur.assign rfl) ?_
                refine JO.nil ?_
                refine J.ret rfl rfl ?_
                refine ⟨_, _, ⟨rfl, rfl⟩, rfl, SubC.out⟩

end Go.Proofs.Ytnhippfllgnngaa

/- The text SG2. -/
/-! A range that is given. -/
set_option linter.unusedVariables false
set_option linter.unusedSimpArgs false
namespace Go.Proofs.Ytnhippfllgnngaa
open Go Go.KK Dm Go.ChangeShapes Go.WideShapes Go.ChangeAt Go.RowKit Go.Deep
theorem trod_rgS {H : Type} {enc : TypeId × Value → H} {w : World} {base : Nat} {spare : Nat → Bool} {held : Bool} {fuel : Nat} {cs : List Value} {x : DataW H × List MemPlace} (h : DataW.trod enc Try.prog w base spare held fuel 93 cs = some x) : ∃ g : Rg, rgE.enc g = cs := by
  obtain ⟨ys, hx, hl, hxl, hff⟩ := open_cells Try.underlying93 (hone_of (by kernel_rfl)) (by kernel_rfl) h
  obtain ⟨c0, c1, c2, rfl⟩ := len3 hl
  obtain ⟨y0, y1, y2, rfl⟩ := len3 hxl
  obtain ⟨n0, h0⟩ := hff 0 _ _ _ rfl rfl rfl
  obtain ⟨n1, h1⟩ := hff 1 _ _ _ rfl rfl rfl
  obtain ⟨n2, h2⟩ := hff 2 _ _ _ rfl rfl rfl
  obtain ⟨a, ea, _⟩ := cell_int Try.underlying3 h0
  obtain ⟨b, eb, _⟩ := cell_int Try.underlying3 h1
  obtain ⟨c, ec, _⟩ := cell_int Try.underlying3 h2
  subst ea; subst eb; subst ec
  exact ⟨⟨a, b, c⟩, rfl⟩
end Go.Proofs.Ytnhippfllgnngaa
