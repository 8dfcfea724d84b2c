/-
  A part of the proof of the claim that this folder bears.
-/
import Derived.Test.YtnhippfllgnngaaPAN
/- The text SM6. -/
set_option linter.unusedVariables false
set_option linter.unusedSimpArgs false
set_option maxRecDepth 10000
namespace Go.Proofs.Ytnhippfllgnngaa
open Go Go.KK Dm

theorem atS_lt2 {rs : List Rg} (h : okD rs) {x : List Int} (hx : (plD rs x).isSome = true) : atS rs x < (cntD rs : Int) := by
  obtain ⟨n, hn⟩ := Option.isSome_iff_exists.1 hx
  have := plD_lt h.2.2.1 hn
  unfold atS; rw [hn]; exact Int.ofNat_lt.2 this
theorem plc_dec (rs : List Rg) (yss : List (List Int)) : (plcV rs yss).2 = decide (∀ y ∈ yss, (plV rs y).2 = 0) := by
  by_cases h : ∀ y ∈ yss, (plV rs y).2 = 0
  · rw [plcV_yes h, decide_eq_true h]
  · rw [plcV_no h, decide_eq_false h]
theorem s_AddAll {L : List Asn} {a la lb : Option Addr} {n cap ln lc lm lq : Nat} {rs : List Rg} {hs gs : List Hdr} {xss yss : List (List Int)} [SlIn rgE L a rs] [SlIn hE L la hs] [RowsR intE L hs xss] [SlIn hE L lb gs] [RowsR intE L gs yss] (hn : n = rs.length) (hl : ln = hs.length) (hm : lm = gs.length) (hnA : la = none → hs.length = 0 ∧ lc = 0) (hnB : lb = none → gs.length = 0 ∧ lq = 0) (hyb : yss.length ≤ 400) :
    CallS Try.prog 46 [.agg #[.slice a n cap, .slice la ln lc], .slice lb lm lq].toArray L (fun w M => ∃ pa pc qa qc hs', w = .tuple #[.agg #[.slice pa (addS rs xss yss).1.1.length pc, .slice qa (addS rs xss yss).1.2.length qc], .int .i64 (addN rs xss yss), .int .i64 (addS rs xss yss).2] ∧ M = sl rgE pa pc (addS rs xss yss).1.1 :: sl hE qa qc hs' :: rows intE hs' (addS rs xss yss).1.2 :: L) := by
  subst hn
  subst hl
  refine CallS.fact (fun h s => RowsR.len (E := intE) (hs := hs) (xss := xss) s) fun hnn => ?_
  have hhl : hs.length = xss.length := rows_len hnn
  subst hm
  refine CallS.fact (fun h s => RowsR.len (E := intE) (hs := gs) (xss := yss) s) fun hnn2 => ?_
  have hgl : gs.length = yss.length := rows_len hnn2
  refine CallS.ent ?_
  refine CallS.enter Try.func46 rfl rfl rfl rfl rfl ?_
  refine J.seq rfl ?_
  refine J.region rfl ?_
  refine JO.eff rfl rfl rfl (Eff.box (cs := [_, _]) rfl rfl) ?_
  rintro _ _ ⟨b2, rfl, rfl⟩
  refine JO.eff rfl rfl rfl (Eff.alloc (cs := [_, _]) rfl) ?_
  rintro _ _ ⟨b4, rfl, rfl⟩
  refine JO.pur rfl rfl rfl (Pur.assign rfl) ?_
  refine JO.pur rfl rfl rfl (Pur.assign rfl) ?_
  refine JO.nil ?_
  refine J.seq rfl ?_
  refine J.seq rfl ?_
  refine J.region rfl ?_
  refine JO.pur rfl rfl rfl (Pur.loadA rfl rfl rfl CellsIn.blk) ?_
  refine JO.effR rfl rfl rfl (Eff.call rfl (s_Valid (rs := rs) (hs := hs) (xss := xss) rfl rfl)) ?_
  refine JO.pur rfl rfl rfl (Pur.not rfl) ?_
  refine JO.nil ?_
  refine J.splitB 11 rfl (fun h11 => ?_) (fun h11 => ?_)
  · try simp only [decide_eq_true_eq, decide_eq_false_iff_not, Bool.not_eq_true', Bool.not_eq_false', Bool.and_eq_true, Bool.or_eq_true, Bool.and_eq_false_iff, Bool.or_eq_false_iff, Option.isNone_some, Option.isSome_some, Option.isNone_none, Option.isSome_none, Int.not_lt, Int.not_le, beq_iff_eq, beq_eq_false_iff_ne, bne_iff_ne, ne_eq, Bool.not_not, Decidable.not_not] at h11
    have hns : ¬ okS rs xss := h11
    refine J.condT rfl rfl ?_
    refine J.seq rfl ?_
    refine J.region rfl ?_
    refine JO.pur rfl rfl rfl (Pur.build (cs := [_, _]) rfl rfl) ?_
    refine JO.effN rfl rfl (Eff.storeBA (cs' := [_, _]) rfl rfl (by rfl) (by rfl) (by rfl)) ?_
    rintro _ _ ⟨rfl, rfl⟩
    refine JO.pur rfl rfl rfl (Pur.assign rfl) ?_
    refine JO.pur rfl rfl rfl (Pur.assign rfl) ?_
    refine JO.nil ?_
    refine J.retC rfl (.cell rfl (ld_agg rfl CellsIn.blk) (.tmp rfl (.tmp rfl .nil))) ?_
    have hv : addS rs xss yss = (([], []), 50) := by unfold addS; rw [if_pos hns]
    have hn0 : addN rs xss yss = 0 := by unfold addN; rw [hv, if_pos (by decide)]
    refine ⟨_, _, ⟨none, 0, none, 0, [], rfl, rfl⟩, by rw [hv, hn0]; rfl, fun h s => ?_⟩
    rw [hv]; exact sl_nil_new (sl_nil_new (rows_nil (SubC.out h s)))
  · try simp only [decide_eq_true_eq, decide_eq_false_iff_not, Bool.not_eq_true', Bool.not_eq_false', Bool.and_eq_true, Bool.or_eq_true, Bool.and_eq_false_iff, Bool.or_eq_false_iff, Option.isNone_some, Option.isSome_some, Option.isNone_none, Option.isSome_none, Int.not_lt, Int.not_le, beq_iff_eq, beq_eq_false_iff_ne, bne_iff_ne, ne_eq, Bool.not_not, Decidable.not_not] at h11
    have hs0 : okS rs xss := h11
    have hxl4 := hs0.2.1
    refine J.condF rfl rfl ?_
    refine J.skip rfl ?_
    refine J.seq rfl ?_
    refine J.mask0 (n := 13) [] rfl Try.mixed rfl (by kernel_rfl) ?_
    refine JM.take 0 (fun _ h => h) rfl (by kernel_rfl) rfl rfl rfl (m' := 1) rfl (Pur.fieldAddr rfl) ?_
    refine JM.take 1 (fun _ h => h) rfl (by kernel_rfl) rfl rfl rfl (m' := 3) rfl (Pur.loadA rfl rfl rfl (CellsIn.sub1 rfl)) ?_
    refine JM.take 2 (fun _ h => h) rfl (by kernel_rfl) rfl rfl rfl (m' := 7) rfl (Pur.fieldAddr rfl) ?_
    refine JM.take 3 (fun _ h => h) rfl (by kernel_rfl) rfl rfl rfl (m' := 15) rfl (Pur.load rfl (CellIn.blk rfl)) ?_
    refine JM.take 4 (fun _ h => h) rfl (by kernel_rfl) rfl rfl rfl (m' := 31) rfl (Pur.move rfl) ?_
    refine JM.one (i := 5) (by kernel_rfl) ?_
    refine JMi.eff rfl rfl rfl rfl (m' := 63) rfl (Eff.buildSlice lE [⟨la, hs.length, lc⟩, ⟨lb, gs.length, lq⟩] rfl rfl rfl rfl rfl rfl rfl) ?_
    rintro _ _ ⟨b19, rfl, -, rfl⟩
    refine ⟨.inr (fun _ h => h.tail), ?_⟩
    refine JM.one (i := 6) (by kernel_rfl) ?_
    refine JMi.eff rfl rfl rfl rfl (m' := 127) rfl (Eff.call rfl (concat_ok (hs := hs) (gs := gs) rfl hnA hnB (by omega) (by omega))) ?_
    rintro _ _ ⟨a20, c20, rfl, rfl⟩
    refine ⟨.inr (fun _ h => h.tail.tail), ?_⟩
    refine JM.one (i := 7) (by kernel_rfl) ?_
    refine JMi.eff rfl rfl rfl rfl (m' := 255) rfl (Eff.call rfl (s_places (rs := rs) (hs := hs ++ gs) (xss := xss ++ yss) rfl rfl (by simp only [List.length_append]; omega))) ?_
    rintro _ _ ⟨es, zss, a21, c21, rfl, rfl, hpl⟩
    refine ⟨.inr (fun _ h => h.tail.tail.tail.tail), ?_⟩
    refine JM.take 8 (fun _ h => h.tail.tail.tail.tail) rfl (by kernel_rfl) rfl rfl rfl (m' := 511) rfl (Pur.move rfl) ?_
    refine JM.take 9 (fun _ h => h.tail.tail.tail.tail) rfl (by kernel_rfl) rfl rfl rfl (m' := 1023) rfl (Pur.extract rfl rfl) ?_
    refine JM.take 10 (fun _ h => h.tail.tail.tail.tail) rfl (by kernel_rfl) rfl rfl rfl (m' := 2047) rfl (Pur.extract rfl rfl) ?_
    refine JM.setv (u' := .bool (decide (∀ y ∈ yss, (plV rs y).2 = 0))) 23 rfl (congrArg Value.bool (plc_app hs0)) ?_
    refine JM.take 11 (fun _ h => h.tail.tail.tail.tail) rfl (by kernel_rfl) rfl rfl rfl (m' := 4095) rfl (Pur.assign rfl) ?_
    refine JM.take 12 (fun _ h => h.tail.tail.tail.tail) rfl (by kernel_rfl) rfl rfl rfl (m' := 8191) rfl (Pur.assign rfl) ?_
    refine JM.done rfl ?_
    refine J.seq rfl ?_
    refine J.seq rfl ?_
    refine J.region rfl ?_
    refine JO.pur rfl rfl rfl (Pur.move rfl) ?_
    refine JO.pur rfl rfl rfl (Pur.not rfl) ?_
    refine JO.nil ?_
    refine J.splitB 25 rfl (fun h25 => ?_) (fun h25 => ?_)
    · try simp only [decide_eq_true_eq, decide_eq_false_iff_not, Bool.not_eq_true', Bool.not_eq_false', Bool.and_eq_true, Bool.or_eq_true, Bool.and_eq_false_iff, Bool.or_eq_false_iff, Option.isNone_some, Option.isSome_some, Option.isNone_none, Option.isSome_none, Int.not_lt, Int.not_le, beq_iff_eq, beq_eq_false_iff_ne, bne_iff_ne, ne_eq, Bool.not_not, Decidable.not_not] at h25
      have hbad : ¬ ∀ y ∈ yss, (plV rs y).2 = 0 := h25
      refine J.condT rfl rfl ?_
      refine J.seq rfl ?_
      refine J.region rfl ?_
      refine JO.pur rfl rfl rfl (Pur.build (cs := [_, _]) rfl rfl) ?_
      refine JO.effN rfl rfl (Eff.storeBA (cs' := [_, _]) rfl rfl (by rfl) (by rfl) (by rfl)) ?_
      rintro _ _ ⟨rfl, rfl⟩
      refine JO.pur rfl rfl rfl (Pur.assign rfl) ?_
      refine JO.pur rfl rfl rfl (Pur.assign rfl) ?_
      refine JO.nil ?_
      refine J.retC rfl (.cell rfl (ld_agg rfl CellsIn.blk) (.tmp rfl (.tmp rfl .nil))) ?_
      have hv : addS rs xss yss = (([], []), 2) := by unfold addS; rw [if_neg (not_not_intro hs0), if_pos hbad]
      have hn0 : addN rs xss yss = 0 := by unfold addN; rw [hv, if_pos (by decide)]
      refine ⟨_, _, ⟨none, 0, none, 0, [], rfl, rfl⟩, by rw [hv, hn0]; rfl, fun h s => ?_⟩
      rw [hv]; exact sl_nil_new (sl_nil_new (rows_nil (SubC.out h s)))
    · try simp only [decide_eq_true_eq, decide_eq_false_iff_not, Bool.not_eq_true', Bool.not_eq_false', Bool.and_eq_true, Bool.or_eq_true, Bool.and_eq_false_iff, Bool.or_eq_false_iff, Option.isNone_some, Option.isSome_some, Option.isNone_none, Option.isSome_none, Int.not_lt, Int.not_le, beq_iff_eq, beq_eq_false_iff_ne, bne_iff_ne, ne_eq, Bool.not_not, Decidable.not_not] at h25
      have hall : ∀ y ∈ yss, (plV rs y).2 = 0 := h25
      have hallp : ∀ x ∈ xss ++ yss, (plD rs x).isSome = true := fun x hx => by
        rcases List.mem_append.1 hx with hx | hx
        · exact okS_some hs0 hx
        · exact (plV_ok hs0.1 x).1.1 (hall x hx)
      obtain ⟨he1, hp1, hsr⟩ := hpl ((plc_app hs0).trans (decide_eq_true hall))
      have hel : es.length = xss.length + yss.length := by have h1 := congrArg List.length he1; rw [List.length_map, List.length_map, hp1.length_eq, List.length_append] at h1; exact h1
      refine J.condF rfl rfl ?_
      refine J.skip rfl ?_
      refine J.seq rfl ?_
      refine J.region rfl ?_
      refine JO.pur rfl rfl rfl (Pur.move rfl) ?_
      refine JO.eff rfl rfl rfl (Eff.call rfl (compact_ok (es := es) rfl (by omega))) ?_
      rintro _ _ ⟨rfl, rfl⟩
      obtain ⟨cs, hcs⟩ : ∃ cs, cs = cptN enK es es.length := ⟨_, rfl⟩
      rw [← hcs]
      obtain ⟨zs, hz, hz1, hzl, hzz⟩ := plc_cpt (ys := cs) he1 (by rw [hcs]; have := cptN_sub (ky := enK) (es := es) es.length (Nat.le_refl _); rwa [List.take_length] at this)
      have hmd : madeL rs ((xss ++ yss).map (atS rs)) = zs := add_made hs0.1 hallp hp1 he1 hsr hcs hz hz1
      refine JO.pur rfl rfl rfl (Pur.assign rfl) ?_
      refine JO.nil ?_
      refine J.seq rfl ?_
      refine J.seq rfl ?_
      refine J.region rfl ?_
      refine JO.pur rfl rfl rfl (Pur.move rfl) ?_
      refine JO.pur rfl rfl rfl (Pur.len rfl) ?_
      refine JO.pur rfl rfl rfl (Pur.gtr rfl rfl) ?_
      refine JO.nil ?_
      refine J.splitB 31 rfl (fun h31 => ?_) (fun h31 => ?_)
      · try simp only [decide_eq_true_eq, decide_eq_false_iff_not, Bool.not_eq_true', Bool.not_eq_false', Bool.and_eq_true, Bool.or_eq_true, Bool.and_eq_false_iff, Bool.or_eq_false_iff, Option.isNone_some, Option.isSome_some, Option.isNone_none, Option.isSome_none, Int.not_lt, Int.not_le, beq_iff_eq, beq_eq_false_iff_ne, bne_iff_ne, ne_eq, Bool.not_not, Decidable.not_not] at h31
        have hbig : 400 < (madeL rs ((xss ++ yss).map (atS rs))).length := by rw [hmd, ← hzl]; omega
        refine J.condT rfl rfl ?_
        refine J.seq rfl ?_
        refine J.region rfl ?_
        refine JO.pur rfl rfl rfl (Pur.build (cs := [_, _]) rfl rfl) ?_
        refine JO.effN rfl rfl (Eff.storeBA (cs' := [_, _]) rfl rfl (by rfl) (by rfl) (by rfl)) ?_
        rintro _ _ ⟨rfl, rfl⟩
        refine JO.pur rfl rfl rfl (Pur.assign rfl) ?_
        refine JO.pur rfl rfl rfl (Pur.assign rfl) ?_
        refine JO.nil ?_
        refine J.retC rfl (.cell rfl (ld_agg rfl CellsIn.blk) (.tmp rfl (.tmp rfl .nil))) ?_
        have hv : addS rs xss yss = (([], []), 4) := by unfold addS; rw [if_neg (not_not_intro hs0), if_neg (not_not_intro hall), if_pos hbig]
        have hn0 : addN rs xss yss = 0 := by unfold addN; rw [hv, if_pos (by decide)]
        refine ⟨_, _, ⟨none, 0, none, 0, [], rfl, rfl⟩, by rw [hv, hn0]; rfl, fun h s => ?_⟩
        rw [hv]; exact sl_nil_new (sl_nil_new (rows_nil (SubC.out h s)))
      · try simp only [decide_eq_true_eq, decide_eq_false_iff_not, Bool.not_eq_true', Bool.not_eq_false', Bool.and_eq_true, Bool.or_eq_true, Bool.and_eq_false_iff, Bool.or_eq_false_iff, Option.isNone_some, Option.isSome_some, Option.isNone_none, Option.isSome_none, Int.not_lt, Int.not_le, beq_iff_eq, beq_eq_false_iff_ne, bne_iff_ne, ne_eq, Bool.not_not, Decidable.not_not] at h31
        have hsm : ¬ 400 < (madeL rs ((xss ++ yss).map (atS rs))).length := by rw [hmd, ← hzl]; omega
        refine J.condF rfl rfl ?_
        refine J.skip rfl ?_
        refine J.seq rfl ?_
        refine J.mask0 (n := 15) [12] rfl Try.mixed rfl (by kernel_rfl) ?_
        refine JM.take 0 (fun _ h => h) rfl (by kernel_rfl) rfl rfl rfl (m' := 1) rfl (Pur.fieldAddr rfl) ?_
        refine JM.take 1 (fun _ h => h) rfl (by kernel_rfl) rfl rfl rfl (m' := 3) rfl (Pur.loadA rfl rfl rfl (CellsIn.sub1 rfl)) ?_
        refine JM.take 3 (fun _ h => h) rfl (by kernel_rfl) rfl rfl rfl (m' := 11) rfl (Pur.move rfl) ?_
        refine JM.takeF 6 (.inr (fun _ h => h)) rfl (by kernel_rfl) rfl rfl rfl (m' := 75) rfl (Pur.move rfl) ?_
        refine JM.takeF 7 (.inr (fun _ h => h)) rfl (by kernel_rfl) rfl rfl rfl (m' := 203) rfl (Pur.len rfl) ?_
        refine JM.takeF 8 (.inr (fun _ h => h)) rfl (by kernel_rfl) rfl rfl rfl (m' := 459) rfl (Pur.fieldAddr rfl) ?_
        refine JM.many (rs := [2, 9]) (by kernel_rfl) rfl (fun i hi => ?_)
        simp only [List.mem_cons, List.not_mem_nil, or_false] at hi
        rcases hi with rfl | rfl
        · skip
          refine JMi.eff rfl rfl rfl rfl (m' := 463) rfl (Eff.call rfl (cloneD (rs := rs) rfl hs0.1)) ?_
          rintro _ _ ⟨a35, c35, rfl, rfl⟩
          refine ⟨.inr (fun _ h => h.tail), ?_⟩
          refine JM.many (rs := [4, 9]) (by kernel_rfl) rfl (fun i hi => ?_)
          simp only [List.mem_cons, List.not_mem_nil, or_false] at hi
          rcases hi with rfl | rfl
          · skip
            refine JMi.eff rfl rfl rfl rfl (m' := 479) rfl (Eff.call rfl (list_ok (es := cs) rfl (by omega))) ?_
            rintro _ _ ⟨a37, c37, rfl, rfl⟩
            refine ⟨.inr (fun _ h => h.tail.tail), ?_⟩
            refine JM.take 5 (fun _ h => h.tail.tail) rfl (by kernel_rfl) rfl rfl rfl (m' := 511) rfl (Pur.build (cs := [_, _]) rfl rfl) ?_
            refine JM.many (rs := [9, 12]) (by kernel_rfl) rfl (fun i hi => ?_)
            simp only [List.mem_cons, List.not_mem_nil, or_false] at hi
            rcases hi with rfl | rfl
            · skip
              refine JMi.eff rfl rfl rfl rfl (m' := 1023) rfl (Pur.eff (Pur.load rfl (CellIn.blk rfl))) ?_
              rintro _ _ ⟨rfl, rfl⟩
              refine ⟨.inr (fun _ h => h.tail.tail), ?_⟩
              refine JM.takeF 10 (.inr (fun _ h => h.tail.tail)) rfl (by kernel_rfl) rfl rfl rfl (m' := 2047) rfl (Pur.len rfl) ?_
              refine JM.takeF 11 (.inr (fun _ h => h.tail.tail)) rfl (by kernel_rfl) rfl rfl rfl (m' := 4095) rfl (Pur.sub rfl rfl (wr64 (by omega))) ?_
              refine JM.setv (u' := .int .i64 ((cs.length : Int) - (xss.length : Int))) 44 rfl (congrArg (Value.int .i64) (by omega)) ?_
              refine JM.one (i := 12) (by kernel_rfl) ?_
              refine JMi.effN rfl rfl rfl (m' := 8191) rfl (Eff.storeBA (cs' := [_, _]) rfl rfl (by rfl) (by rfl) (by rfl)) ?_
              rintro _ _ ⟨rfl, rfl⟩
              refine ⟨.inl (by simp), ?_⟩
              refine JM.takeF 13 (.inl (by kernel_rfl)) rfl (by kernel_rfl) rfl rfl rfl (m' := 16383) rfl (Pur.assign rfl) ?_
              refine JM.takeF 14 (.inl (by kernel_rfl)) rfl (by kernel_rfl) rfl rfl rfl (m' := 32767) rfl (Pur.assign rfl) ?_
              refine JM.done rfl ?_
              refine J.retC rfl (.cell rfl (ld_agg rfl CellsIn.blk) (.tmp rfl (.tmp rfl .nil))) ?_
              have hv : addS rs xss yss = ((rs, zs), 0) := by unfold addS; rw [if_neg (not_not_intro hs0), if_neg (not_not_intro hall), if_neg hsm, hmd]
              have hn0 : addN rs xss yss = (cs.length : Int) - (xss.length : Int) := by unfold addN; rw [hv, if_neg (fun h => h rfl), hzl]
              refine ⟨_, _, ⟨a35, c35, a37, c37, cs.map (·.2), rfl, rfl⟩, by rw [hv, hn0]; dsimp only; rw [← hzl]; rfl, fun h s => ?_⟩
              rw [hv]
              have s2 : Sat h (rows intE (es.map (·.2)) zss :: sl rgE a35 c35 rs :: sl hE a37 c37 (cs.map (·.2)) :: L) := SubC.out h s
              have s3 := rows_sub (by rw [List.length_map]; exact hzl) hzz s2
              exact SubC.out h s3
            · skip
              refine JMi.effN rfl rfl rfl (m' := 4607) rfl (Eff.storeBA (cs' := [_, _]) rfl rfl (by rfl) (by rfl) (by rfl)) ?_
              rintro _ _ ⟨rfl, rfl⟩
              refine ⟨.inl (by simp), ?_⟩
              refine JM.one (i := 9) (by kernel_rfl) ?_
              refine JMi.eff rfl rfl rfl rfl (m' := 5119) rfl (Pur.eff (Pur.load rfl (CellIn.blk rfl))) ?_
              rintro _ _ ⟨rfl, rfl⟩
              refine ⟨.inl (.inr (by kernel_rfl)), ?_⟩
              refine JM.takeF 10 (.inl (by kernel_rfl)) rfl (by kernel_rfl) rfl rfl rfl (m' := 6143) rfl (Pur.len rfl) ?_
              refine JM.takeF 11 (.inl (by kernel_rfl)) rfl (by kernel_rfl) rfl rfl rfl (m' := 8191) rfl (Pur.sub rfl rfl (wr64 (by omega))) ?_
              refine JM.setv (u' := .int .i64 ((cs.length : Int) - (xss.length : Int))) 44 rfl (congrArg (Value.int .i64) (by omega)) ?_
              refine JM.takeF 13 (.inl (by kernel_rfl)) rfl (by kernel_rfl) rfl rfl rfl (m' := 16383) rfl (Pur.assign rfl) ?_
              refine JM.takeF 14 (.inl (by kernel_rfl)) rfl (by kernel_rfl) rfl rfl rfl (m' := 32767) rfl (Pur.assign rfl) ?_
              refine JM.done rfl ?_
              refine J.retC rfl (.cell rfl (ld_agg rfl CellsIn.blk) (.tmp rfl (.tmp rfl .nil))) ?_
              have hv : addS rs xss yss = ((rs, zs), 0) := by unfold addS; rw [if_neg (not_not_intro hs0), if_neg (not_not_intro hall), if_neg hsm, hmd]
              have hn0 : addN rs xss yss = (cs.length : Int) - (xss.length : Int) := by unfold addN; rw [hv, if_neg (fun h => h rfl), hzl]
              refine ⟨_, _, ⟨a35, c35, a37, c37, cs.map (·.2), rfl, rfl⟩, by rw [hv, hn0]; dsimp only; rw [← hzl]; rfl, fun h s => ?_⟩
              rw [hv]
              have s2 : Sat h (rows intE (es.map (·.2)) zss :: sl rgE a35 c35 rs :: sl hE a37 c37 (cs.map (·.2)) :: L) := SubC.out h s
              have s3 := rows_sub (by rw [List.length_map]; exact hzl) hzz s2
              exact SubC.out h s3
          · skip
            refine JMi.eff rfl rfl rfl rfl (m' := 975) rfl (Pur.eff (Pur.load rfl (CellIn.blk rfl))) ?_
            rintro _ _ ⟨rfl, rfl⟩
            refine ⟨.inr (fun _ h => h.tail), ?_⟩
            refine JM.takeF 10 (.inr (fun _ h => h.tail)) rfl (by kernel_rfl) rfl rfl rfl (m' := 1999) rfl (Pur.len rfl) ?_
            refine JM.takeF 11 (.inr (fun _ h => h.tail)) rfl (by kernel_rfl) rfl rfl rfl (m' := 4047) rfl (Pur.sub rfl rfl (wr64 (by omega))) ?_
            refine JM.setv (u' := .int .i64 ((cs.length : Int) - (xss.length : Int))) 44 rfl (congrArg (Value.int .i64) (by omega)) ?_
            refine JM.one (i := 4) (by kernel_rfl) ?_
            refine JMi.eff rfl rfl rfl rfl (m' := 4063) rfl (Eff.call rfl (list_ok (es := cs) rfl (by omega))) ?_
            rintro _ _ ⟨a37, c37, rfl, rfl⟩
            refine ⟨.inr (fun _ h => h.tail.tail), ?_⟩
            refine JM.take 5 (fun _ h => h.tail.tail) rfl (by kernel_rfl) rfl rfl rfl (m' := 4095) rfl (Pur.build (cs := [_, _]) rfl rfl) ?_
            refine JM.one (i := 12) (by kernel_rfl) ?_
            refine JMi.effN rfl rfl rfl (m' := 8191) rfl (Eff.storeBA (cs' := [_, _]) rfl rfl (by rfl) (by rfl) (by rfl)) ?_
            rintro _ _ ⟨rfl, rfl⟩
            refine ⟨.inl (by simp), ?_⟩
            refine JM.takeF 13 (.inl (by kernel_rfl)) rfl (by kernel_rfl) rfl rfl rfl (m' := 16383) rfl (Pur.assign rfl) ?_
            refine JM.takeF 14 (.inl (by kernel_rfl)) rfl (by kernel_rfl) rfl rfl rfl (m' := 32767) rfl (Pur.assign rfl) ?_
            refine JM.done rfl ?_
            refine J.retC rfl (.cell rfl (ld_agg rfl CellsIn.blk) (.tmp rfl (.tmp rfl .nil))) ?_
            have hv : addS rs xss yss = ((rs, zs), 0) := by unfold addS; rw [if_neg (not_not_intro hs0), if_neg (not_not_intro hall), if_neg hsm, hmd]
            have hn0 : addN rs xss yss = (cs.length : Int) - (xss.length : Int) := by unfold addN; rw [hv, if_neg (fun h => h rfl), hzl]
            refine ⟨_, _, ⟨a35, c35, a37, c37, cs.map (·.2), rfl, rfl⟩, by rw [hv, hn0]; dsimp only; rw [← hzl]; rfl, fun h s => ?_⟩
            rw [hv]
            have s2 : Sat h (rows intE (es.map (·.2)) zss :: sl rgE a35 c35 rs :: sl hE a37 c37 (cs.map (·.2)) :: L) := SubC.out h s
            have s3 := rows_sub (by rw [List.length_map]; exact hzl) hzz s2
            exact SubC.out h s3
        · skip
          refine JMi.eff rfl rfl rfl rfl (m' := 971) rfl (Pur.eff (Pur.load rfl (CellIn.blk rfl))) ?_
          rintro _ _ ⟨rfl, rfl⟩
          refine ⟨.inr (fun _ h => h), ?_⟩
          refine JM.takeF 10 (.inr (fun _ h => h)) rfl (by kernel_rfl) rfl rfl rfl (m' := 1995) rfl (Pur.len rfl) ?_
          refine JM.takeF 11 (.inr (fun _ h => h)) rfl (by kernel_rfl) rfl rfl rfl (m' := 4043) rfl (Pur.sub rfl rfl (wr64 (by omega))) ?_
          refine JM.setv (u' := .int .i64 ((cs.length : Int) - (xss.length : Int))) 44 rfl (congrArg (Value.int .i64) (by omega)) ?_
          refine JM.one (i := 2) (by kernel_rfl) ?_
          refine JMi.eff rfl rfl rfl rfl (m' := 4047) rfl (Eff.call rfl (cloneD (rs := rs) rfl hs0.1)) ?_
          rintro _ _ ⟨a35, c35, rfl, rfl⟩
          refine ⟨.inr (fun _ h => h.tail), ?_⟩
          refine JM.one (i := 4) (by kernel_rfl) ?_
          refine JMi.eff rfl rfl rfl rfl (m' := 4063) rfl (Eff.call rfl (list_ok (es := cs) rfl (by omega))) ?_
          rintro _ _ ⟨a37, c37, rfl, rfl⟩
          refine ⟨.inr (fun _ h => h.tail.tail), ?_⟩
          refine JM.take 5 (fun _ h => h.tail.tail) rfl (by kernel_rfl) rfl rfl rfl (m' := 4095) rfl (Pur.build (cs := [_, _]) rfl rfl) ?_
          refine JM.one (i := 12) (by kernel_rfl) ?_
          refine JMi.effN rfl rfl rfl (m' := 8191) rfl (Eff.storeBA (cs' := [_, _]) rfl rfl (by rfl) (by rfl) (by rfl)) ?_
          rintro _ _ ⟨rfl, rfl⟩
          refine ⟨.inl (by simp), ?_⟩
          refine JM.takeF 13 (.inl (by kernel_rfl)) rfl (by kernel_rfl) rfl rfl rfl (m' := 16383) rfl (Pur.assign rfl) ?_
          refine JM.takeF 14 (.inl (by kernel_rfl)) rfl (by kernel_rfl) rfl rfl rfl (m' := 32767) rfl (Pur.assign rfl) ?_
          refine JM.done rfl ?_
          refine J.retC rfl (.cell rfl (ld_agg rfl CellsIn.blk) (.tmp rfl (.tmp rfl .nil))) ?_
          have hv : addS rs xss yss = ((rs, zs), 0) := by unfold addS; rw [if_neg (not_not_intro hs0), if_neg (not_not_intro hall), if_neg hsm, hmd]
          have hn0 : addN rs xss yss = (cs.length : Int) - (xss.length : Int) := by unfold addN; rw [hv, if_neg (fun h => h rfl), hzl]
          refine ⟨_, _, ⟨a35, c35, a37, c37, cs.map (·.2), rfl, rfl⟩, by rw [hv, hn0]; dsimp only; rw [← hzl]; rfl, fun h s => ?_⟩
          rw [hv]
          have s2 : Sat h (rows intE (es.map (·.2)) zss :: sl rgE a35 c35 rs :: sl hE a37 c37 (cs.map (·.2)) :: L) := SubC.out h s
          have s3 := rows_sub (by rw [List.length_map]; exact hzl) hzz s2
          exact SubC.out h s3

theorem rs_AddAll {L : List Asn} {a la lb : Option Addr} {n cap ln lc lm lq : Nat} {rs : List Rg} {hs gs : List Hdr} {xss yss : List (List Int)} [SlIn rgE L a rs] [SlIn hE L la hs] [RowsR intE L hs xss] [SlIn hE L lb gs] [RowsR intE L gs yss] (hn : n = rs.length) (hl : ln = hs.length) (hm : lm = gs.length) (hyb : yss.length ≤ 400) :
    CallS Try.prog 47 [.agg #[.slice a n cap, .slice la ln lc], .slice lb lm lq].toArray L (fun w M => ∃ pa pc qa qc hs', w = .tuple #[.agg #[.slice pa (addS rs xss yss).1.1.length pc, .slice qa (addS rs xss yss).1.2.length qc], .int .i64 (addN rs xss yss), .int .i64 (addS rs xss yss).2] ∧ M = sl rgE pa pc (addS rs xss yss).1.1 :: sl hE qa qc hs' :: rows intE hs' (addS rs xss yss).1.2 :: L) := by
  subst hn
  subst hl
  refine CallS.fact (fun h s => RowsR.len (E := intE) (hs := hs) (xss := xss) s) fun hnn => ?_
  have hhl : hs.length = xss.length := rows_len hnn
  subst hm
  refine CallS.fact (fun h s => RowsR.len (E := intE) (hs := gs) (xss := yss) s) fun hnn2 => ?_
  have hgl : gs.length = yss.length := rows_len hnn2
  refine CallS.ent ?_
  refine CallS.enter Try.func47 rfl rfl rfl rfl rfl ?_
  refine J.seq rfl ?_
  refine J.region rfl ?_
  refine JO.eff rfl rfl rfl (Eff.box (cs := [_, _]) rfl rfl) ?_
  rintro _ _ ⟨b2, rfl, rfl⟩
  refine JO.eff rfl rfl rfl (Eff.alloc (cs := [_, _]) rfl) ?_
  rintro _ _ ⟨b4, rfl, rfl⟩
  refine JO.pur rfl rfl rfl (Pur.assign rfl) ?_
  refine JO.pur rfl rfl rfl (Pur.assign rfl) ?_
  refine JO.nil ?_
  refine J.seq rfl ?_
  refine J.seq rfl ?_
  refine J.region rfl ?_
  refine JO.pur rfl rfl rfl (Pur.loadA rfl rfl rfl CellsIn.blk) ?_
  refine JO.effR rfl rfl rfl (Eff.call rfl (rs_Valid (rs := rs) (hs := hs) (xss := xss) rfl rfl)) ?_
  refine JO.pur rfl rfl rfl (Pur.not rfl) ?_
  refine JO.nil ?_
  refine J.splitB 14 rfl (fun h14 => ?_) (fun h14 => ?_)
  · try simp only [decide_eq_true_eq, decide_eq_false_iff_not, Bool.not_eq_true', Bool.not_eq_false', Bool.and_eq_true, Bool.or_eq_true, Bool.and_eq_false_iff, Bool.or_eq_false_iff, Option.isNone_some, Option.isSome_some, Option.isNone_none, Option.isSome_none, Int.not_lt, Int.not_le, beq_iff_eq, beq_eq_false_iff_ne, bne_iff_ne, ne_eq, Bool.not_not, Decidable.not_not] at h14
    have hns : ¬ okS rs xss := h14
    refine J.condT rfl rfl ?_
    refine J.seq rfl ?_
    refine J.region rfl ?_
    refine JO.pur rfl rfl rfl (Pur.build (cs := [_, _]) rfl rfl) ?_
    refine JO.effN rfl rfl (Eff.storeBA (cs' := [_, _]) rfl rfl (by rfl) (by rfl) (by rfl)) ?_
    rintro _ _ ⟨rfl, rfl⟩
    refine JO.pur rfl rfl rfl (Pur.assign rfl) ?_
    refine JO.pur rfl rfl rfl (Pur.assign rfl) ?_
    refine JO.nil ?_
    refine J.retC rfl (.cell rfl (ld_agg rfl CellsIn.blk) (.tmp rfl (.tmp rfl .nil))) ?_
    have hv : addS rs xss yss = (([], []), 50) := by unfold addS; rw [if_pos hns]
    have hn0 : addN rs xss yss = 0 := by unfold addN; rw [hv, if_pos (by decide)]
    refine ⟨_, _, ⟨none, 0, none, 0, [], rfl, rfl⟩, by rw [hv, hn0]; rfl, fun h s => ?_⟩
    rw [hv]; exact sl_nil_new (sl_nil_new (rows_nil (SubC.out h s)))
  · try simp only [decide_eq_true_eq, decide_eq_false_iff_not, Bool.not_eq_true', Bool.not_eq_false', Bool.and_eq_true, Bool.or_eq_true, Bool.and_eq_false_iff, Bool.or_eq_false_iff, Option.isNone_some, Option.isSome_some, Option.isNone_none, Option.isSome_none, Int.not_lt, Int.not_le, beq_iff_eq, beq_eq_false_iff_ne, bne_iff_ne, ne_eq, Bool.not_not, Decidable.not_not] at h14
    have hs0 : okS rs xss := h14
    have hxl4 := hs0.2.1
    have hpx : plcV rs xss = (xss.map (atS rs), true) := plcV_yes (fun x hx => (plV_ok hs0.1 x).1.2 (okS_some hs0 hx))
    refine J.condF rfl rfl ?_
    refine J.skip rfl ?_
    refine J.seq rfl ?_
    refine J.region rfl ?_
    refine JO.pur rfl rfl rfl (Pur.fieldAddr rfl) ?_
    refine JO.pur rfl rfl rfl (Pur.loadA rfl rfl rfl (CellsIn.sub1 rfl)) ?_
    refine JO.pur rfl rfl rfl (Pur.move rfl) ?_
    refine JO.eff rfl rfl rfl (Eff.call rfl (places_ok (rs := rs) (hs := gs) (xss := yss) rfl rfl (by omega))) ?_
    rintro _ _ ⟨a20, c20, rfl, rfl⟩
    refine JO.pur rfl rfl rfl (Pur.move rfl) ?_
    refine JO.pur rfl rfl rfl (Pur.extract rfl rfl) ?_
    refine JO.pur rfl rfl rfl (Pur.extract rfl rfl) ?_
    refine JO.setv (u' := .bool (decide (∀ y ∈ yss, (plV rs y).2 = 0))) 22 rfl (congrArg Value.bool (plc_dec rs yss)) ?_
    refine JO.pur rfl rfl rfl (Pur.assign rfl) ?_
    refine JO.pur rfl rfl rfl (Pur.assign rfl) ?_
    refine JO.nil ?_
    refine J.seq rfl ?_
    refine J.seq rfl ?_
    refine J.region rfl ?_
    refine JO.pur rfl rfl rfl (Pur.move rfl) ?_
    refine JO.pur rfl rfl rfl (Pur.not rfl) ?_
    refine JO.nil ?_
    refine J.splitB 24 rfl (fun h24 => ?_) (fun h24 => ?_)
    · try simp only [decide_eq_true_eq, decide_eq_false_iff_not, Bool.not_eq_true', Bool.not_eq_false', Bool.and_eq_true, Bool.or_eq_true, Bool.and_eq_false_iff, Bool.or_eq_false_iff, Option.isNone_some, Option.isSome_some, Option.isNone_none, Option.isSome_none, Int.not_lt, Int.not_le, beq_iff_eq, beq_eq_false_iff_ne, bne_iff_ne, ne_eq, Bool.not_not, Decidable.not_not] at h24
      have hbad : ¬ ∀ y ∈ yss, (plV rs y).2 = 0 := h24
      refine J.condT rfl rfl ?_
      refine J.seq rfl ?_
      refine J.region rfl ?_
      refine JO.pur rfl rfl rfl (Pur.build (cs := [_, _]) rfl rfl) ?_
      refine JO.effN rfl rfl (Eff.storeBA (cs' := [_, _]) rfl rfl (by rfl) (by rfl) (by rfl)) ?_
      rintro _ _ ⟨rfl, rfl⟩
      refine JO.pur rfl rfl rfl (Pur.assign rfl) ?_
      refine JO.pur rfl rfl rfl (Pur.assign rfl) ?_
      refine JO.nil ?_
      refine J.retC rfl (.cell rfl (ld_agg rfl CellsIn.blk) (.tmp rfl (.tmp rfl .nil))) ?_
      have hv : addS rs xss yss = (([], []), 2) := by unfold addS; rw [if_neg (not_not_intro hs0), if_pos hbad]
      have hn0 : addN rs xss yss = 0 := by unfold addN; rw [hv, if_pos (by decide)]
      refine ⟨_, _, ⟨none, 0, none, 0, [], rfl, rfl⟩, by rw [hv, hn0]; rfl, fun h s => ?_⟩
      rw [hv]; exact sl_nil_new (sl_nil_new (rows_nil (SubC.out h s)))
    · try simp only [decide_eq_true_eq, decide_eq_false_iff_not, Bool.not_eq_true', Bool.not_eq_false', Bool.and_eq_true, Bool.or_eq_true, Bool.and_eq_false_iff, Bool.or_eq_false_iff, Option.isNone_some, Option.isSome_some, Option.isNone_none, Option.isSome_none, Int.not_lt, Int.not_le, beq_iff_eq, beq_eq_false_iff_ne, bne_iff_ne, ne_eq, Bool.not_not, Decidable.not_not] at h24
      have hall : ∀ y ∈ yss, (plV rs y).2 = 0 := h24
      have hallp : ∀ x ∈ xss ++ yss, (plD rs x).isSome = true := fun x hx => by
        rcases List.mem_append.1 hx with hx | hx
        · exact okS_some hs0 hx
        · exact (plV_ok hs0.1 x).1.1 (hall x hx)
      have hpy : plcV rs yss = (yss.map (atS rs), true) := plcV_yes hall
      rw [hpy]
      refine J.condF rfl rfl ?_
      refine J.skip rfl ?_
      refine J.seq rfl ?_
      refine J.region rfl ?_
      refine JO.pur rfl rfl rfl (Pur.fieldAddr rfl) ?_
      refine JO.pur rfl rfl rfl (Pur.loadA rfl rfl rfl (CellsIn.sub1 rfl)) ?_
      refine JO.pur rfl rfl rfl (Pur.fieldAddr rfl) ?_
      refine JO.pur rfl rfl rfl (Pur.load rfl (CellIn.blk rfl)) ?_
      refine JO.eff rfl rfl rfl (Eff.call rfl (places_ok (rs := rs) (hs := hs) (xss := xss) rfl rfl (by omega))) ?_
      rintro _ _ ⟨a31, c31, rfl, rfl⟩
      rw [hpx]
      refine JO.pur rfl rfl rfl (Pur.move rfl) ?_
      refine JO.pur rfl rfl rfl (Pur.extract rfl rfl) ?_
      refine JO.pur rfl rfl rfl (Pur.extract rfl rfl) ?_
      refine JO.pur rfl rfl rfl (Pur.assign rfl) ?_
      refine JO.pur rfl rfl rfl (Pur.assign rfl) ?_
      refine JO.nil ?_
      refine J.seq rfl ?_
      refine J.cut1 (ι := Nat × Option Addr × Nat × Option Addr × Nat × List Hdr) (fun q => True) (fun q => [(11, .pointer (some ⟨q.1, 0, none⟩))]) [(2, _), (4, _)] (fun q => blk q.1 (.cells #[.slice q.2.1 rs.length q.2.2.1, .slice q.2.2.2.1 (madeL rs ((xss ++ yss).map (atS rs))).length q.2.2.2.2.1] 27) :: sl rgE q.2.1 q.2.2.1 rs :: sl hE q.2.2.2.1 q.2.2.2.2.1 q.2.2.2.2.2 :: rows intE q.2.2.2.2.2 (madeL rs ((xss ++ yss).map (atS rs))) :: blk b4 (.cells #[.slice none 0 0, .slice none 0 0] 27) :: blk b2 (.cells #[.slice a rs.length cap, .slice la hs.length lc] 27) :: L) (.cons rfl rfl (.cons rfl rfl .nil)) ?_ ?_
      · rintro ⟨b11, pa, pc, qa, qc, hs1⟩ -
        try dsimp only
        refine J.seq rfl ?_
        refine J.seq rfl ?_
        refine J.region rfl ?_
        refine JO.pur rfl rfl rfl (Pur.fieldAddr rfl) ?_
        refine JO.pur rfl rfl rfl (Pur.load rfl (CellIn.blk rfl)) ?_
        refine JO.pur rfl rfl rfl (Pur.len rfl) ?_
        refine JO.pur rfl rfl rfl (Pur.gtr rfl rfl) ?_
        refine JO.nil ?_
        refine J.splitB 43 rfl (fun h43 => ?_) (fun h43 => ?_)
        · try simp only [decide_eq_true_eq, decide_eq_false_iff_not, Bool.not_eq_true', Bool.not_eq_false', Bool.and_eq_true, Bool.or_eq_true, Bool.and_eq_false_iff, Bool.or_eq_false_iff, Option.isNone_some, Option.isSome_some, Option.isNone_none, Option.isSome_none, Int.not_lt, Int.not_le, beq_iff_eq, beq_eq_false_iff_ne, bne_iff_ne, ne_eq, Bool.not_not, Decidable.not_not] at h43
          have hbig : 400 < (madeL rs ((xss ++ yss).map (atS rs))).length := by omega
          refine J.condT rfl rfl ?_
          refine J.seq rfl ?_
          refine J.region rfl ?_
          refine JO.pur rfl rfl rfl (Pur.build (cs := [_, _]) rfl rfl) ?_
          refine JO.effN rfl rfl (Eff.storeBA (cs' := [_, _]) rfl rfl (by rfl) (by rfl) (by rfl)) ?_
          rintro _ _ ⟨rfl, rfl⟩
          refine JO.pur rfl rfl rfl (Pur.assign rfl) ?_
          refine JO.pur rfl rfl rfl (Pur.assign rfl) ?_
          refine JO.nil ?_
          refine J.retC rfl (.cell rfl (ld_agg rfl CellsIn.blk) (.tmp rfl (.tmp rfl .nil))) ?_
          have hv : addS rs xss yss = (([], []), 4) := by unfold addS; rw [if_neg (not_not_intro hs0), if_neg (not_not_intro hall), if_pos hbig]
          have hn0 : addN rs xss yss = 0 := by unfold addN; rw [hv, if_pos (by decide)]
          refine ⟨_, _, ⟨none, 0, none, 0, [], rfl, rfl⟩, by rw [hv, hn0]; rfl, fun h s => ?_⟩
          rw [hv]; exact sl_nil_new (sl_nil_new (rows_nil (SubC.out h s)))
        · try simp only [decide_eq_true_eq, decide_eq_false_iff_not, Bool.not_eq_true', Bool.not_eq_false', Bool.and_eq_true, Bool.or_eq_true, Bool.and_eq_false_iff, Bool.or_eq_false_iff, Option.isNone_some, Option.isSome_some, Option.isNone_none, Option.isSome_none, Int.not_lt, Int.not_le, beq_iff_eq, beq_eq_false_iff_ne, bne_iff_ne, ne_eq, Bool.not_not, Decidable.not_not] at h43
          have hsm : ¬ 400 < (madeL rs ((xss ++ yss).map (atS rs))).length := by omega
          refine J.condF rfl rfl ?_
          refine J.skip rfl ?_
          refine J.seq rfl ?_
          refine J.mask0 (n := 11) [8] rfl Try.mixed rfl (by kernel_rfl) ?_
          refine JM.take 0 (fun _ h => h) rfl (by kernel_rfl) rfl rfl rfl (m' := 1) rfl (Pur.loadA rfl rfl rfl CellsIn.blk) ?_
          refine JM.takeF 1 (.inr (fun _ h => h)) rfl (by kernel_rfl) rfl rfl rfl (m' := 3) rfl (Pur.fieldAddr rfl) ?_
          refine JM.takeF 4 (.inr (fun _ h => h)) rfl (by kernel_rfl) rfl rfl rfl (m' := 19) rfl (Pur.fieldAddr rfl) ?_
          refine JM.many (rs := [2, 5, 8]) (by kernel_rfl) rfl (fun i hi => ?_)
          simp only [List.mem_cons, List.not_mem_nil, or_false] at hi
          rcases hi with rfl | rfl | rfl
          · skip
            refine JMi.eff rfl rfl rfl rfl (m' := 23) rfl (Pur.eff (Pur.load rfl (CellIn.blk rfl))) ?_
            rintro _ _ ⟨rfl, rfl⟩
            refine ⟨.inr (fun _ h => h), ?_⟩
            refine JM.takeF 3 (.inr (fun _ h => h)) rfl (by kernel_rfl) rfl rfl rfl (m' := 31) rfl (Pur.len rfl) ?_
            refine JM.many (rs := [5, 8]) (by kernel_rfl) rfl (fun i hi => ?_)
            simp only [List.mem_cons, List.not_mem_nil, or_false] at hi
            rcases hi with rfl | rfl
            · skip
              refine JMi.eff rfl rfl rfl rfl (m' := 63) rfl (Pur.eff (Pur.load rfl (CellIn.blk rfl))) ?_
              rintro _ _ ⟨rfl, rfl⟩
              refine ⟨.inr (fun _ h => h), ?_⟩
              refine JM.takeF 6 (.inr (fun _ h => h)) rfl (by kernel_rfl) rfl rfl rfl (m' := 127) rfl (Pur.len rfl) ?_
              refine JM.takeF 7 (.inr (fun _ h => h)) rfl (by kernel_rfl) rfl rfl rfl (m' := 255) rfl (Pur.sub rfl rfl (wr64 (by omega))) ?_
              refine JM.setv (u' := .int .i64 (((madeL rs ((xss ++ yss).map (atS rs))).length : Int) - (xss.length : Int))) 52 rfl (congrArg (Value.int .i64) (by omega)) ?_
              refine JM.one (i := 8) (by kernel_rfl) ?_
              refine JMi.effN rfl rfl rfl (m' := 511) rfl (Eff.storeBA (cs' := [_, _]) rfl rfl (by rfl) (by rfl) (by rfl)) ?_
              rintro _ _ ⟨rfl, rfl⟩
              refine ⟨.inl (by simp), ?_⟩
              refine JM.takeF 9 (.inl (by kernel_rfl)) rfl (by kernel_rfl) rfl rfl rfl (m' := 1023) rfl (Pur.assign rfl) ?_
              refine JM.takeF 10 (.inl (by kernel_rfl)) rfl (by kernel_rfl) rfl rfl rfl (m' := 2047) rfl (Pur.assign rfl) ?_
              refine JM.done rfl ?_
              refine J.retC rfl (.cell rfl (ld_agg rfl CellsIn.blk) (.tmp rfl (.tmp rfl .nil))) ?_
              have hv : addS rs xss yss = ((rs, (madeL rs ((xss ++ yss).map (atS rs)))), 0) := by unfold addS; rw [if_neg (not_not_intro hs0), if_neg (not_not_intro hall), if_neg hsm]
              have hn0 : addN rs xss yss = ((madeL rs ((xss ++ yss).map (atS rs))).length : Int) - (xss.length : Int) := by unfold addN; rw [hv, if_neg (fun h => h rfl)]
              refine ⟨_, _, ⟨pa, pc, qa, qc, hs1, rfl, rfl⟩, by rw [hv, hn0]; rfl, fun h s => ?_⟩
              rw [hv]
              exact SubC.out h s
            · skip
              refine JMi.effN rfl rfl rfl (m' := 287) rfl (Eff.storeBA (cs' := [_, _]) rfl rfl (by rfl) (by rfl) (by rfl)) ?_
              rintro _ _ ⟨rfl, rfl⟩
              refine ⟨.inl (by simp), ?_⟩
              refine JM.one (i := 5) (by kernel_rfl) ?_
              refine JMi.eff rfl rfl rfl rfl (m' := 319) rfl (Pur.eff (Pur.load rfl (CellIn.blk rfl))) ?_
              rintro _ _ ⟨rfl, rfl⟩
              refine ⟨.inl (.inr (by kernel_rfl)), ?_⟩
              refine JM.takeF 6 (.inl (by kernel_rfl)) rfl (by kernel_rfl) rfl rfl rfl (m' := 383) rfl (Pur.len rfl) ?_
              refine JM.takeF 7 (.inl (by kernel_rfl)) rfl (by kernel_rfl) rfl rfl rfl (m' := 511) rfl (Pur.sub rfl rfl (wr64 (by omega))) ?_
              refine JM.setv (u' := .int .i64 (((madeL rs ((xss ++ yss).map (atS rs))).length : Int) - (xss.length : Int))) 52 rfl (congrArg (Value.int .i64) (by omega)) ?_
              refine JM.takeF 9 (.inl (by kernel_rfl)) rfl (by kernel_rfl) rfl rfl rfl (m' := 1023) rfl (Pur.assign rfl) ?_
              refine JM.takeF 10 (.inl (by kernel_rfl)) rfl (by kernel_rfl) rfl rfl rfl (m' := 2047) rfl (Pur.assign rfl) ?_
              refine JM.done rfl ?_
              refine J.retC rfl (.cell rfl (ld_agg rfl CellsIn.blk) (.tmp rfl (.tmp rfl .nil))) ?_
              have hv : addS rs xss yss = ((rs, (madeL rs ((xss ++ yss).map (atS rs)))), 0) := by unfold addS; rw [if_neg (not_not_intro hs0), if_neg (not_not_intro hall), if_neg hsm]
              have hn0 : addN rs xss yss = ((madeL rs ((xss ++ yss).map (atS rs))).length : Int) - (xss.length : Int) := by unfold addN; rw [hv, if_neg (fun h => h rfl)]
              refine ⟨_, _, ⟨pa, pc, qa, qc, hs1, rfl, rfl⟩, by rw [hv, hn0]; rfl, fun h s => ?_⟩
              rw [hv]
              exact SubC.out h s
          · skip
            refine JMi.eff rfl rfl rfl rfl (m' := 51) rfl (Pur.eff (Pur.load rfl (CellIn.blk rfl))) ?_
            rintro _ _ ⟨rfl, rfl⟩
            refine ⟨.inr (fun _ h => h), ?_⟩
            refine JM.takeF 6 (.inr (fun _ h => h)) rfl (by kernel_rfl) rfl rfl rfl (m' := 115) rfl (Pur.len rfl) ?_
            refine JM.many (rs := [2, 8]) (by kernel_rfl) rfl (fun i hi => ?_)
            simp only [List.mem_cons, List.not_mem_nil, or_false] at hi
            rcases hi with rfl | rfl
            · skip
              refine JMi.eff rfl rfl rfl rfl (m' := 119) rfl (Pur.eff (Pur.load rfl (CellIn.blk rfl))) ?_
              rintro _ _ ⟨rfl, rfl⟩
              refine ⟨.inr (fun _ h => h), ?_⟩
              refine JM.takeF 3 (.inr (fun _ h => h)) rfl (by kernel_rfl) rfl rfl rfl (m' := 127) rfl (Pur.len rfl) ?_
              refine JM.takeF 7 (.inr (fun _ h => h)) rfl (by kernel_rfl) rfl rfl rfl (m' := 255) rfl (Pur.sub rfl rfl (wr64 (by omega))) ?_
              refine JM.setv (u' := .int .i64 (((madeL rs ((xss ++ yss).map (atS rs))).length : Int) - (xss.length : Int))) 52 rfl (congrArg (Value.int .i64) (by omega)) ?_
              refine JM.one (i := 8) (by kernel_rfl) ?_
              refine JMi.effN rfl rfl rfl (m' := 511) rfl (Eff.storeBA (cs' := [_, _]) rfl rfl (by rfl) (by rfl) (by rfl)) ?_
              rintro _ _ ⟨rfl, rfl⟩
              refine ⟨.inl (by simp), ?_⟩
              refine JM.takeF 9 (.inl (by kernel_rfl)) rfl (by kernel_rfl) rfl rfl rfl (m' := 1023) rfl (Pur.assign rfl) ?_
              refine JM.takeF 10 (.inl (by kernel_rfl)) rfl (by kernel_rfl) rfl rfl rfl (m' := 2047) rfl (Pur.assign rfl) ?_
              refine JM.done rfl ?_
              refine J.retC rfl (.cell rfl (ld_agg rfl CellsIn.blk) (.tmp rfl (.tmp rfl .nil))) ?_
              have hv : addS rs xss yss = ((rs, (madeL rs ((xss ++ yss).map (atS rs)))), 0) := by unfold addS; rw [if_neg (not_not_intro hs0), if_neg (not_not_intro hall), if_neg hsm]
              have hn0 : addN rs xss yss = ((madeL rs ((xss ++ yss).map (atS rs))).length : Int) - (xss.length : Int) := by unfold addN; rw [hv, if_neg (fun h => h rfl)]
              refine ⟨_, _, ⟨pa, pc, qa, qc, hs1, rfl, rfl⟩, by rw [hv, hn0]; rfl, fun h s => ?_⟩
              rw [hv]
              exact SubC.out h s
            · skip
              refine JMi.effN rfl rfl rfl (m' := 371) rfl (Eff.storeBA (cs' := [_, _]) rfl rfl (by rfl) (by rfl) (by rfl)) ?_
              rintro _ _ ⟨rfl, rfl⟩
              refine ⟨.inl (by simp), ?_⟩
              refine JM.one (i := 2) (by kernel_rfl) ?_
              refine JMi.eff rfl rfl rfl rfl (m' := 375) rfl (Pur.eff (Pur.load rfl (CellIn.blk rfl))) ?_
              rintro _ _ ⟨rfl, rfl⟩
              refine ⟨.inl (.inr (by kernel_rfl)), ?_⟩
              refine JM.takeF 3 (.inl (by kernel_rfl)) rfl (by kernel_rfl) rfl rfl rfl (m' := 383) rfl (Pur.len rfl) ?_
              refine JM.takeF 7 (.inl (by kernel_rfl)) rfl (by kernel_rfl) rfl rfl rfl (m' := 511) rfl (Pur.sub rfl rfl (wr64 (by omega))) ?_
              refine JM.setv (u' := .int .i64 (((madeL rs ((xss ++ yss).map (atS rs))).length : Int) - (xss.length : Int))) 52 rfl (congrArg (Value.int .i64) (by omega)) ?_
              refine JM.takeF 9 (.inl (by kernel_rfl)) rfl (by kernel_rfl) rfl rfl rfl (m' := 1023) rfl (Pur.assign rfl) ?_
              refine JM.takeF 10 (.inl (by kernel_rfl)) rfl (by kernel_rfl) rfl rfl rfl (m' := 2047) rfl (Pur.assign rfl) ?_
              refine JM.done rfl ?_
              refine J.retC rfl (.cell rfl (ld_agg rfl CellsIn.blk) (.tmp rfl (.tmp rfl .nil))) ?_
              have hv : addS rs xss yss = ((rs, (madeL rs ((xss ++ yss).map (atS rs)))), 0) := by unfold addS; rw [if_neg (not_not_intro hs0), if_neg (not_not_intro hall), if_neg hsm]
              have hn0 : addN rs xss yss = ((madeL rs ((xss ++ yss).map (atS rs))).length : Int) - (xss.length : Int) := by unfold addN; rw [hv, if_neg (fun h => h rfl)]
              refine ⟨_, _, ⟨pa, pc, qa, qc, hs1, rfl, rfl⟩, by rw [hv, hn0]; rfl, fun h s => ?_⟩
              rw [hv]
              exact SubC.out h s
          · skip
            refine JMi.effN rfl rfl rfl (m' := 275) rfl (Eff.storeBA (cs' := [_, _]) rfl rfl (by rfl) (by rfl) (by rfl)) ?_
            rintro _ _ ⟨rfl, rfl⟩
            refine ⟨.inl (by simp), ?_⟩
            refine JM.many (rs := [2, 5]) (by kernel_rfl) rfl (fun i hi => ?_)
            simp only [List.mem_cons, List.not_mem_nil, or_false] at hi
            rcases hi with rfl | rfl
            · skip
              refine JMi.eff rfl rfl rfl rfl (m' := 279) rfl (Pur.eff (Pur.load rfl (CellIn.blk rfl))) ?_
              rintro _ _ ⟨rfl, rfl⟩
              refine ⟨.inl (.inr (by kernel_rfl)), ?_⟩
              refine JM.takeF 3 (.inl (by kernel_rfl)) rfl (by kernel_rfl) rfl rfl rfl (m' := 287) rfl (Pur.len rfl) ?_
              refine JM.one (i := 5) (by kernel_rfl) ?_
              refine JMi.eff rfl rfl rfl rfl (m' := 319) rfl (Pur.eff (Pur.load rfl (CellIn.blk rfl))) ?_
              rintro _ _ ⟨rfl, rfl⟩
              refine ⟨.inl (.inr (by kernel_rfl)), ?_⟩
              refine JM.takeF 6 (.inl (by kernel_rfl)) rfl (by kernel_rfl) rfl rfl rfl (m' := 383) rfl (Pur.len rfl) ?_
              refine JM.takeF 7 (.inl (by kernel_rfl)) rfl (by kernel_rfl) rfl rfl rfl (m' := 511) rfl (Pur.sub rfl rfl (wr64 (by omega))) ?_
              refine JM.setv (u' := .int .i64 (((madeL rs ((xss ++ yss).map (atS rs))).length : Int) - (xss.length : Int))) 52 rfl (congrArg (Value.int .i64) (by omega)) ?_
              refine JM.takeF 9 (.inl (by kernel_rfl)) rfl (by kernel_rfl) rfl rfl rfl (m' := 1023) rfl (Pur.assign rfl) ?_
              refine JM.takeF 10 (.inl (by kernel_rfl)) rfl (by kernel_rfl) rfl rfl rfl (m' := 2047) rfl (Pur.assign rfl) ?_
              refine JM.done rfl ?_
              refine J.retC rfl (.cell rfl (ld_agg rfl CellsIn.blk) (.tmp rfl (.tmp rfl .nil))) ?_
              have hv : addS rs xss yss = ((rs, (madeL rs ((xss ++ yss).map (atS rs)))), 0) := by unfold addS; rw [if_neg (not_not_intro hs0), if_neg (not_not_intro hall), if_neg hsm]
              have hn0 : addN rs xss yss = ((madeL rs ((xss ++ yss).map (atS rs))).length : Int) - (xss.length : Int) := by unfold addN; rw [hv, if_neg (fun h => h rfl)]
              refine ⟨_, _, ⟨pa, pc, qa, qc, hs1, rfl, rfl⟩, by rw [hv, hn0]; rfl, fun h s => ?_⟩
              rw [hv]
              exact SubC.out h s
            · skip
              refine JMi.eff rfl rfl rfl rfl (m' := 307) rfl (Pur.eff (Pur.load rfl (CellIn.blk rfl))) ?_
              rintro _ _ ⟨rfl, rfl⟩
              refine ⟨.inl (.inr (by kernel_rfl)), ?_⟩
              refine JM.takeF 6 (.inl (by kernel_rfl)) rfl (by kernel_rfl) rfl rfl rfl (m' := 371) rfl (Pur.len rfl) ?_
              refine JM.one (i := 2) (by kernel_rfl) ?_
              refine JMi.eff rfl rfl rfl rfl (m' := 375) rfl (Pur.eff (Pur.load rfl (CellIn.blk rfl))) ?_
              rintro _ _ ⟨rfl, rfl⟩
              refine ⟨.inl (.inr (by kernel_rfl)), ?_⟩
              refine JM.takeF 3 (.inl (by kernel_rfl)) rfl (by kernel_rfl) rfl rfl rfl (m' := 383) rfl (Pur.len rfl) ?_
              refine JM.takeF 7 (.inl (by kernel_rfl)) rfl (by kernel_rfl) rfl rfl rfl (m' := 511) rfl (Pur.sub rfl rfl (wr64 (by omega))) ?_
              refine JM.setv (u' := .int .i64 (((madeL rs ((xss ++ yss).map (atS rs))).length : Int) - (xss.length : Int))) 52 rfl (congrArg (Value.int .i64) (by omega)) ?_
              refine JM.takeF 9 (.inl (by kernel_rfl)) rfl (by kernel_rfl) rfl rfl rfl (m' := 1023) rfl (Pur.assign rfl) ?_
              refine JM.takeF 10 (.inl (by kernel_rfl)) rfl (by kernel_rfl) rfl rfl rfl (m' := 2047) rfl (Pur.assign rfl) ?_
              refine JM.done rfl ?_
              refine J.retC rfl (.cell rfl (ld_agg rfl CellsIn.blk) (.tmp rfl (.tmp rfl .nil))) ?_
              have hv : addS rs xss yss = ((rs, (madeL rs ((xss ++ yss).map (atS rs)))), 0) := by unfold addS; rw [if_neg (not_not_intro hs0), if_neg (not_not_intro hall), if_neg hsm]
              have hn0 : addN rs xss yss = ((madeL rs ((xss ++ yss).map (atS rs))).length : Int) - (xss.length : Int) := by unfold addN; rw [hv, if_neg (fun h => h rfl)]
              refine ⟨_, _, ⟨pa, pc, qa, qc, hs1, rfl, rfl⟩, by rw [hv, hn0]; rfl, fun h s => ?_⟩
              rw [hv]
              exact SubC.out h s
      · intro cuta7
        refine J.fact (fun h s => SlH.nil (E := intE) (a := a20) (cap := c20) (xs := (yss.map (atS rs))) s) fun hnl => ?_
        refine J.mask0 (n := 8) [4, 5, 7] rfl Try.mixed rfl (by kernel_rfl) ?_
        refine JM.takeF 0 (.inr (fun _ h => h)) rfl (by kernel_rfl) rfl rfl rfl (m' := 1) rfl (Pur.fieldAddr rfl) ?_
        refine JM.take 2 (fun _ h => h) rfl (by kernel_rfl) rfl rfl rfl (m' := 5) rfl (Pur.move rfl) ?_
        refine JM.take 3 (fun _ h => h) rfl (by kernel_rfl) rfl rfl rfl (m' := 13) rfl (Pur.move rfl) ?_
        refine JM.many (rs := [1, 4, 6]) (by kernel_rfl) rfl (fun i hi => ?_)
        simp only [List.mem_cons, List.not_mem_nil, or_false] at hi
        rcases hi with rfl | rfl | rfl
        · skip
          refine JMi.eff rfl rfl rfl rfl (m' := 15) rfl (Pur.eff (Pur.loadA rfl rfl rfl (CellsIn.sub1 rfl))) ?_
          rintro _ _ ⟨rfl, rfl⟩
          refine ⟨.inr (fun _ h => h), ?_⟩
          refine JM.many (rs := [4, 6]) (by kernel_rfl) rfl (fun i hi => ?_)
          simp only [List.mem_cons, List.not_mem_nil, or_false] at hi
          rcases hi with rfl | rfl
          · skip
            refine JMi.eff rfl rfl rfl rfl (m' := 31) rfl (Eff.append rfl rfl rfl rfl (by first | rfl | omega | (simp; done) | (simp; omega)) (by first | rfl | omega | (simp; done) | (simp; omega)) (by decide) (by simp; omega) (by simp; omega) (fun e => ⟨by have := congrArg List.length (hnl e).1; simpa using this, (hnl e).2⟩)) ?_
            rintro _ _ ⟨a38, c38, rfl, rfl⟩
            refine ⟨.inl (by simp), ?_⟩
            refine JM.many (rs := [5, 6]) (by kernel_rfl) rfl (fun i hi => ?_)
            simp only [List.mem_cons, List.not_mem_nil, or_false] at hi
            rcases hi with rfl | rfl
            · skip
              refine JMi.eff rfl rfl rfl rfl (m' := 63) rfl (Eff.call rfl (made_ok (rs := rs) (ts := (xss.map (atS rs)) ++ (yss.map (atS rs))) rfl (by simp) hs0.1 (by simp; omega) (fun t ht => by rw [← List.map_append] at ht; obtain ⟨y, hy, rfl⟩ := List.mem_map.1 ht; exact ⟨atS_nonneg rs y, atS_lt2 hs0.1 (hallp y hy)⟩))) ?_
              rintro _ _ ⟨pa, pc, qa, qc, hs1, rfl, rfl⟩
              refine ⟨.inl (by simp), ?_⟩
              rw [← List.map_append]
              refine JM.one (i := 6) (by kernel_rfl) ?_
              refine JMi.eff rfl rfl rfl rfl (m' := 127) rfl (Eff.alloc (cs := [_, _]) rfl) ?_
              rintro _ _ ⟨b11, rfl, rfl⟩
              refine ⟨.inl (.inr (by kernel_rfl)), ?_⟩
              refine JM.one (i := 7) (by kernel_rfl) ?_
              refine JMi.effN rfl rfl rfl (m' := 255) rfl (Eff.storeBA (cs' := [_, _]) rfl rfl (by rfl) (by rfl) (by rfl)) ?_
              rintro _ _ ⟨rfl, rfl⟩
              refine ⟨.inl (by simp), ?_⟩
              refine JM.done rfl ?_
              exact J.weaken (.cons rfl rfl (.cons rfl rfl (.cons rfl rfl .nil))) (by first | exact fun _ h => h | exact SubC.out | (dsimp only; exact SubC.out)) (cuta7 (b11, pa, pc, qa, qc, hs1) trivial)
            · skip
              refine JMi.eff rfl rfl rfl rfl (m' := 95) rfl (Eff.alloc (cs := [_, _]) rfl) ?_
              rintro _ _ ⟨b11, rfl, rfl⟩
              refine ⟨.inl (.inr (by kernel_rfl)), ?_⟩
              refine JM.one (i := 5) (by kernel_rfl) ?_
              refine JMi.eff rfl rfl rfl rfl (m' := 127) rfl (Eff.call rfl (made_ok (rs := rs) (ts := (xss.map (atS rs)) ++ (yss.map (atS rs))) rfl (by simp) hs0.1 (by simp; omega) (fun t ht => by rw [← List.map_append] at ht; obtain ⟨y, hy, rfl⟩ := List.mem_map.1 ht; exact ⟨atS_nonneg rs y, atS_lt2 hs0.1 (hallp y hy)⟩))) ?_
              rintro _ _ ⟨pa, pc, qa, qc, hs1, rfl, rfl⟩
              refine ⟨.inl (by simp), ?_⟩
              rw [← List.map_append]
              refine JM.one (i := 7) (by kernel_rfl) ?_
              refine JMi.effN rfl rfl rfl (m' := 255) rfl (Eff.storeBA (cs' := [_, _]) rfl rfl (by rfl) (by rfl) (by rfl)) ?_
              rintro _ _ ⟨rfl, rfl⟩
              refine ⟨.inl (by simp), ?_⟩
              refine JM.done rfl ?_
              exact J.weaken (.cons rfl rfl (.cons rfl rfl (.cons rfl rfl .nil))) (by first | exact fun _ h => h | exact SubC.out | (dsimp only; exact SubC.out)) (cuta7 (b11, pa, pc, qa, qc, hs1) trivial)
          · skip
            refine JMi.eff rfl rfl rfl rfl (m' := 79) rfl (Eff.alloc (cs := [_, _]) rfl) ?_
            rintro _ _ ⟨b11, rfl, rfl⟩
            refine ⟨.inr (fun _ h => h.tail), ?_⟩
            refine JM.one (i := 4) (by kernel_rfl) ?_
            refine JMi.eff rfl rfl rfl rfl (m' := 95) rfl (Eff.append rfl rfl rfl rfl (by first | rfl | omega | (simp; done) | (simp; omega)) (by first | rfl | omega | (simp; done) | (simp; omega)) (by decide) (by simp; omega) (by simp; omega) (fun e => ⟨by have := congrArg List.length (hnl e).1; simpa using this, (hnl e).2⟩)) ?_
            rintro _ _ ⟨a38, c38, rfl, rfl⟩
            refine ⟨.inl (by simp), ?_⟩
            refine JM.one (i := 5) (by kernel_rfl) ?_
            refine JMi.eff rfl rfl rfl rfl (m' := 127) rfl (Eff.call rfl (made_ok (rs := rs) (ts := (xss.map (atS rs)) ++ (yss.map (atS rs))) rfl (by simp) hs0.1 (by simp; omega) (fun t ht => by rw [← List.map_append] at ht; obtain ⟨y, hy, rfl⟩ := List.mem_map.1 ht; exact ⟨atS_nonneg rs y, atS_lt2 hs0.1 (hallp y hy)⟩))) ?_
            rintro _ _ ⟨pa, pc, qa, qc, hs1, rfl, rfl⟩
            refine ⟨.inl (by simp), ?_⟩
            rw [← List.map_append]
            refine JM.one (i := 7) (by kernel_rfl) ?_
            refine JMi.effN rfl rfl rfl (m' := 255) rfl (Eff.storeBA (cs' := [_, _]) rfl rfl (by rfl) (by rfl) (by rfl)) ?_
            rintro _ _ ⟨rfl, rfl⟩
            refine ⟨.inl (by simp), ?_⟩
            refine JM.done rfl ?_
            exact J.weaken (.cons rfl rfl (.cons rfl rfl (.cons rfl rfl .nil))) (by first | exact fun _ h => h | exact SubC.out | (dsimp only; exact SubC.out)) (cuta7 (b11, pa, pc, qa, qc, hs1) trivial)
        · skip
          refine JMi.eff rfl rfl rfl rfl (m' := 29) rfl (Eff.append rfl rfl rfl rfl (by first | rfl | omega | (simp; done) | (simp; omega)) (by first | rfl | omega | (simp; done) | (simp; omega)) (by decide) (by simp; omega) (by simp; omega) (fun e => ⟨by have := congrArg List.length (hnl e).1; simpa using this, (hnl e).2⟩)) ?_
          rintro _ _ ⟨a38, c38, rfl, rfl⟩
          refine ⟨.inl (by simp), ?_⟩
          refine JM.many (rs := [1, 6]) (by kernel_rfl) rfl (fun i hi => ?_)
          simp only [List.mem_cons, List.not_mem_nil, or_false] at hi
          rcases hi with rfl | rfl
          · skip
            refine JMi.eff rfl rfl rfl rfl (m' := 31) rfl (Pur.eff (Pur.loadA rfl rfl rfl (CellsIn.sub1 rfl))) ?_
            rintro _ _ ⟨rfl, rfl⟩
            refine ⟨.inl (.inr (by kernel_rfl)), ?_⟩
            refine JM.many (rs := [5, 6]) (by kernel_rfl) rfl (fun i hi => ?_)
            simp only [List.mem_cons, List.not_mem_nil, or_false] at hi
            rcases hi with rfl | rfl
            · skip
              refine JMi.eff rfl rfl rfl rfl (m' := 63) rfl (Eff.call rfl (made_ok (rs := rs) (ts := (xss.map (atS rs)) ++ (yss.map (atS rs))) rfl (by simp) hs0.1 (by simp; omega) (fun t ht => by rw [← List.map_append] at ht; obtain ⟨y, hy, rfl⟩ := List.mem_map.1 ht; exact ⟨atS_nonneg rs y, atS_lt2 hs0.1 (hallp y hy)⟩))) ?_
              rintro _ _ ⟨pa, pc, qa, qc, hs1, rfl, rfl⟩
              refine ⟨.inl (by simp), ?_⟩
              rw [← List.map_append]
              refine JM.one (i := 6) (by kernel_rfl) ?_
              refine JMi.eff rfl rfl rfl rfl (m' := 127) rfl (Eff.alloc (cs := [_, _]) rfl) ?_
              rintro _ _ ⟨b11, rfl, rfl⟩
              refine ⟨.inl (.inr (by kernel_rfl)), ?_⟩
              refine JM.one (i := 7) (by kernel_rfl) ?_
              refine JMi.effN rfl rfl rfl (m' := 255) rfl (Eff.storeBA (cs' := [_, _]) rfl rfl (by rfl) (by rfl) (by rfl)) ?_
              rintro _ _ ⟨rfl, rfl⟩
              refine ⟨.inl (by simp), ?_⟩
              refine JM.done rfl ?_
              exact J.weaken (.cons rfl rfl (.cons rfl rfl (.cons rfl rfl .nil))) (by first | exact fun _ h => h | exact SubC.out | (dsimp only; exact SubC.out)) (cuta7 (b11, pa, pc, qa, qc, hs1) trivial)
            · skip
              refine JMi.eff rfl rfl rfl rfl (m' := 95) rfl (Eff.alloc (cs := [_, _]) rfl) ?_
              rintro _ _ ⟨b11, rfl, rfl⟩
              refine ⟨.inl (.inr (by kernel_rfl)), ?_⟩
              refine JM.one (i := 5) (by kernel_rfl) ?_
              refine JMi.eff rfl rfl rfl rfl (m' := 127) rfl (Eff.call rfl (made_ok (rs := rs) (ts := (xss.map (atS rs)) ++ (yss.map (atS rs))) rfl (by simp) hs0.1 (by simp; omega) (fun t ht => by rw [← List.map_append] at ht; obtain ⟨y, hy, rfl⟩ := List.mem_map.1 ht; exact ⟨atS_nonneg rs y, atS_lt2 hs0.1 (hallp y hy)⟩))) ?_
              rintro _ _ ⟨pa, pc, qa, qc, hs1, rfl, rfl⟩
              refine ⟨.inl (by simp), ?_⟩
              rw [← List.map_append]
              refine JM.one (i := 7) (by kernel_rfl) ?_
              refine JMi.effN rfl rfl rfl (m' := 255) rfl (Eff.storeBA (cs' := [_, _]) rfl rfl (by rfl) (by rfl) (by rfl)) ?_
              rintro _ _ ⟨rfl, rfl⟩
              refine ⟨.inl (by simp), ?_⟩
              refine JM.done rfl ?_
              exact J.weaken (.cons rfl rfl (.cons rfl rfl (.cons rfl rfl .nil))) (by first | exact fun _ h => h | exact SubC.out | (dsimp only; exact SubC.out)) (cuta7 (b11, pa, pc, qa, qc, hs1) trivial)
          · skip
            refine JMi.eff rfl rfl rfl rfl (m' := 93) rfl (Eff.alloc (cs := [_, _]) rfl) ?_
            rintro _ _ ⟨b11, rfl, rfl⟩
            refine ⟨.inl (.inr (by kernel_rfl)), ?_⟩
            refine JM.one (i := 1) (by kernel_rfl) ?_
            refine JMi.eff rfl rfl rfl rfl (m' := 95) rfl (Pur.eff (Pur.loadA rfl rfl rfl (CellsIn.sub1 rfl))) ?_
            rintro _ _ ⟨rfl, rfl⟩
            refine ⟨.inl (.inr (by kernel_rfl)), ?_⟩
            refine JM.one (i := 5) (by kernel_rfl) ?_
            refine JMi.eff rfl rfl rfl rfl (m' := 127) rfl (Eff.call rfl (made_ok (rs := rs) (ts := (xss.map (atS rs)) ++ (yss.map (atS rs))) rfl (by simp) hs0.1 (by simp; omega) (fun t ht => by rw [← List.map_append] at ht; obtain ⟨y, hy, rfl⟩ := List.mem_map.1 ht; exact ⟨atS_nonneg rs y, atS_lt2 hs0.1 (hallp y hy)⟩))) ?_
            rintro _ _ ⟨pa, pc, qa, qc, hs1, rfl, rfl⟩
            refine ⟨.inl (by simp), ?_⟩
            rw [← List.map_append]
            refine JM.one (i := 7) (by kernel_rfl) ?_
            refine JMi.effN rfl rfl rfl (m' := 255) rfl (Eff.storeBA (cs' := [_, _]) rfl rfl (by rfl) (by rfl) (by rfl)) ?_
            rintro _ _ ⟨rfl, rfl⟩
            refine ⟨.inl (by simp), ?_⟩
            refine JM.done rfl ?_
            exact J.weaken (.cons rfl rfl (.cons rfl rfl (.cons rfl rfl .nil))) (by first | exact fun _ h => h | exact SubC.out | (dsimp only; exact SubC.out)) (cuta7 (b11, pa, pc, qa, qc, hs1) trivial)
        · skip
          refine JMi.eff rfl rfl rfl rfl (m' := 77) rfl (Eff.alloc (cs := [_, _]) rfl) ?_
          rintro _ _ ⟨b11, rfl, rfl⟩
          refine ⟨.inr (fun _ h => h.tail), ?_⟩
          refine JM.many (rs := [1, 4]) (by kernel_rfl) rfl (fun i hi => ?_)
          simp only [List.mem_cons, List.not_mem_nil, or_false] at hi
          rcases hi with rfl | rfl
          · skip
            refine JMi.eff rfl rfl rfl rfl (m' := 79) rfl (Pur.eff (Pur.loadA rfl rfl rfl (CellsIn.sub1 rfl))) ?_
            rintro _ _ ⟨rfl, rfl⟩
            refine ⟨.inr (fun _ h => h.tail), ?_⟩
            refine JM.one (i := 4) (by kernel_rfl) ?_
            refine JMi.eff rfl rfl rfl rfl (m' := 95) rfl (Eff.append rfl rfl rfl rfl (by first | rfl | omega | (simp; done) | (simp; omega)) (by first | rfl | omega | (simp; done) | (simp; omega)) (by decide) (by simp; omega) (by simp; omega) (fun e => ⟨by have := congrArg List.length (hnl e).1; simpa using this, (hnl e).2⟩)) ?_
            rintro _ _ ⟨a38, c38, rfl, rfl⟩
            refine ⟨.inl (by simp), ?_⟩
            refine JM.one (i := 5) (by kernel_rfl) ?_
            refine JMi.eff rfl rfl rfl rfl (m' := 127) rfl (Eff.call rfl (made_ok (rs := rs) (ts := (xss.map (atS rs)) ++ (yss.map (atS rs))) rfl (by simp) hs0.1 (by simp; omega) (fun t ht => by rw [← List.map_append] at ht; obtain ⟨y, hy, rfl⟩ := List.mem_map.1 ht; exact ⟨atS_nonneg rs y, atS_lt2 hs0.1 (hallp y hy)⟩))) ?_
            rintro _ _ ⟨pa, pc, qa, qc, hs1, rfl, rfl⟩
            refine ⟨.inl (by simp), ?_⟩
            rw [← List.map_append]
            refine JM.one (i := 7) (by kernel_rfl) ?_
            refine JMi.effN rfl rfl rfl (m' := 255) rfl (Eff.storeBA (cs' := [_, _]) rfl rfl (by rfl) (by rfl) (by rfl)) ?_
            rintro _ _ ⟨rfl, rfl⟩
            refine ⟨.inl (by simp), ?_⟩
            refine JM.done rfl ?_
            exact J.weaken (.cons rfl rfl (.cons rfl rfl (.cons rfl rfl .nil))) (by first | exact fun _ h => h | exact SubC.out | (dsimp only; exact SubC.out)) (cuta7 (b11, pa, pc, qa, qc, hs1) trivial)
          · skip
            refine JMi.eff rfl rfl rfl rfl (m' := 93) rfl (Eff.append rfl rfl rfl rfl (by first | rfl | omega | (simp; done) | (simp; omega)) (by first | rfl | omega | (simp; done) | (simp; omega)) (by decide) (by simp; omega) (by simp; omega) (fun e => ⟨by have := congrArg List.length (hnl e).1; simpa using this, (hnl e).2⟩)) ?_
            rintro _ _ ⟨a38, c38, rfl, rfl⟩
            refine ⟨.inl (by simp), ?_⟩
            refine JM.one (i := 1) (by kernel_rfl) ?_
            refine JMi.eff rfl rfl rfl rfl (m' := 95) rfl (Pur.eff (Pur.loadA rfl rfl rfl (CellsIn.sub1 rfl))) ?_
            rintro _ _ ⟨rfl, rfl⟩
            refine ⟨.inl (.inr (by kernel_rfl)), ?_⟩
            refine JM.one (i := 5) (by kernel_rfl) ?_
            refine JMi.eff rfl rfl rfl rfl (m' := 127) rfl (Eff.call rfl (made_ok (rs := rs) (ts := (xss.map (atS rs)) ++ (yss.map (atS rs))) rfl (by simp) hs0.1 (by simp; omega) (fun t ht => by rw [← List.map_append] at ht; obtain ⟨y, hy, rfl⟩ := List.mem_map.1 ht; exact ⟨atS_nonneg rs y, atS_lt2 hs0.1 (hallp y hy)⟩))) ?_
            rintro _ _ ⟨pa, pc, qa, qc, hs1, rfl, rfl⟩
            refine ⟨.inl (by simp), ?_⟩
            rw [← List.map_append]
            refine JM.one (i := 7) (by kernel_rfl) ?_
            refine JMi.effN rfl rfl rfl (m' := 255) rfl (Eff.storeBA (cs' := [_, _]) rfl rfl (by rfl) (by rfl) (by rfl)) ?_
            rintro _ _ ⟨rfl, rfl⟩
            refine ⟨.inl (by simp), ?_⟩
            refine JM.done rfl ?_
            exact J.weaken (.cons rfl rfl (.cons rfl rfl (.cons rfl rfl .nil))) (by first | exact fun _ h => h | exact SubC.out | (dsimp only; exact SubC.out)) (cuta7 (b11, pa, pc, qa, qc, hs1) trivial)

end Go.Proofs.Ytnhippfllgnngaa
