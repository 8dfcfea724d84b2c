/-
  A part of the proof of the claim that this folder bears.
-/
import Derived.Test.YtnhippfllgnngaaPAN
import Derived.Test.YtnhippfllgnngaaPAH
/- The text SM6. -/
set_option linter.unusedVariables false
set_option linter.unusedSimpArgs false
set_option maxRecDepth 10000
namespace Go.Proofs.Ytnhippfllgnngaa
open Go Go.KK Dm

theorem atS_lt2 {rs : List Rg} (h : okD rs) {x : List Int} (hx : (plD rs x).isSome = true) : atS rs x < (cntD rs : Int) := by
  obtain ⟨n, hn⟩ := Option.isSome_iff_exists.1 hx
  have := plD_lt h.2.2.1 hn
  unfold atS; rw [hn]; exact Int.ofNat_lt.2 this
theorem s_AddAll {L : List Asn} {a la lb : Option Addr} {n cap ln lc lm lq : Nat} {rs : List Rg} {hs gs : List Hdr} {xss yss : List (List Int)} [SlIn rgE L a rs] [SlIn hE L la hs] [RowsR intE L hs xss] [SlIn hE L lb gs] [RowsR intE L gs yss] (hn : n = rs.length) (hl : ln = hs.length) (hm : lm = gs.length) (hnA : la = none → hs.length = 0 ∧ lc = 0) (hnB : lb = none → gs.length = 0 ∧ lq = 0) (hyb : yss.length ≤ 400) :
    CallS Try.prog 46 [.agg #[.slice a n cap, .slice la ln lc], .slice lb lm lq].toArray L (fun w M => ∃ pa pc qa qc hs', w = .tuple #[.agg #[.slice pa (addS rs xss yss).1.1.length pc, .slice qa (addS rs xss yss).1.2.length qc], .int .i64 (addN rs xss yss), .int .i64 (addS rs xss yss).2] ∧ M = sl rgE pa pc (addS rs xss yss).1.1 :: sl hE qa qc hs' :: rows intE hs' (addS rs xss yss).1.2 :: L) := by
  subst hn
  subst hl
  refine CallS.fact (fun h s => RowsR.len (E := intE) (hs := hs) (xss := xss) s) fun hnn => ?_
  have hhl : hs.length = xss.length := rows_len hnn
  subst hm
  refine CallS.fact (fun h s => RowsR.len (E := intE) (hs := gs) (xss := yss) s) fun hnn2 => ?_
  have hgl : gs.length = yss.length := rows_len hnn2
  refine CallS.ent ?_
  refine CallS.enter Try.func46 rfl rfl rfl rfl rfl ?_
  refine J.seq rfl ?_
  refine J.region rfl ?_
  refine JO.eff rfl rfl rfl (Eff.box (cs := [_, _]) rfl rfl) ?_
  rintro _ _ ⟨b2, rfl, rfl⟩
  refine JO.eff rfl rfl rfl (Eff.alloc (cs := [_, _]) rfl) ?_
  rintro _ _ ⟨b4, rfl, rfl⟩
  refine JO.pur rfl rfl rfl (Pur.assign rfl) ?_
  refine JO.pur rfl rfl rfl (Pur.assign rfl) ?_
  refine JO.nil ?_
  refine J.seq rfl ?_
  refine J.seq rfl ?_
  refine J.region rfl ?_
  refine JO.pur rfl rfl rfl (Pur.loadA rfl rfl rfl CellsIn.blk) ?_
  refine JO.effR rfl rfl rfl (Eff.call rfl (s_Valid (rs := rs) (hs := hs) (xss := xss) rfl rfl)) ?_
  refine JO.pur rfl rfl rfl (Pur.not rfl) ?_
  refine JO.nil ?_
  refine J.splitB 11 rfl (fun h11 => ?_) (fun h11 => ?_)
  · try simp only [decide_eq_true_eq, decide_eq_false_iff_not, Bool.not_eq_true', Bool.not_eq_false', Bool.and_eq_true, Bool.or_eq_true, Bool.and_eq_false_iff, Bool.or_eq_false_iff, Option.isNone_some, Option.isSome_some, Option.isNone_none, Option.isSome_none, Int.not_lt, Int.not_le, beq_iff_eq, beq_eq_false_iff_ne, bne_iff_ne, ne_eq, Bool.not_not, Decidable.not_not] at h11
    have hns : ¬ okS rs xss := h11
    refine J.condT rfl rfl ?_
    refine J.seq rfl ?_
    refine J.region rfl ?_
    refine JO.pur rfl rfl rfl (Pur.build (cs := [_, _]) rfl rfl) ?_
    refine JO.effN rfl rfl (Eff.storeBA (cs' := [_, _]) rfl rfl (by rfl) (by rfl) (by rfl)) ?_
    rintro _ _ ⟨rfl, rfl⟩
    refine JO.pur rfl rfl rfl (Pur.assign rfl) ?_
    refine JO.pur rfl rfl rfl (Pur.assign rfl) ?_
    refine JO.nil ?_
    refine J.retC rfl (.cell rfl (ld_agg rfl CellsIn.blk) (.tmp rfl (.tmp rfl .nil))) ?_
    have hv : addS rs xss yss = (([], []), 50) := by unfold addS; rw [if_pos hns]
    have hn0 : addN rs xss yss = 0 := by unfold addN; rw [hv, if_pos (by decide)]
    refine ⟨_, _, ⟨none, 0, none, 0, [], rfl, rfl⟩, by rw [hv, hn0]; rfl, fun h s => ?_⟩
    rw [hv]; exact sl_nil_new (sl_nil_new (rows_nil (SubC.out h s)))
  · try simp only [decide_eq_true_eq, decide_eq_false_iff_not, Bool.not_eq_true', Bool.not_eq_false', Bool.and_eq_true, Bool.or_eq_true, Bool.and_eq_false_iff, Bool.or_eq_false_iff, Option.isNone_some, Option.isSome_some, Option.isNone_none, Option.isSome_none, Int.not_lt, Int.not_le, beq_iff_eq, beq_eq_false_iff_ne, bne_iff_ne, ne_eq, Bool.not_not, Decidable.not_not] at h11
    have hs0 : okS rs xss := h11
    have hxl4 := hs0.2.1
    refine J.condF rfl rfl ?_
    refine J.skip rfl ?_
    refine J.seq rfl ?_
    refine J.mask0 (n := 13) [] rfl Try.mixed rfl (by kernel_rfl) ?_
    refine JM.take 0 (fun _ h => h) rfl (by kernel_rfl) rfl rfl rfl (m' := 1) rfl (Pur.fieldAddr rfl) ?_
    refine JM.take 1 (fun _ h => h) rfl (by kernel_rfl) rfl rfl rfl (m' := 3) rfl (Pur.loadA rfl rfl rfl (CellsIn.sub1 rfl)) ?_
    refine JM.take 2 (fun _ h => h) rfl (by kernel_rfl) rfl rfl rfl (m' := 7) rfl (Pur.fieldAddr rfl) ?_
    refine JM.take 3 (fun _ h => h) rfl (by kernel_rfl) rfl rfl rfl (m' := 15) rfl (Pur.load rfl (CellIn.blk rfl)) ?_
    refine JM.take 4 (fun _ h => h) rfl (by kernel_rfl) rfl rfl rfl (m' := 31) rfl (Pur.move rfl) ?_
    refine JM.one (i := 5) (by kernel_rfl) ?_
    refine JMi.eff rfl rfl rfl rfl (m' := 63) rfl (Eff.buildSlice lE [⟨la, hs.length, lc⟩, ⟨lb, gs.length, lq⟩] rfl rfl rfl rfl rfl rfl rfl) ?_
    rintro _ _ ⟨b19, rfl, -, rfl⟩
    refine ⟨.inr (fun _ h => h.tail), ?_⟩
    refine JM.one (i := 6) (by kernel_rfl) ?_
    refine JMi.eff rfl rfl rfl rfl (m' := 127) rfl (Eff.call rfl (concat_ok (hs := hs) (gs := gs) rfl hnA hnB (by omega) (by omega))) ?_
    rintro _ _ ⟨a20, c20, rfl, rfl⟩
    refine ⟨.inr (fun _ h => h.tail.tail), ?_⟩
    refine JM.one (i := 7) (by kernel_rfl) ?_
    refine JMi.eff rfl rfl rfl rfl (m' := 255) rfl (Eff.call rfl (s_places (rs := rs) (hs := hs ++ gs) (xss := xss ++ yss) rfl rfl (by simp only [List.length_append]; omega))) ?_
    rintro _ _ ⟨es, zss, a21, c21, rfl, rfl, hpl⟩
    refine ⟨.inr (fun _ h => h.tail.tail.tail.tail), ?_⟩
    refine JM.take 8 (fun _ h => h.tail.tail.tail.tail) rfl (by kernel_rfl) rfl rfl rfl (m' := 511) rfl (Pur.move rfl) ?_
    refine JM.take 9 (fun _ h => h.tail.tail.tail.tail) rfl (by kernel_rfl) rfl rfl rfl (m' := 1023) rfl (Pur.extract rfl rfl) ?_
    refine JM.take 10 (fun _ h => h.tail.tail.tail.tail) rfl (by kernel_rfl) rfl rfl rfl (m' := 2047) rfl (Pur.extract rfl rfl) ?_
    refine JM.setv (u' := .bool (decide (∀ y ∈ yss, (plV rs y).2 = 0))) 23 rfl (congrArg Value.bool (plc_app hs0)) ?_
    refine JM.take 11 (fun _ h => h.tail.tail.tail.tail) rfl (by kernel_rfl) rfl rfl rfl (m' := 4095) rfl (Pur.assign rfl) ?_
    refine JM.take 12 (fun _ h => h.tail.tail.tail.tail) rfl (by kernel_rfl) rfl rfl rfl (m' := 8191) rfl (Pur.assign rfl) ?_
    refine JM.done rfl ?_
    refine J.seq rfl ?_
    refine J.seq rfl ?_
    refine J.region rfl ?_
    refine JO.pur rfl rfl rfl (Pur.move rfl) ?_
    refine JO.pur rfl rfl rfl (Pur.not rfl) ?_
    refine JO.nil ?_
    refine J.splitB 25 rfl (fun h25 => ?_) (fun h25 => ?_)
    · try simp only [decide_eq_true_eq, decide_eq_false_iff_not, Bool.not_eq_true', Bool.not_eq_false', Bool.and_eq_true, Bool.or_eq_true, Bool.and_eq_false_iff, Bool.or_eq_false_iff, Option.isNone_some, Option.isSome_some, Option.isNone_none, Option.isSome_none, Int.not_lt, Int.not_le, beq_iff_eq, beq_eq_false_iff_ne, bne_iff_ne, ne_eq, Bool.not_not, Decidable.not_not] at h25
      have hbad : ¬ ∀ y ∈ yss, (plV rs y).2 = 0 := h25
      refine J.condT rfl rfl ?_
      refine J.seq rfl ?_
      refine J.region rfl ?_
      refine JO.pur rfl rfl rfl (Pur.build (cs := [_, _]) rfl rfl) ?_
      refine JO.effN rfl rfl (Eff.storeBA (cs' := [_, _]) rfl rfl (by rfl) (by rfl) (by rfl)) ?_
      rintro _ _ ⟨rfl, rfl⟩
      refine JO.pur rfl rfl rfl (Pur.assign rfl) ?_
      refine JO.pur rfl rfl rfl (Pur.assign rfl) ?_
      refine JO.nil ?_
      refine J.retC rfl (.cell rfl (ld_agg rfl CellsIn.blk) (.tmp rfl (.tmp rfl .nil))) ?_
      have hv : addS rs xss yss = (([], []), 2) := by unfold addS; rw [if_neg (not_not_intro hs0), if_pos hbad]
      have hn0 : addN rs xss yss = 0 := by unfold addN; rw [hv, if_pos (by decide)]
      refine ⟨_, _, ⟨none, 0, none, 0, [], rfl, rfl⟩, by rw [hv, hn0]; rfl, fun h s => ?_⟩
      rw [hv]; exact sl_nil_new (sl_nil_new (rows_nil (SubC.out h s)))
    · try simp only [decide_eq_true_eq, decide_eq_false_iff_not, Bool.not_eq_true', Bool.not_eq_false', Bool.and_eq_true, Bool.or_eq_true, Bool.and_eq_false_iff, Bool.or_eq_false_iff, Option.isNone_some, Option.isSome_some, Option.isNone_none, Option.isSome_none, Int.not_lt, Int.not_le, beq_iff_eq, beq_eq_false_iff_ne, bne_iff_ne, ne_eq, Bool.not_not, Decidable.not_not] at h25
      have hall : ∀ y ∈ yss, (plV rs y).2 = 0 := h25
      have hallp : ∀ x ∈ xss ++ yss, (plD rs x).isSome = true := fun x hx => by
        rcases List.mem_append.1 hx with hx | hx
        · exact okS_some hs0 hx
        · exact (plV_ok hs0.1 x).1.1 (hall x hx)
      obtain ⟨he1, hp1, hsr⟩ := hpl ((plc_app hs0).trans (decide_eq_true hall))
      have hel : es.length = xss.length + yss.length := by have h1 := congrArg List.length he1; rw [List.length_map, List.length_map, hp1.length_eq, List.length_append] at h1; exact h1
      refine J.condF rfl rfl ?_
      refine J.skip rfl ?_
      refine J.seq rfl ?_
      refine J.region rfl ?_
      refine JO.pur rfl rfl rfl (Pur.move rfl) ?_
      refine JO.eff rfl rfl rfl (Eff.call rfl (compact_ok (es := es) rfl (by omega))) ?_
      rintro _ _ ⟨rfl, rfl⟩
      obtain ⟨cs, hcs⟩ : ∃ cs, cs = cptN enK es es.length := ⟨_, rfl⟩
      rw [← hcs]
      obtain ⟨zs, hz, hz1, hzl, hzz⟩ := plc_cpt (ys := cs) he1 (by rw [hcs]; have := cptN_sub (ky := enK) (es := es) es.length (Nat.le_refl _); rwa [List.take_length] at this)
      have hmd : madeL rs ((xss ++ yss).map (atS rs)) = zs := add_made hs0.1 hallp hp1 he1 hsr hcs hz hz1
      refine JO.pur rfl rfl rfl (Pur.assign rfl) ?_
      refine JO.nil ?_
      refine J.seq rfl ?_
      refine J.seq rfl ?_
      refine J.region rfl ?_
      refine JO.pur rfl rfl rfl (Pur.move rfl) ?_
      refine JO.pur rfl rfl rfl (Pur.len rfl) ?_
      refine JO.pur rfl rfl rfl (Pur.gtr rfl rfl) ?_
      refine JO.nil ?_
      refine J.splitB 31 rfl (fun h31 => ?_) (fun h31 => ?_)
      · try simp only [decide_eq_true_eq, decide_eq_false_iff_not, Bool.not_eq_true', Bool.not_eq_false', Bool.and_eq_true, Bool.or_eq_true, Bool.and_eq_false_iff, Bool.or_eq_false_iff, Option.isNone_some, Option.isSome_some, Option.isNone_none, Option.isSome_none, Int.not_lt, Int.not_le, beq_iff_eq, beq_eq_false_iff_ne, bne_iff_ne, ne_eq, Bool.not_not, Decidable.not_not] at h31
        have hbig : 400 < (madeL rs ((xss ++ yss).map (atS rs))).length := by rw [hmd, ← hzl]; omega
        refine J.condT rfl rfl ?_
        refine J.seq rfl ?_
        refine J.region rfl ?_
        refine JO.pur rfl rfl rfl (Pur.build (cs := [_, _]) rfl rfl) ?_
        refine JO.effN rfl rfl (Eff.storeBA (cs' := [_, _]) rfl rfl (by rfl) (by rfl) (by rfl)) ?_
        rintro _ _ ⟨rfl, rfl⟩
        refine JO.pur rfl rfl rfl (Pur.assign rfl) ?_
        refine JO.pur rfl rfl rfl (Pur.assign rfl) ?_
        refine JO.nil ?_
        refine J.retC rfl (.cell rfl (ld_agg rfl CellsIn.blk) (.tmp rfl (.tmp rfl .nil))) ?_
        have hv : addS rs xss yss = (([], []), 4) := by unfold addS; rw [if_neg (not_not_intro hs0), if_neg (not_not_intro hall), if_pos hbig]
        have hn0 : addN rs xss yss = 0 := by unfold addN; rw [hv, if_pos (by decide)]
        refine ⟨_, _, ⟨none, 0, none, 0, [], rfl, rfl⟩, by rw [hv, hn0]; rfl, fun h s => ?_⟩
        rw [hv]; exact sl_nil_new (sl_nil_new (rows_nil (SubC.out h s)))
      · try simp only [decide_eq_true_eq, decide_eq_false_iff_not, Bool.not_eq_true', Bool.not_eq_false', Bool.and_eq_true, Bool.or_eq_true, Bool.and_eq_false_iff, Bool.or_eq_false_iff, Option.isNone_some, Option.isSome_some, Option.isNone_none, Option.isSome_none, Int.not_lt, Int.not_le, beq_iff_eq, beq_eq_false_iff_ne, bne_iff_ne, ne_eq, Bool.not_not, Decidable.not_not] at h31
        have hsm : ¬ 400 < (madeL rs ((xss ++ yss).map (atS rs))).length := by rw [hmd, ← hzl]; omega
        refine J.condF rfl rfl ?_
        refine J.skip rfl ?_
        refine J.seq rfl ?_
        refine J.mask0 (n := 15) [12] rfl Try.mixed rfl (by kernel_rfl) ?_
        refine JM.take 0 (fun _ h => h) rfl (by kernel_rfl) rfl rfl rfl (m' := 1) rfl (Pur.fieldAddr rfl) ?_
        refine JM.take 1 (fun _ h => h) rfl (by kernel_rfl) rfl rfl rfl (m' := 3) rfl (Pur.loadA rfl rfl rfl (CellsIn.sub1 rfl)) ?_
        refine JM.take 3 (fun _ h => h) rfl (by kernel_rfl) rfl rfl rfl (m' := 11) rfl (Pur.move rfl) ?_
        refine JM.takeF 6 (.inr (fun _ h => h)) rfl (by kernel_rfl) rfl rfl rfl (m' := 75) rfl (Pur.move rfl) ?_
        refine JM.takeF 7 (.inr (fun _ h => h)) rfl (by kernel_rfl) rfl rfl rfl (m' := 203) rfl (Pur.len rfl) ?_
        refine JM.takeF 8 (.inr (fun _ h => h)) rfl (by kernel_rfl) rfl rfl rfl (m' := 459) rfl (Pur.fieldAddr rfl) ?_
        refine JM.many (rs := [2, 9]) (by kernel_rfl) rfl (fun i hi => ?_)
        simp only [List.mem_cons, List.not_mem_nil, or_false] at hi
        rcases hi with rfl | rfl
        · skip
          refine JMi.eff rfl rfl rfl rfl (m' := 463) rfl (Eff.call rfl (cloneD (rs := rs) rfl hs0.1)) ?_
          rintro _ _ ⟨a35, c35, rfl, rfl⟩
          refine ⟨.inr (fun _ h => h.tail), ?_⟩
          refine JM.many (rs := [4, 9]) (by kernel_rfl) rfl (fun i hi => ?_)
          simp only [List.mem_cons, List.not_mem_nil, or_false] at hi
          rcases hi with rfl | rfl
          · skip
            refine JMi.eff rfl rfl rfl rfl (m' := 479) rfl (Eff.call rfl (list_ok (es := cs) rfl (by omega))) ?_
            rintro _ _ ⟨a37, c37, rfl, rfl⟩
            refine ⟨.inr (fun _ h => h.tail.tail), ?_⟩
            refine JM.take 5 (fun _ h => h.tail.tail) rfl (by kernel_rfl) rfl rfl rfl (m' := 511) rfl (Pur.build (cs := [_, _]) rfl rfl) ?_
            refine JM.many (rs := [9, 12]) (by kernel_rfl) rfl (fun i hi => ?_)
            simp only [List.mem_cons, List.not_mem_nil, or_false] at hi
            rcases hi with rfl | rfl
            · skip
              refine JMi.eff rfl rfl rfl rfl (m' := 1023) rfl (Pur.eff (Pur.load rfl (CellIn.blk rfl))) ?_
              rintro _ _ ⟨rfl, rfl⟩
              refine ⟨.inr (fun _ h => h.tail.tail), ?_⟩
              refine JM.takeF 10 (.inr (fun _ h => h.tail.tail)) rfl (by kernel_rfl) rfl rfl rfl (m' := 2047) rfl (Pur.len rfl) ?_
              refine JM.takeF 11 (.inr (fun _ h => h.tail.tail)) rfl (by kernel_rfl) rfl rfl rfl (m' := 4095) rfl (Pur.sub rfl rfl (wr64 (by omega))) ?_
              refine JM.setv (u' := .int .i64 ((cs.length : Int) - (xss.length : Int))) 44 rfl (congrArg (Value.int .i64) (by omega)) ?_
              refine JM.one (i := 12) (by kernel_rfl) ?_
              refine JMi.effN rfl rfl rfl (m' := 8191) rfl (Eff.storeBA (cs' := [_, _]) rfl rfl (by rfl) (by rfl) (by rfl)) ?_
              rintro _ _ ⟨rfl, rfl⟩
              refine ⟨.inl (by simp), ?_⟩
              refine JM.takeF 13 (.inl (by kernel_rfl)) rfl (by kernel_rfl) rfl rfl rfl (m' := 16383) rfl (Pur.assign rfl) ?_
              refine JM.takeF 14 (.inl (by kernel_rfl)) rfl (by kernel_rfl) rfl rfl rfl (m' := 32767) rfl (Pur.assign rfl) ?_
              refine JM.done rfl ?_
              refine J.retC rfl (.cell rfl (ld_agg rfl CellsIn.blk) (.tmp rfl (.tmp rfl .nil))) ?_
              have hv : addS rs xss yss = ((rs, zs), 0) := by unfold addS; rw [if_neg (not_not_intro hs0), if_neg (not_not_intro hall), if_neg hsm, hmd]
              have hn0 : addN rs xss yss = (cs.length : Int) - (xss.length : Int) := by unfold addN; rw [hv, if_neg (fun h => h rfl), hzl]
              refine ⟨_, _, ⟨a35, c35, a37, c37, cs.map (·.2), rfl, rfl⟩, by rw [hv, hn0]; dsimp only; rw [← hzl]; rfl, fun h s => ?_⟩
              rw [hv]
              have s2 : Sat h (rows intE (es.map (·.2)) zss :: sl rgE a35 c35 rs :: sl hE a37 c37 (cs.map (·.2)) :: L) := SubC.out h s
              have s3 := rows_sub (by rw [List.length_map]; exact hzl) hzz s2
              exact SubC.out h s3
            · skip
              refine JMi.effN rfl rfl rfl (m' := 4607) rfl (Eff.storeBA (cs' := [_, _]) rfl rfl (by rfl) (by rfl) (by rfl)) ?_
              rintro _ _ ⟨rfl, rfl⟩
              refine ⟨.inl (by simp), ?_⟩
              refine JM.one (i := 9) (by kernel_rfl) ?_
              refine JMi.eff rfl rfl rfl rfl (m' := 5119) rfl (Pur.eff (Pur.load rfl (CellIn.blk rfl))) ?_
              rintro _ _ ⟨rfl, rfl⟩
              refine ⟨.inl (.inr (by kernel_rfl)), ?_⟩
              refine JM.takeF 10 (.inl (by kernel_rfl)) rfl (by kernel_rfl) rfl rfl rfl (m' := 6143) rfl (Pur.len rfl) ?_
              refine JM.takeF 11 (.inl (by kernel_rfl)) rfl (by kernel_rfl) rfl rfl rfl (m' := 8191) rfl (Pur.sub rfl rfl (wr64 (by omega))) ?_
              refine JM.setv (u' := .int .i64 ((cs.length : Int) - (xss.length : Int))) 44 rfl (congrArg (Value.int .i64) (by omega)) ?_
              refine JM.takeF 13 (.inl (by kernel_rfl)) rfl (by kernel_rfl) rfl rfl rfl (m' := 16383) rfl (Pur.assign rfl) ?_
              refine JM.takeF 14 (.inl (by kernel_rfl)) rfl (by kernel_rfl) rfl rfl rfl (m' := 32767) rfl (Pur.assign rfl) ?_
              refine JM.done rfl ?_
              refine J.retC rfl (.cell rfl (ld_agg rfl CellsIn.blk) (.tmp rfl (.tmp rfl .nil))) ?_
              have hv : addS rs xss yss = ((rs, zs), 0) := by unfold addS; rw [if_neg (not_not_intro hs0), if_neg (not_not_intro hall), if_neg hsm, hmd]
              have hn0 : addN rs xss yss = (cs.length : Int) - (xss.length : Int) := by unfold addN; rw [hv, if_neg (fun h => h rfl), hzl]
              refine ⟨_, _, ⟨a35, c35, a37, c37, cs.map (·.2), rfl, rfl⟩, by rw [hv, hn0]; dsimp only; rw [← hzl]; rfl, fun h s => ?_⟩
              rw [hv]
              have s2 : Sat h (rows intE (es.map (·.2)) zss :: sl rgE a35 c35 rs :: sl hE a37 c37 (cs.map (·.2)) :: L) := SubC.out h s
              have s3 := rows_sub (by rw [List.length_map]; exact hzl) hzz s2
              exact SubC.out h s3
          · skip
            refine JMi.eff rfl rfl rfl rfl (m' := 975) rfl (Pur.eff (Pur.load rfl (CellIn.blk rfl))) ?_
            rintro _ _ ⟨rfl, rfl⟩
            refine ⟨.inr (fun _ h => h.tail), ?_⟩
            refine JM.takeF 10 (.inr (fun _ h => h.tail)) rfl (by kernel_rfl) rfl rfl rfl (m' := 1999) rfl (Pur.len rfl) ?_
            refine JM.takeF 11 (.inr (fun _ h => h.tail)) rfl (by kernel_rfl) rfl rfl rfl (m' := 4047) rfl (Pur.sub rfl rfl (wr64 (by omega))) ?_
            refine JM.setv (u' := .int .i64 ((cs.length : Int) - (xss.length : Int))) 44 rfl (congrArg (Value.int .i64) (by omega)) ?_
            refine JM.one (i := 4) (by kernel_rfl) ?_
            refine JMi.eff rfl rfl rfl rfl (m' := 4063) rfl (Eff.call rfl (list_ok (es := cs) rfl (by omega))) ?_
            rintro _ _ ⟨a37, c37, rfl, rfl⟩
            refine ⟨.inr (fun _ h => h.tail.tail), ?_⟩
            refine JM.take 5 (fun _ h => h.tail.tail) rfl (by kernel_rfl) rfl rfl rfl (m' := 4095) rfl (Pur.build (cs := [_, _]) rfl rfl) ?_
            refine JM.one (i := 12) (by kernel_rfl) ?_
            refine JMi.effN rfl rfl rfl (m' := 8191) rfl (Eff.storeBA (cs' := [_, _]) rfl rfl (by rfl) (by rfl) (by rfl)) ?_
            rintro _ _ ⟨rfl, rfl⟩
            refine ⟨.inl (by simp), ?_⟩
            refine JM.takeF 13 (.inl (by kernel_rfl)) rfl (by kernel_rfl) rfl rfl rfl (m' := 16383) rfl (Pur.assign rfl) ?_
            refine JM.takeF 14 (.inl (by kernel_rfl)) rfl (by kernel_rfl) rfl rfl rfl (m' := 32767) rfl (Pur.assign rfl) ?_
            refine JM.done rfl ?_
            refine J.retC rfl (.cell rfl (ld_agg rfl CellsIn.blk) (.tmp rfl (.tmp rfl .nil))) ?_
            have hv : addS rs xss yss = ((rs, zs), 0) := by unfold addS; rw [if_neg (not_not_intro hs0), if_neg (not_not_intro hall), if_neg hsm, hmd]
            have hn0 : addN rs xss yss = (cs.length : Int) - (xss.length : Int) := by unfold addN; rw [hv, if_neg (fun h => h rfl), hzl]
            refine ⟨_, _, ⟨a35, c35, a37, c37, cs.map (·.2), rfl, rfl⟩, by rw [hv, hn0]; dsimp only; rw [← hzl]; rfl, fun h s => ?_⟩
            rw [hv]
            have s2 : Sat h (rows intE (es.map (·.2)) zss :: sl rgE a35 c35 rs :: sl hE a37 c37 (cs.map (·.2)) :: L) := SubC.out h s
            have s3 := rows_sub (by rw [List.length_map]; exact hzl) hzz s2
            exact SubC.out h s3
        · skip
          refine JMi.eff rfl rfl rfl rfl (m' := 971) rfl (Pur.eff (Pur.load rfl (CellIn.blk rfl))) ?_
          rintro _ _ ⟨rfl, rfl⟩
          refine ⟨.inr (fun _ h => h), ?_⟩
          refine JM.takeF 10 (.inr (fun _ h => h)) rfl (by kernel_rfl) rfl rfl rfl (m' := 1995) rfl (Pur.len rfl) ?_
          refine JM.takeF 11 (.inr (fun _ h => h)) rfl (by kernel_rfl) rfl rfl rfl (m' := 4043) rfl (Pur.sub rfl rfl (wr64 (by omega))) ?_
          refine JM.setv (u' := .int .i64 ((cs.length : Int) - (xss.length : Int))) 44 rfl (congrArg (Value.int .i64) (by omega)) ?_
          refine JM.one (i := 2) (by kernel_rfl) ?_
          refine JMi.eff rfl rfl rfl rfl (m' := 4047) rfl (Eff.call rfl (cloneD (rs := rs) rfl hs0.1)) ?_
          rintro _ _ ⟨a35, c35, rfl, rfl⟩
          refine ⟨.inr (fun _ h => h.tail), ?_⟩
          refine JM.one (i := 4) (by kernel_rfl) ?_
          refine JMi.eff rfl rfl rfl rfl (m' := 4063) rfl (Eff.call rfl (list_ok (es := cs) rfl (by omega))) ?_
          rintro _ _ ⟨a37, c37, rfl, rfl⟩
          refine ⟨.inr (fun _ h => h.tail.tail), ?_⟩
          refine JM.take 5 (fun _ h => h.tail.tail) rfl (by kernel_rfl) rfl rfl rfl (m' := 4095) rfl (Pur.build (cs := [_, _]) rfl rfl) ?_
          refine JM.one (i := 12) (by kernel_rfl) ?_
          refine JMi.effN rfl rfl rfl (m' := 8191) rfl (Eff.storeBA (cs' := [_, _]) rfl rfl (by rfl) (by rfl) (by rfl)) ?_
          rintro _ _ ⟨rfl, rfl⟩
          refine ⟨.inl (by simp), ?_⟩
          refine JM.takeF 13 (.inl (by kernel_rfl)) rfl (by kernel_rfl) rfl rfl rfl (m' := 16383) rfl (Pur.assign rfl) ?_
          refine JM.takeF 14 (.inl (by kernel_rfl)) rfl (by kernel_rfl) rfl rfl rfl (m' := 32767) rfl (Pur.assign rfl) ?_
          refine JM.done rfl ?_
          refine J.retC rfl (.cell rfl (ld_agg rfl CellsIn.blk) (.tmp rfl (.tmp rfl .nil))) ?_
          have hv : addS rs xss yss = ((rs, zs), 0) := by unfold addS; rw [if_neg (not_not_intro hs0), if_neg (not_not_intro hall), if_neg hsm, hmd]
          have hn0 : addN rs xss yss = (cs.length : Int) - (xss.length : Int) := by unfold addN; rw [hv, if_neg (fun h => h rfl), hzl]
          refine ⟨_, _, ⟨a35, c35, a37, c37, cs.map (·.2), rfl, rfl⟩, by rw [hv, hn0]; dsimp only; rw [← hzl]; rfl, fun h s => ?_⟩
          rw [hv]
          have s2 : Sat h (rows intE (es.map (·.2)) zss :: sl rgE a35 c35 rs :: sl hE a37 c37 (cs.map (·.2)) :: L) := SubC.out h s
          have s3 := rows_sub (by rw [List.length_map]; exact hzl) hzz s2
          exact SubC.out h s3

end Go.Proofs.Ytnhippfllgnngaa

/- The text SpPlainD. -/
set_option linter.unusedVariables false
set_option linter.unusedSimpArgs false
namespace Go.Proofs.Ytnhippfllgnngaa
open Go Go.KK Dm
theorem countP_or {α : Type} {p q : α → Bool} : ∀ {l : List α}, (∀ x ∈ l, ¬ (p x = true ∧ q x = true)) → l.countP (fun x => p x || q x) = l.countP p + l.countP q
  | [], _ => rfl
  | x :: l, h => by
    have ih := countP_or (l := l) fun y hy => h y (List.mem_cons_of_mem _ hy)
    have hx := h x (List.mem_cons_self)
    simp only [List.countP_cons, ih]
    by_cases hp : p x = true <;> by_cases hq : q x = true
    · exact absurd ⟨hp, hq⟩ hx
    · simp [hp, hq]; omega
    · simp [hp, hq]; omega
    · simp [hp, hq]
theorem countP_one {t n : Nat} (h : t < n) : (List.range n).countP (fun (i : Nat) => decide ((i : Int) = (t : Int))) = 1 := by
  induction n with
  | zero => omega
  | succ n ih =>
    rw [List.range_succ, List.countP_append, List.countP_singleton]
    by_cases e : t = n
    · subst e
      have : (List.range t).countP (fun (i : Nat) => decide ((i : Int) = (t : Int))) = 0 := List.countP_eq_zero.2 fun i hi => by
        have := List.mem_range.1 hi
        simp; omega
      rw [this]; simp
    · rw [ih (by omega)]
      have : ¬ ((n : Int) = (t : Int)) := by omega
      simp [this]
theorem made_len (rs : List Rg) (ts : List Int) : (madeL rs ts).length = (List.range (cntD rs)).countP fun (i : Nat) => decide ((i : Int) ∈ ts) := by
  unfold madeL; rw [List.length_map, List.countP_eq_length_filter]
theorem made_len1 {rs : List Rg} {xss : List (List Int)} {x : List Int} (hs : okS rs xss) (hx : (plD rs x).isSome = true) (hn : ¬ x ∈ xss) : (madeL rs ((xss ++ [x]).map (atS rs))).length = xss.length + 1 := by
  obtain ⟨t, ht⟩ := Option.isSome_iff_exists.1 hx
  have hat : atS rs x = (t : Int) := by unfold atS; rw [ht]; rfl
  have hlt := plD_lt hs.1.2.2.1 ht
  have h0 : madeL rs (xss.map (atS rs)) = xss := made_of hs.1 (fun y hy => okS_some hs hy) (okS_pw hs)
  have h1 := made_len rs (xss.map (atS rs))
  rw [h0] at h1
  rw [made_len, h1, ← countP_one hlt]
  rw [← countP_or]
  · congr 1
    funext i
    rw [List.map_append, List.map_singleton, hat]
    simp only [List.mem_append, List.mem_singleton, Bool.decide_or]
  · intro i hi ⟨h2, h3⟩
    have h4 := of_decide_eq_true h2
    have h5 := of_decide_eq_true h3
    obtain ⟨y, hy, e⟩ := List.mem_map.1 h4
    have := atS_inj hs.1.2.2.1 (okS_some hs hy) hx (by rw [e, h5, hat])
    rw [this] at hy; exact hn hy
/-- One index added. -/
def a1S (rs : List Rg) (xss : List (List Int)) (x : List Int) : SpRn := if ¬ okS rs xss then (([], []), 50) else if (plV rs x).2 ≠ 0 then (([], []), 2) else if x ∈ xss then (([], []), 7) else
  if 400 < (madeL rs ((xss ++ [x]).map (atS rs))).length then (([], []), 4) else ((rs, madeL rs ((xss ++ [x]).map (atS rs))), 0)
theorem a1S_add {rs : List Rg} {xss : List (List Int)} {x : List Int} (hs : okS rs xss) (h1 : (plV rs x).2 = 0) (h2 : ¬ x ∈ xss) : a1S rs xss x = addS rs xss [x] := by
  unfold a1S addS
  rw [if_neg (not_not_intro hs), if_neg (not_not_intro hs), if_neg (not_not_intro h1), if_neg h2, if_neg (c := ¬ ∀ y ∈ [x], (plV rs y).2 = 0) (not_not_intro fun y hy => by rw [List.mem_singleton.1 hy]; exact h1)]
/-- One index taken away. -/
def remS (rs : List Rg) (xss : List (List Int)) (x : List Int) : SpRn := if ¬ okS rs xss then (([], []), 50) else if ¬ x ∈ xss then (([], []), 5) else ((rs, xss.filter fun y => !decide (x = y)), 0)
theorem rem_parts {rs : List Rg} {xss : List (List Int)} {x : List Int} (hs : okS rs xss) (hx : x ∈ xss) : ∃ k : Nat, findL xss x = (k : Int) ∧ k < xss.length ∧ (xss.map (atS rs)).take k ++ (xss.map (atS rs)).drop (k + 1) = (xss.filter fun y => !decide (x = y)).map (atS rs) := by
  obtain ⟨A, B, e⟩ := List.append_of_mem hx
  have hpw := okS_pw hs
  rw [e] at hpw
  obtain ⟨-, h2, h3⟩ := List.pairwise_append.1 hpw
  obtain ⟨h4, -⟩ := List.pairwise_cons.1 h2
  have hA : ∀ a ∈ A, ¬ x = a := fun a ha g => by have := h3 a ha x List.mem_cons_self; rw [← g] at this; omega
  have hB : ∀ b ∈ B, ¬ x = b := fun b hb g => by have := h4 b hb; rw [← g] at this; omega
  have hf : xss.filter (fun y => !decide (x = y)) = A ++ B := by
    rw [e, List.filter_append, List.filter_cons_of_neg (by simp), List.filter_eq_self.2 (fun a ha => by simpa using hA a ha), List.filter_eq_self.2 (fun b hb => by simpa using hB b hb)]
  refine ⟨A.length, ?_, by rw [e]; simp only [List.length_append, List.length_cons]; omega, ?_⟩
  · have h := find_of (l := xss) (x := x) (k := A.length) (by rw [e]; simp) (fun j hj h5 => by
      rw [e, List.getElem?_append_left hj] at h5
      exact hA x (List.mem_of_getElem? h5) rfl) (by rw [e]; simp)
    unfold findL; rw [h]
  · rw [hf, e, List.map_append, List.map_cons, List.take_left' (by simp), show List.map (atS rs) A ++ atS rs x :: List.map (atS rs) B = (List.map (atS rs) A ++ [atS rs x]) ++ List.map (atS rs) B by simp, List.drop_left' (by simp), List.map_append]
theorem has_pl {rs : List Rg} {x : List Int} (h : okD rs) : ((hasV rs x).2 ≠ 0 ∨ (hasV rs x).1 = false) ↔ (plV rs x).2 ≠ 0 := by
  unfold hasV plV
  rw [if_neg (not_not_intro h), if_neg (not_not_intro h)]
  by_cases hl : x.length = rs.length
  · rw [if_neg (not_not_intro hl), if_neg (not_not_intro hl)]
    cases e : plD rs x <;> simp
  · rw [if_pos hl, if_pos hl]; simp
theorem hb_a1 {rs : List Rg} {xss : List (List Int)} {x : List Int} (hm : ∀ ts : List Int, okD rs → ∀ x ∈ madeL rs ts, x.length ≤ 1000000) : (a1S rs xss x).1.1.length ≤ 1000000 ∧ (a1S rs xss x).1.2.length ≤ 1000000 ∧ ∀ y ∈ (a1S rs xss x).1.2, y.length ≤ 1000000 := by
  unfold a1S
  by_cases h : okS rs xss
  · rw [if_neg (not_not_intro h)]
    split
    · simp
    · split
      · simp
      · split
        · simp
        · have := h.1.2.1
          exact ⟨by dsimp only; omega, by dsimp only; omega, hm _ h.1⟩
  · rw [if_pos h]; simp
theorem remS_b {rs : List Rg} {xss : List (List Int)} {x : List Int} : (remS rs xss x).1.1.length ≤ 1000000 ∧ (remS rs xss x).1.2.length ≤ 1000000 ∧ ∀ y ∈ (remS rs xss x).1.2, y.length ≤ 1000000 := by
  unfold remS
  by_cases h : okS rs xss
  · rw [if_neg (not_not_intro h)]
    split
    · simp
    · have h1 := h.1.2.1
      have h2 := h.2.1
      have h3 : (xss.filter fun y => !decide (x = y)).length ≤ xss.length := List.length_filter_le _ _
      exact ⟨by dsimp only; omega, by dsimp only; omega, fun y hy => by have := okS_len h (List.mem_filter.1 hy).1; omega⟩
  · rw [if_pos h]; simp
end Go.Proofs.Ytnhippfllgnngaa
