/-
  A part of the proof of the claim that this folder bears.
-/
import Derived.Test.YtnhippfllgnngaaPAJ
import Derived.Test.YtnhippfllgnngaaPAK
import Derived.Test.YtnhippfllgnngaaPAF
import Derived.Test.YtnhippfllgnngaaPAG
import Derived.Test.YtnhippfllgnngaaKC
/- The text SJ4. -/
set_option linter.unusedVariables false
set_option linter.unusedSimpArgs false
set_option maxRecDepth 10000
namespace Go.Proofs.Ytnhippfllgnngaa
open Go Go.KK Dm

abbrev SpR := (List Rg × List (List Int)) × Int
def newS (rs : List Rg) : SpR := if ¬ okD rs then (([], []), 50) else ((rs, []), 0)
def denS (rs : List Rg) : SpR := if ¬ okD rs then (([], []), 50) else if 400 < cntD rs then (([], []), 4) else ((rs, idx rs), 0)
def prtS (rs : List Rg) (xss : List (List Int)) (ss : List Rg) : SpR := if ¬ (okS rs xss ∧ okD ss) then (([], []), 50) else if ss.length ≠ rs.length then (([], []), 2) else ((rs, xss.filter fun x => (hasV ss x).1), 0)
end Go.Proofs.Ytnhippfllgnngaa

/- The text SM6. -/
set_option linter.unusedVariables false
set_option linter.unusedSimpArgs false
set_option maxRecDepth 10000
namespace Go.Proofs.Ytnhippfllgnngaa
open Go Go.KK Dm

theorem s_AddAll {L : List Asn} {a la lb : Option Addr} {n cap ln lc lm lq : Nat} {rs : List Rg} {hs gs : List Hdr} {xss yss : List (List Int)} [SlIn rgE L a rs] [SlIn hE L la hs] [RowsR intE L hs xss] [SlIn hE L lb gs] [RowsR intE L gs yss] (hn : n = rs.length) (hl : ln = hs.length) (hm : lm = gs.length) (hnA : la = none → hs.length = 0 ∧ lc = 0) (hnB : lb = none → gs.length = 0 ∧ lq = 0) (hyb : yss.length ≤ 400) :
    CallS Try.prog 46 [.agg #[.slice a n cap, .slice la ln lc], .slice lb lm lq].toArray L (fun w M => ∃ pa pc qa qc hs', w = .tuple #[.agg #[.slice pa (addS rs xss yss).1.1.length pc, .slice qa (addS rs xss yss).1.2.length qc], .int .i64 (addN rs xss yss), .int .i64 (addS rs xss yss).2] ∧ M = sl rgE pa pc (addS rs xss yss).1.1 :: sl hE qa qc hs' :: rows intE hs' (addS rs xss yss).1.2 :: L) := by
  subst hn
  subst hl
  refine CallS.fact (fun h s => RowsR.len (E := intE) (hs := hs) (xss := xss) s) fun hnn => ?_
  have hhl : hs.length = xss.length := rows_len hnn
  subst hm
  refine CallS.fact (fun h s => RowsR.len (E := intE) (hs := gs) (xss := yss) s) fun hnn2 => ?_
  have hgl : gs.length = yss.length := rows_len hnn2
  refine CallS.ent ?_
  refine CallS.enter Try.func46 rfl rfl rfl rfl rfl ?_
  refine J.seq rfl ?_
  refine J.region rfl ?_
  refine JO.eff rfl rfl rfl (Eff.box (cs := [_, _]) rfl rfl) ?_
  rintro _ _ ⟨b2, rfl, rfl⟩
  refine JO.eff rfl rfl rfl (Eff.alloc (cs := [_, _]) rfl) ?_
  rintro _ _ ⟨b4, rfl, rfl⟩
  refine JO.pur rfl rfl rfl (Pur.assign rfl) ?_
  refine JO.pur rfl rfl rfl (Pur.assign rfl) ?_
  refine JO.nil ?_
  refine J.seq rfl ?_
  refine J.seq rfl ?_
  refine J.region rfl ?_
  refine JO.pur rfl rfl rfl (Pur.loadA rfl rfl rfl CellsIn.blk) ?_
  refine JO.effR rfl rfl rfl (Eff.call rfl (s_Valid (rs := rs) (hs := hs) (xss := xss) rfl rfl)) ?_
  refine JO.pur rfl rfl rfl (Pur.not rfl) ?_
  refine JO.nil ?_
  refine J.splitB 11 rfl (fun h11 => ?_) (fun h11 => ?_)
  · try simp only [decide_eq_true_eq, decide_eq_false_iff_not, Bool.not_eq_true', Bool.not_eq_false', Bool.and_eq_true, Bool.or_eq_true, Bool.and_eq_false_iff, Bool.or_eq_false_iff, Option.isNone_some, Option.isSome_some, Option.isNone_none, Option.isSome_none, Int.not_lt, Int.not_le, beq_iff_eq, beq_eq_false_iff_ne, bne_iff_ne, ne_eq, Bool.not_not, Decidable.not_not] at h11
    have hns : ¬ okS rs xss := h11
    refine J.condT rfl rfl ?_
    refine J.seq rfl ?_
    refine J.region rfl ?_
    refine JO.pur rfl rfl rfl (Pur.build (cs := [_, _]) rfl rfl) ?_
    refine JO.effN rfl rfl (Eff.storeBA (cs' := [_, _]) rfl rfl (by rfl) (by rfl) (by rfl)) ?_
    rintro _ _ ⟨rfl, rfl⟩
    refine JO.pur rfl rfl rfl (Pur.assign rfl) ?_
    refine JO.pur rfl rfl rfl (Pur.assign rfl) ?_
    refine JO.nil ?_
    refine J.retC rfl (.cell rfl (ld_agg rfl CellsIn.blk) (.tmp rfl (.tmp rfl .nil))) ?_
    have hv : addS rs xss yss = (([], []), 50) := by unfold addS; rw [if_pos hns]
    have hn0 : addN rs xss yss = 0 := by unfold addN; rw [hv, if_pos (by decide)]
    refine ⟨_, _, ⟨none, 0, none, 0, [], rfl, rfl⟩, by rw [hv, hn0]; rfl, fun h s => ?_⟩
    rw [hv]; exact sl_nil_new (sl_nil_new (rows_nil (SubC.out h s)))
  · try simp only [decide_eq_true_eq, decide_eq_false_iff_not, Bool.not_eq_true', Bool.not_eq_false', Bool.and_eq_true, Bool.or_eq_true, Bool.and_eq_false_iff, Bool.or_eq_false_iff, Option.isNone_some, Option.isSome_some, Option.isNone_none, Option.isSome_none, Int.not_lt, Int.not_le, beq_iff_eq, beq_eq_false_iff_ne, bne_iff_ne, ne_eq, Bool.not_not, Decidable.not_not] at h11
    have hs0 : okS rs xss := h11
    have hxl4 := hs0.2.1
    refine J.condF rfl rfl ?_
    refine J.skip rfl ?_
    refine J.seq rfl ?_
    refine J.mask0 (n := 13) [] rfl Try.mixed rfl (by kernel_rfl) ?_
    refine JM.take 0 (fun _ h => h) rfl (by kernel_rfl) rfl rfl rfl (m' := 1) rfl (Pur.fieldAddr rfl) ?_
    refine JM.take 1 (fun _ h => h) rfl (by kernel_rfl) rfl rfl rfl (m' := 3) rfl (Pur.loadA rfl rfl rfl (CellsIn.sub1 rfl)) ?_
    refine JM.take 2 (fun _ h => h) rfl (by kernel_rfl) rfl rfl rfl (m' := 7) rfl (Pur.fieldAddr rfl) ?_
    refine JM.take 3 (fun _ h => h) rfl (by kernel_rfl) rfl rfl rfl (m' := 15) rfl (Pur.load rfl (CellIn.blk rfl)) ?_
    refine JM.take 4 (fun _ h => h) rfl (by kernel_rfl) rfl rfl rfl (m' := 31) rfl (Pur.move rfl) ?_
    refine JM.one (i := 5) (by kernel_rfl) ?_
    refine JMi.eff rfl rfl rfl rfl (m' := 63) rfl (Eff.buildSlice lE [⟨la, hs.length, lc⟩, ⟨lb, gs.length, lq⟩] rfl rfl rfl rfl rfl rfl rfl) ?_
    rintro _ _ ⟨b19, rfl, -, rfl⟩
    refine ⟨.inr (fun _ h => h.tail), ?_⟩
    refine JM.one (i := 6) (by kernel_rfl) ?_
    refine JMi.eff rfl rfl rfl rfl (m' := 127) rfl (Eff.call rfl (concat_ok (hs := hs) (gs := gs) rfl hnA hnB (by omega) (by omega))) ?_
    rintro _ _ ⟨a20, c20, rfl, rfl⟩
    refine ⟨.inr (fun _ h => h.tail.tail), ?_⟩
    refine JM.one (i := 7) (by kernel_rfl) ?_
    refine JMi.eff rfl rfl rfl rfl (m' := 255) rfl (Eff.call rfl (s_places (rs := rs) (hs := hs ++ gs) (xss := xss ++ yss) rfl rfl (by simp only [List.length_append]; omega))) ?_
    rintro _ _ ⟨es, zss, a21, c21, rfl, rfl, hpl⟩
    refine ⟨.inr (fun _ h => h.tail.tail.tail.tail), ?_⟩
    refine JM.take 8 (fun _ h => h.tail.tail.tail.tail) rfl (by kernel_rfl) rfl rfl rfl (m' := 511) rfl (Pur.move rfl) ?_
    refine JM.take 9 (fun _ h => h.tail.tail.tail.tail) rfl (by kernel_rfl) rfl rfl rfl (m' := 1023) rfl (Pur.extract rfl rfl) ?_
    refine JM.take 10 (fun _ h => h.tail.tail.tail.tail) rfl (by kernel_rfl) rfl rfl rfl (m' := 2047) rfl (Pur.extract rfl rfl) ?_
    refine JM.setv (u' := .bool (decide (∀ y ∈ yss, (plV rs y).2 = 0))) 23 rfl (congrArg Value.bool (plc_app hs0)) ?_
    refine JM.take 11 (fun _ h => h.tail.tail.tail.tail) rfl (by kernel_rfl) rfl rfl rfl (m' := 4095) rfl (Pur.assign rfl) ?_
    refine JM.take 12 (fun _ h => h.tail.tail.tail.tail) rfl (by kernel_rfl) rfl rfl rfl (m' := 8191) rfl (Pur.assign rfl) ?_
    refine JM.done rfl ?_
    refine J.seq rfl ?_
    refine J.seq rfl ?_
    refine J.region rfl ?_
    refine JO.pur rfl rfl rfl (Pur.move rfl) ?_
    refine JO.pur rfl rfl rfl (Pur.not rfl) ?_
    refine JO.nil ?_
    refine J.splitB 25 rfl (fun h25 => ?_) (fun h25 => ?_)
    · try simp only [decide_eq_true_eq, decide_eq_false_iff_not, Bool.not_eq_true', Bool.not_eq_false', Bool.and_eq_true, Bool.or_eq_true, Bool.and_eq_false_iff, Bool.or_eq_false_iff, Option.isNone_some, Option.isSome_some, Option.isNone_none, Option.isSome_none, Int.not_lt, Int.not_le, beq_iff_eq, beq_eq_false_iff_ne, bne_iff_ne, ne_eq, Bool.not_not, Decidable.not_not] at h25
      have hbad : ¬ ∀ y ∈ yss, (plV rs y).2 = 0 := h25
      refine J.condT rfl rfl ?_
      refine J.seq rfl ?_
      refine J.region rfl ?_
      refine JO.pur rfl rfl rfl (Pur.build (cs := [_, _]) rfl rfl) ?_
      refine JO.effN rfl rfl (Eff.storeBA (cs' := [_, _]) rfl rfl (by rfl) (by rfl) (by rfl)) ?_
      rintro _ _ ⟨rfl, rfl⟩
      refine JO.pur rfl rfl rfl (Pur.assign rfl) ?_
      refine JO.pur rfl rfl rfl (Pur.assign rfl) ?_
      refine JO.nil ?_
      refine J.retC rfl (.cell rfl (ld_agg rfl CellsIn.blk) (.tmp rfl (.tmp rfl .nil))) ?_
      have hv : addS rs xss yss = (([], []), 2) := by unfold addS; rw [if_neg (not_not_intro hs0), if_pos hbad]
      have hn0 : addN rs xss yss = 0 := by unfold addN; rw [hv, if_pos (by decide)]
      refine ⟨_, _, ⟨none, 0, none, 0, [], rfl, rfl⟩, by rw [hv, hn0]; rfl, fun h s => ?_⟩
      rw [hv]; exact sl_nil_new (sl_nil_new (rows_nil (SubC.out h s)))
    · try simp only [decide_eq_true_eq, decide_eq_false_iff_not, Bool.not_eq_true', Bool.not_eq_false', Bool.and_eq_true, Bool.or_eq_true, Bool.and_eq_false_iff, Bool.or_eq_false_iff, Option.isNone_some, Option.isSome_some, Option.isNone_none, Option.isSome_none, Int.not_lt, Int.not_le, beq_iff_eq, beq_eq_false_iff_ne, bne_iff_ne, ne_eq, Bool.not_not, Decidable.not_not] at h25
      have hall : ∀ y ∈ yss, (plV rs y).2 = 0 := h25
      have hallp : ∀ x ∈ xss ++ yss, (plD rs x).isSome = true := fun x hx => by
        rcases List.mem_append.1 hx with hx | hx
        · exact okS_some hs0 hx
        · exact (plV_ok hs0.1 x).1.1 (hall x hx)
      obtain ⟨he1, hp1, hsr⟩ := hpl ((plc_app hs0).trans (decide_eq_true hall))
      have hel : es.length = xss.length + yss.length := by have h1 := congrArg List.length he1; rw [List.length_map, List.length_map, hp1.length_eq, List.length_append] at h1; exact h1
      refine J.condF rfl rfl ?_
      refine J.skip rfl ?_
      refine J.seq rfl ?_
      refine J.region rfl ?_
      refine JO.pur rfl rfl rfl (Pur.move rfl) ?_
      refine JO.eff rfl rfl rfl (Eff.call rfl (compact_ok (es := es) rfl (by omega))) ?_
      rintro _ _ ⟨rfl, rfl⟩
      obtain ⟨cs, hcs⟩ : ∃ cs, cs = cptN enK es es.length := ⟨_, rfl⟩
      rw [← hcs]
      obtain ⟨zs, hz, hz1, hzl, hzz⟩ := plc_cpt (ys := cs) he1 (by rw [hcs]; have := cptN_sub (ky := enK) (es := es) es.length (Nat.le_refl _); rwa [List.take_length] at this)
      have hmd : madeL rs ((xss ++ yss).map (atS rs)) = zs := add_made hs0.1 hallp hp1 he1 hsr hcs hz hz1
      refine JO.pur rfl rfl rfl (Pur.assign rfl) ?_
      refine JO.nil ?_
      refine J.seq rfl ?_
      refine J.seq rfl ?_
      refine J.region rfl ?_
      refine JO.pur rfl rfl rfl (Pur.move rfl) ?_
      refine JO.pur rfl rfl rfl (Pur.len rfl) ?_
      refine JO.pur rfl rfl rfl (Pur.gtr rfl rfl) ?_
      refine JO.nil ?_
      refine J.splitB 31 rfl (fun h31 => ?_) (fun h31 => ?_)
      · try simp only [decide_eq_true_eq, decide_eq_false_iff_not, Bool.not_eq_true', Bool.not_eq_false', Bool.and_eq_true, Bool.or_eq_true, Bool.and_eq_false_iff, Bool.or_eq_false_iff, Option.isNone_some, Option.isSome_some, Option.isNone_none, Option.isSome_none, Int.not_lt, Int.not_le, beq_iff_eq, beq_eq_false_iff_ne, bne_iff_ne, ne_eq, Bool.not_not, Decidable.not_not] at h31
        have hbig : 400 < (madeL rs ((xss ++ yss).map (atS rs))).length := by rw [hmd, ← hzl]; omega
        refine J.condT rfl rfl ?_
        refine J.seq rfl ?_
        refine J.region rfl ?_
        refine JO.pur rfl rfl rfl (Pur.build (cs := [_, _]) rfl rfl) ?_
        refine JO.effN rfl rfl (Eff.storeBA (cs' := [_, _]) rfl rfl (by rfl) (by rfl) (by rfl)) ?_
        rintro _ _ ⟨rfl, rfl⟩
        refine JO.pur rfl rfl rfl (Pur.assign rfl) ?_
        refine JO.pur rfl rfl rfl (Pur.assign rfl) ?_
        refine JO.nil ?_
        refine J.retC rfl (.cell rfl (ld_agg rfl CellsIn.blk) (.tmp rfl (.tmp rfl .nil))) ?_
        have hv : addS rs xss yss = (([], []), 4) := by unfold addS; rw [if_neg (not_not_intro hs0), if_neg (not_not_intro hall), if_pos hbig]
        have hn0 : addN rs xss yss = 0 := by unfold addN; rw [hv, if_pos (by decide)]
        refine ⟨_, _, ⟨none, 0, none, 0, [], rfl, rfl⟩, by rw [hv, hn0]; rfl, fun h s => ?_⟩
        rw [hv]; exact sl_nil_new (sl_nil_new (rows_nil (SubC.out h s)))
      · try simp only [decide_eq_true_eq, decide_eq_false_iff_not, Bool.not_eq_true', Bool.not_eq_false', Bool.and_eq_true, Bool.or_eq_true, Bool.and_eq_false_iff, Bool.or_eq_false_iff, Option.isNone_some, Option.isSome_some, Option.isNone_none, Option.isSome_none, Int.not_lt, Int.not_le, beq_iff_eq, beq_eq_false_iff_ne, bne_iff_ne, ne_eq, Bool.not_not, Decidable.not_not] at h31
        have hsm : ¬ 400 < (madeL rs ((xss ++ yss).map (atS rs))).length := by rw [hmd, ← hzl]; omega
        refine J.condF rfl rfl ?_
        refine J.skip rfl ?_
        refine J.seq rfl ?_
        refine J.mask0 (n := 15) [12] rfl Try.mixed rfl (by kernel_rfl) ?_
        refine JM.take 0 (fun _ h => h) rfl (by kernel_rfl) rfl rfl rfl (m' := 1) rfl (Pur.fieldAddr rfl) ?_
        refine JM.take 1 (fun _ h => h) rfl (by kernel_rfl) rfl rfl rfl (m' := 3) rfl (Pur.loadA rfl rfl rfl (CellsIn.sub1 rfl)) ?_
        refine JM.take 3 (fun _ h => h) rfl (by kernel_rfl) rfl rfl rfl (m' := 11) rfl (Pur.move rfl) ?_
        refine JM.takeF 6 (.inr (fun _ h => h)) rfl (by kernel_rfl) rfl rfl rfl (m' := 75) rfl (Pur.move rfl) ?_
        refine JM.takeF 7 (.inr (fun _ h => h)) rfl (by kernel_rfl) rfl rfl rfl (m' := 203) rfl (Pur.len rfl) ?_
        refine JM.takeF 8 (.inr (fun _ h => h)) rfl (by kernel_rfl) rfl rfl rfl (m' := 459) rfl (Pur.fieldAddr rfl) ?_
        refine JM.many (rs := [2, 9]) (by kernel_rfl) rfl (fun i hi => ?_)
        simp only [List.mem_cons, List.not_mem_nil, or_false] at hi
        rcases hi with rfl | rfl
        · skip
          refine JMi.eff rfl rfl rfl rfl (m' := 463) rfl (Eff.call rfl (cloneD (rs := rs) rfl hs0.1)) ?_
          rintro _ _ ⟨a35, c35, rfl, rfl⟩
          refine ⟨.inr (fun _ h => h.tail), ?_⟩
          refine JM.many (rs := [4, 9]) (by kernel_rfl) rfl (fun i hi => ?_)
          simp only [List.mem_cons, List.not_mem_nil, or_false] at hi
          rcases hi with rfl | rfl
          · skip
            refine JMi.eff rfl rfl rfl rfl (m' := 479) rfl (Eff.call rfl (list_ok (es := cs) rfl (by omega))) ?_
            rintro _ _ ⟨a37, c37, rfl, rfl⟩
            refine ⟨.inr (fun _ h => h.tail.tail), ?_⟩
            refine JM.take 5 (fun _ h => h.tail.tail) rfl (by kernel_rfl) rfl rfl rfl (m' := 511) rfl (Pur.build (cs := [_, _]) rfl rfl) ?_
            refine JM.many (rs := [9, 12]) (by kernel_rfl) rfl (fun i hi => ?_)
            simp only [List.mem_cons, List.not_mem_nil, or_false] at hi
            rcases hi with rfl | rfl
            · skip
              refine JMi.eff rfl rfl rfl rfl (m' := 1023) rfl (Pur.eff (Pur.load rfl (CellIn.blk rfl))) ?_
              rintro _ _ ⟨rfl, rfl⟩
              refine ⟨.inr (fun _ h => h.tail.tail), ?_⟩
              refine JM.takeF 10 (.inr (fun _ h => h.tail.tail)) rfl (by kernel_rfl) rfl rfl rfl (m' := 2047) rfl (Pur.len rfl) ?_
              refine JM.takeF 11 (.inr (fun _ h => h.tail.tail)) rfl (by kernel_rfl) rfl rfl rfl (m' := 4095) rfl (Pur.sub rfl rfl (wr64 (by omega))) ?_
              refine JM.setv (u' := .int .i64 ((cs.length : Int) - (xss.length : Int))) 44 rfl (congrArg (Value.int .i64) (by omega)) ?_
              refine JM.one (i := 12) (by kernel_rfl) ?_
              refine JMi.effN rfl rfl rfl (m' := 8191) rfl (Eff.storeBA (cs' := [_, _]) rfl rfl (by rfl) (by rfl) (by rfl)) ?_
              rintro _ _ ⟨rfl, rfl⟩
              refine ⟨.inl (by simp), ?_⟩
              refine JM.takeF 13 (.inl (by kernel_rfl)) rfl (by kernel_rfl) rfl rfl rfl (m' := 16383) rfl (Pur.assign rfl) ?_
              refine JM.takeF 14 (.inl (by kernel_rfl)) rfl (by kernel_rfl) rfl rfl rfl (m' := 32767) rfl (Pur.assign rfl) ?_
              refine JM.done rfl ?_
              refine J.retC rfl (.cell rfl (ld_agg rfl CellsIn.blk) (.tmp rfl (.tmp rfl .nil))) ?_
              have hv : addS rs xss yss = ((rs, zs), 0) := by unfold addS; rw [if_neg (not_not_intro hs0), if_neg (not_not_intro hall), if_neg hsm, hmd]
              have hn0 : addN rs xss yss = (cs.length : Int) - (xss.length : Int) := by unfold addN; rw [hv, if_neg (fun h => h rfl), hzl]
              refine ⟨_, _, ⟨a35, c35, a37, c37, cs.map (·.2), rfl, rfl⟩, by rw [hv, hn0]; dsimp only; rw [← hzl]; rfl, fun h s => ?_⟩
              rw [hv]
              have s2 : Sat h (rows intE (es.map (·.2)) zss :: sl rgE a35 c35 rs :: sl hE a37 c37 (cs.map (·.2)) :: L) := SubC.out h s
              have s3 := rows_sub (by rw [List.length_map]; exact hzl) hzz s2
              exact SubC.out h s3
            · skip
              refine JMi.effN rfl rfl rfl (m' := 4607) rfl (Eff.storeBA (cs' := [_, _]) rfl rfl (by rfl) (by rfl) (by rfl)) ?_
              rintro _ _ ⟨rfl, rfl⟩
              refine ⟨.inl (by simp), ?_⟩
              refine JM.one (i := 9) (by kernel_rfl) ?_
              refine JMi.eff rfl rfl rfl rfl (m' := 5119) rfl (Pur.eff (Pur.load rfl (CellIn.blk rfl))) ?_
              rintro _ _ ⟨rfl, rfl⟩
              refine ⟨.inl (.inr (by kernel_rfl)), ?_⟩
              refine JM.takeF 10 (.inl (by kernel_rfl)) rfl (by kernel_rfl) rfl rfl rfl (m' := 6143) rfl (Pur.len rfl) ?_
              refine JM.takeF 11 (.inl (by kernel_rfl)) rfl (by kernel_rfl) rfl rfl rfl (m' := 8191) rfl (Pur.sub rfl rfl (wr64 (by omega))) ?_
              refine JM.setv (u' := .int .i64 ((cs.length : Int) - (xss.length : Int))) 44 rfl (congrArg (Value.int .i64) (by omega)) ?_
              refine JM.takeF 13 (.inl (by kernel_rfl)) rfl (by kernel_rfl) rfl rfl rfl (m' := 16383) rfl (Pur.assign rfl) ?_
              refine JM.takeF 14 (.inl (by kernel_rfl)) rfl (by kernel_rfl) rfl rfl rfl (m' := 32767) rfl (Pur.assign rfl) ?_
              refine JM.done rfl ?_
              refine J.retC rfl (.cell rfl (ld_agg rfl CellsIn.blk) (.tmp rfl (.tmp rfl .nil))) ?_
              have hv : addS rs xss yss = ((rs, zs), 0) := by unfold addS; rw [if_neg (not_not_intro hs0), if_neg (not_not_intro hall), if_neg hsm, hmd]
              have hn0 : addN rs xss yss = (cs.length : Int) - (xss.length : Int) := by unfold addN; rw [hv, if_neg (fun h => h rfl), hzl]
              refine ⟨_, _, ⟨a35, c35, a37, c37, cs.map (·.2), rfl, rfl⟩, by rw [hv, hn0]; dsimp only; rw [← hzl]; rfl, fun h s => ?_⟩
              rw [hv]
              have s2 : Sat h (rows intE (es.map (·.2)) zss :: sl rgE a35 c35 rs :: sl hE a37 c37 (cs.map (·.2)) :: L) := SubC.out h s
              have s3 := rows_sub (by rw [List.length_map]; exact hzl) hzz s2
              exact SubC.out h s3
          · skip
            refine JMi.eff rfl rfl rfl rfl (m' := 975) rfl (Pur.eff (Pur.load rfl (CellIn.blk rfl))) ?_
            rintro _ _ ⟨rfl, rfl⟩
            refine ⟨.inr (fun _ h => h.tail), ?_⟩
            refine JM.takeF 10 (.inr (fun _ h => h.tail)) rfl (by kernel_rfl) rfl rfl rfl (m' := 1999) rfl (Pur.len rfl) ?_
            refine JM.takeF 11 (.inr (fun _ h => h.tail)) rfl (by kernel_rfl) rfl rfl rfl (m' := 4047) rfl (Pur.sub rfl rfl (wr64 (by omega))) ?_
            refine JM.setv (u' := .int .i64 ((cs.length : Int) - (xss.length : Int))) 44 rfl (congrArg (Value.int .i64) (by omega)) ?_
            refine JM.one (i := 4) (by kernel_rfl) ?_
            refine JMi.eff rfl rfl rfl rfl (m' := 4063) rfl (Eff.call rfl (list_ok (es := cs) rfl (by omega))) ?_
            rintro _ _ ⟨a37, c37, rfl, rfl⟩
            refine ⟨.inr (fun _ h => h.tail.tail), ?_⟩
            refine JM.take 5 (fun _ h => h.tail.tail) rfl (by kernel_rfl) rfl rfl rfl (m' := 4095) rfl (Pur.build (cs := [_, _]) rfl rfl) ?_
            refine JM.one (i := 12) (by kernel_rfl) ?_
            refine JMi.effN rfl rfl rfl (m' := 8191) rfl (Eff.storeBA (cs' := [_, _]) rfl rfl (by rfl) (by rfl) (by rfl)) ?_
            rintro _ _ ⟨rfl, rfl⟩
            refine ⟨.inl (by simp), ?_⟩
            refine JM.takeF 13 (.inl (by kernel_rfl)) rfl (by kernel_rfl) rfl rfl rfl (m' := 16383) rfl (Pur.assign rfl) ?_
            refine JM.takeF 14 (.inl (by kernel_rfl)) rfl (by kernel_rfl) rfl rfl rfl (m' := 32767) rfl (Pur.assign rfl) ?_
            refine JM.done rfl ?_
            refine J.retC rfl (.cell rfl (ld_agg rfl CellsIn.blk) (.tmp rfl (.tmp rfl .nil))) ?_
            have hv : addS rs xss yss = ((rs, zs), 0) := by unfold addS; rw [if_neg (not_not_intro hs0), if_neg (not_not_intro hall), if_neg hsm, hmd]
            have hn0 : addN rs xss yss = (cs.length : Int) - (xss.length : Int) := by unfold addN; rw [hv, if_neg (fun h => h rfl), hzl]
            refine ⟨_, _, ⟨a35, c35, a37, c37, cs.map (·.2), rfl, rfl⟩, by rw [hv, hn0]; dsimp only; rw [← hzl]; rfl, fun h s => ?_⟩
            rw [hv]
            have s2 : Sat h (rows intE (es.map (·.2)) zss :: sl rgE a35 c35 rs :: sl hE a37 c37 (cs.map (·.2)) :: L) := SubC.out h s
            have s3 := rows_sub (by rw [List.length_map]; exact hzl) hzz s2
            exact SubC.out h s3
        · skip
          refine JMi.eff rfl rfl rfl rfl (m' := 971) rfl (Pur.eff (Pur.load rfl (CellIn.blk rfl))) ?_
          rintro _ _ ⟨rfl, rfl⟩
          refine ⟨.inr (fun _ h => h), ?_⟩
          refine JM.takeF 10 (.inr (fun _ h => h)) rfl (by kernel_rfl) rfl rfl rfl (m' := 1995) rfl (Pur.len rfl) ?_
          refine JM.takeF 11 (.inr (fun _ h => h)) rfl (by kernel_rfl) rfl rfl rfl (m' := 4043) rfl (Pur.sub rfl rfl (wr64 (by omega))) ?_
          refine JM.setv (u' := .int .i64 ((cs.length : Int) - (xss.length : Int))) 44 rfl (congrArg (Value.int .i64) (by omega)) ?_
          refine JM.one (i := 2) (by kernel_rfl) ?_
          refine JMi.eff rfl rfl rfl rfl (m' := 4047) rfl (Eff.call rfl (cloneD (rs := rs) rfl hs0.1)) ?_
          rintro _ _ ⟨a35, c35, rfl, rfl⟩
          refine ⟨.inr (fun _ h => h.tail), ?_⟩
          refine JM.one (i := 4) (by kernel_rfl) ?_
          refine JMi.eff rfl rfl rfl rfl (m' := 4063) rfl (Eff.call rfl (list_ok (es := cs) rfl (by omega))) ?_
          rintro _ _ ⟨a37, c37, rfl, rfl⟩
          refine ⟨.inr (fun _ h => h.tail.tail), ?_⟩
          refine JM.take 5 (fun _ h => h.tail.tail) rfl (by kernel_rfl) rfl rfl rfl (m' := 4095) rfl (Pur.build (cs := [_, _]) rfl rfl) ?_
          refine JM.one (i := 12) (by kernel_rfl) ?_
          refine JMi.effN rfl rfl rfl (m' := 8191) rfl (Eff.storeBA (cs' := [_, _]) rfl rfl (by rfl) (by rfl) (by rfl)) ?_
          rintro _ _ ⟨rfl, rfl⟩
          refine ⟨.inl (by simp), ?_⟩
          refine JM.takeF 13 (.inl (by kernel_rfl)) rfl (by kernel_rfl) rfl rfl rfl (m' := 16383) rfl (Pur.assign rfl) ?_
          refine JM.takeF 14 (.inl (by kernel_rfl)) rfl (by kernel_rfl) rfl rfl rfl (m' := 32767) rfl (Pur.assign rfl) ?_
          refine JM.done rfl ?_
          refine J.retC rfl (.cell rfl (ld_agg rfl CellsIn.blk) (.tmp rfl (.tmp rfl .nil))) ?_
          have hv : addS rs xss yss = ((rs, zs), 0) := by unfold addS; rw [if_neg (not_not_intro hs0), if_neg (not_not_intro hall), if_neg hsm, hmd]
          have hn0 : addN rs xss yss = (cs.length : Int) - (xss.length : Int) := by unfold addN; rw [hv, if_neg (fun h => h rfl), hzl]
          refine ⟨_, _, ⟨a35, c35, a37, c37, cs.map (·.2), rfl, rfl⟩, by rw [hv, hn0]; dsimp only; rw [← hzl]; rfl, fun h s => ?_⟩
          rw [hv]
          have s2 : Sat h (rows intE (es.map (·.2)) zss :: sl rgE a35 c35 rs :: sl hE a37 c37 (cs.map (·.2)) :: L) := SubC.out h s
          have s3 := rows_sub (by rw [List.length_map]; exact hzl) hzz s2
          exact SubC.out h s3

end Go.Proofs.Ytnhippfllgnngaa

/- The text SpPlainD. -/
set_option linter.unusedVariables false
set_option linter.unusedSimpArgs false
namespace Go.Proofs.Ytnhippfllgnngaa
open Go Go.KK Dm
theorem made_len (rs : List Rg) (ts : List Int) : (madeL rs ts).length = (List.range (cntD rs)).countP fun (i : Nat) => decide ((i : Int) ∈ ts) := by
  unfold madeL; rw [List.length_map, List.countP_eq_length_filter]
/-- One index added. -/
def a1S (rs : List Rg) (xss : List (List Int)) (x : List Int) : SpRn := if ¬ okS rs xss then (([], []), 50) else if (plV rs x).2 ≠ 0 then (([], []), 2) else if x ∈ xss then (([], []), 7) else
  if 400 < (madeL rs ((xss ++ [x]).map (atS rs))).length then (([], []), 4) else ((rs, madeL rs ((xss ++ [x]).map (atS rs))), 0)
theorem a1S_add {rs : List Rg} {xss : List (List Int)} {x : List Int} (hs : okS rs xss) (h1 : (plV rs x).2 = 0) (h2 : ¬ x ∈ xss) : a1S rs xss x = addS rs xss [x] := by
  unfold a1S addS
  rw [if_neg (not_not_intro hs), if_neg (not_not_intro hs), if_neg (not_not_intro h1), if_neg h2, if_neg (c := ¬ ∀ y ∈ [x], (plV rs y).2 = 0) (not_not_intro fun y hy => by rw [List.mem_singleton.1 hy]; exact h1)]
/-- One index taken away. -/
def remS (rs : List Rg) (xss : List (List Int)) (x : List Int) : SpRn := if ¬ okS rs xss then (([], []), 50) else if ¬ x ∈ xss then (([], []), 5) else ((rs, xss.filter fun y => !decide (x = y)), 0)
theorem has_pl {rs : List Rg} {x : List Int} (h : okD rs) : ((hasV rs x).2 ≠ 0 ∨ (hasV rs x).1 = false) ↔ (plV rs x).2 ≠ 0 := by
  unfold hasV plV
  rw [if_neg (not_not_intro h), if_neg (not_not_intro h)]
  by_cases hl : x.length = rs.length
  · rw [if_neg (not_not_intro hl), if_neg (not_not_intro hl)]
    cases e : plD rs x <;> simp
  · rw [if_pos hl, if_pos hl]; simp
end Go.Proofs.Ytnhippfllgnngaa

/- The text SM7. -/
set_option linter.unusedVariables false
set_option linter.unusedSimpArgs false
set_option maxRecDepth 10000
namespace Go.Proofs.Ytnhippfllgnngaa
open Go Go.KK Dm

theorem rows_one {α : Type} {E : Enc α} {L : List Asn} {xa : Option Addr} {xc : Nat} {x : List α} [hx : SlIn E L xa x] (h1 : xa = none → x.length = 0 ∧ xc = 0) (h2 : x.length ≤ xc) : RowsR E L [⟨xa, x.length, xc⟩] [x] := ⟨fun h s => ⟨rfl, fun i hd xs e1 e2 => by
  cases i with
  | succ i => simp at e1
  | zero =>
    simp only [List.getElem?_cons_zero, Option.some.injEq] at e1 e2
    subst e1; subst e2
    exact ⟨hx.out h s, h1, h2⟩⟩⟩
theorem s_Add {L : List Asn} {a la xa : Option Addr} {n cap ln lc xn xc : Nat} {rs : List Rg} {hs : List Hdr} {xss : List (List Int)} {x : List Int} [SlIn rgE L a rs] [SlIn hE L la hs] [RowsR intE L hs xss] [SlIn intE L xa x] (hn : n = rs.length) (hl : ln = hs.length) (hxn : xn = x.length) (hnA : la = none → hs.length = 0 ∧ lc = 0) (hnX : xa = none → x.length = 0 ∧ xc = 0) (hcX : x.length ≤ xc) :
    CallS Try.prog 48 [.agg #[.slice a n cap, .slice la ln lc], .slice xa xn xc].toArray L (fun w M => ∃ pa pc qa qc hs', w = .tuple #[.agg #[.slice pa (a1S rs xss x).1.1.length pc, .slice qa (a1S rs xss x).1.2.length qc], .int .i64 (a1S rs xss x).2] ∧ M = sl rgE pa pc (a1S rs xss x).1.1 :: sl hE qa qc hs' :: rows intE hs' (a1S rs xss x).1.2 :: L) := by
  subst hn
  subst hl
  subst hxn
  refine CallS.fact (fun h s => RowsR.len (E := intE) (hs := hs) (xss := xss) s) fun hnn => ?_
  have hhl : hs.length = xss.length := rows_len hnn
  refine CallS.ent ?_
  refine CallS.enter Try.func48 rfl rfl rfl rfl rfl ?_
  refine J.seq rfl ?_
  refine J.region rfl ?_
  refine JO.eff rfl rfl rfl (Eff.box (cs := [_, _]) rfl rfl) ?_
  rintro _ _ ⟨b2, rfl, rfl⟩
  refine JO.eff rfl rfl rfl (Eff.alloc (cs := [_, _]) rfl) ?_
  rintro _ _ ⟨b4, rfl, rfl⟩
  refine JO.pur rfl rfl rfl (Pur.assign rfl) ?_
  refine JO.nil ?_
  refine J.seq rfl ?_
  refine J.seq rfl ?_
  refine J.region rfl ?_
  refine JO.pur rfl rfl rfl (Pur.loadA rfl rfl rfl CellsIn.blk) ?_
  refine JO.effR rfl rfl rfl (Eff.call rfl (s_Valid (rs := rs) (hs := hs) (xss := xss) rfl rfl)) ?_
  refine JO.pur rfl rfl rfl (Pur.not rfl) ?_
  refine JO.nil ?_
  refine J.splitB 15 rfl (fun h15 => ?_) (fun h15 => ?_)
  · try simp only [decide_eq_true_eq, decide_eq_false_iff_not, Bool.not_eq_true', Bool.not_eq_false', Bool.and_eq_true, Bool.or_eq_true, Bool.and_eq_false_iff, Bool.or_eq_false_iff, Option.isNone_some, Option.isSome_some, Option.isNone_none, Option.isSome_none, Int.not_lt, Int.not_le, beq_iff_eq, beq_eq_false_iff_ne, bne_iff_ne, ne_eq, Bool.not_not, Decidable.not_not] at h15
    have hns : ¬ okS rs xss := h15
    refine J.condT rfl rfl ?_
    refine J.seq rfl ?_
    refine J.region rfl ?_
    refine JO.pur rfl rfl rfl (Pur.build (cs := [_, _]) rfl rfl) ?_
    refine JO.effN rfl rfl (Eff.storeBA (cs' := [_, _]) rfl rfl (by rfl) (by rfl) (by rfl)) ?_
    rintro _ _ ⟨rfl, rfl⟩
    refine JO.pur rfl rfl rfl (Pur.assign rfl) ?_
    refine JO.nil ?_
    refine J.retC rfl (.cell rfl (ld_agg rfl CellsIn.blk) (.tmp rfl .nil)) ?_
    have hv : a1S rs xss x = (([], []), 50) := by unfold a1S; rw [if_pos hns]
    refine ⟨_, _, ⟨none, 0, none, 0, [], rfl, rfl⟩, by rw [hv]; rfl, fun h s => ?_⟩
    rw [hv]; exact sl_nil_new (sl_nil_new (rows_nil (SubC.out h s)))
  · try simp only [decide_eq_true_eq, decide_eq_false_iff_not, Bool.not_eq_true', Bool.not_eq_false', Bool.and_eq_true, Bool.or_eq_true, Bool.and_eq_false_iff, Bool.or_eq_false_iff, Option.isNone_some, Option.isSome_some, Option.isNone_none, Option.isSome_none, Int.not_lt, Int.not_le, beq_iff_eq, beq_eq_false_iff_ne, bne_iff_ne, ne_eq, Bool.not_not, Decidable.not_not] at h15
    have hs0 : okS rs xss := h15
    have hxl4 := hs0.2.1
    refine J.condF rfl rfl ?_
    refine J.skip rfl ?_
    refine J.seq rfl ?_
    refine J.seq rfl ?_
    refine J.region rfl ?_
    refine JO.pur rfl rfl rfl (Pur.fieldAddr rfl) ?_
    refine JO.pur rfl rfl rfl (Pur.loadA rfl rfl rfl (CellsIn.sub1 rfl)) ?_
    refine JO.pur rfl rfl rfl (Pur.move rfl) ?_
    refine JO.effR rfl rfl rfl (Eff.call rfl (d_Has (rs := rs) (x := x) rfl rfl)) ?_
    refine JO.pur rfl rfl rfl (Pur.move rfl) ?_
    refine JO.pur rfl rfl rfl (Pur.extract rfl rfl) ?_
    refine JO.pur rfl rfl rfl (Pur.extract rfl rfl) ?_
    refine JO.pur rfl rfl rfl (Pur.assign rfl) ?_
    refine JO.pur rfl rfl rfl (Pur.assign rfl) ?_
    refine JO.nil ?_
    refine J.seq rfl ?_
    refine J.region rfl ?_
    refine JO.pur rfl rfl rfl (Pur.move rfl) ?_
    refine JO.pur rfl rfl rfl (Pur.neqI rfl rfl) ?_
    refine JO.pur rfl rfl rfl (Pur.move rfl) ?_
    refine JO.splitB 26 rfl (fun h26 => ?_) (fun h26 => ?_)
    · try simp only [decide_eq_true_eq, decide_eq_false_iff_not, Bool.not_eq_true', Bool.not_eq_false', Bool.and_eq_true, Bool.or_eq_true, Bool.and_eq_false_iff, Bool.or_eq_false_iff, Option.isNone_some, Option.isSome_some, Option.isNone_none, Option.isSome_none, Int.not_lt, Int.not_le, beq_iff_eq, beq_eq_false_iff_ne, bne_iff_ne, ne_eq, Bool.not_not, Decidable.not_not] at h26
      have hbad : (plV rs x).2 ≠ 0 := (has_pl hs0.1).1 (.inl (by simpa using h26))
      refine JO.no rfl rfl rfl ?_
      refine JO.no rfl rfl rfl ?_
      refine JO.pur rfl rfl rfl (Pur.pickT rfl rfl) ?_
      refine JO.nil ?_
      refine J.condT rfl rfl ?_
      refine J.seq rfl ?_
      refine J.region rfl ?_
      refine JO.pur rfl rfl rfl (Pur.build (cs := [_, _]) rfl rfl) ?_
      refine JO.effN rfl rfl (Eff.storeBA (cs' := [_, _]) rfl rfl (by rfl) (by rfl) (by rfl)) ?_
      rintro _ _ ⟨rfl, rfl⟩
      refine JO.pur rfl rfl rfl (Pur.assign rfl) ?_
      refine JO.nil ?_
      refine J.retC rfl (.cell rfl (ld_agg rfl CellsIn.blk) (.tmp rfl .nil)) ?_
      have hv : a1S rs xss x = (([], []), 2) := by unfold a1S; rw [if_neg (not_not_intro hs0), if_pos hbad]
      refine ⟨_, _, ⟨none, 0, none, 0, [], rfl, rfl⟩, by rw [hv]; rfl, fun h s => ?_⟩
      rw [hv]; exact sl_nil_new (sl_nil_new (rows_nil (SubC.out h s)))
    · try simp only [decide_eq_true_eq, decide_eq_false_iff_not, Bool.not_eq_true', Bool.not_eq_false', Bool.and_eq_true, Bool.or_eq_true, Bool.and_eq_false_iff, Bool.or_eq_false_iff, Option.isNone_some, Option.isSome_some, Option.isNone_none, Option.isSome_none, Int.not_lt, Int.not_le, beq_iff_eq, beq_eq_false_iff_ne, bne_iff_ne, ne_eq, Bool.not_not, Decidable.not_not] at h26
      refine JO.pur rfl rfl rfl (Pur.move rfl) ?_
      refine JO.pur rfl rfl rfl (Pur.not rfl) ?_
      refine JO.pur rfl rfl rfl (Pur.pickF rfl rfl) ?_
      refine JO.nil ?_
      refine J.splitB 29 rfl (fun h29 => ?_) (fun h29 => ?_)
      · try simp only [decide_eq_true_eq, decide_eq_false_iff_not, Bool.not_eq_true', Bool.not_eq_false', Bool.and_eq_true, Bool.or_eq_true, Bool.and_eq_false_iff, Bool.or_eq_false_iff, Option.isNone_some, Option.isSome_some, Option.isNone_none, Option.isSome_none, Int.not_lt, Int.not_le, beq_iff_eq, beq_eq_false_iff_ne, bne_iff_ne, ne_eq, Bool.not_not, Decidable.not_not] at h29
        have hbad : (plV rs x).2 ≠ 0 := (has_pl hs0.1).1 (.inr (by simpa using h29))
        refine J.condT rfl rfl ?_
        refine J.seq rfl ?_
        refine J.region rfl ?_
        refine JO.pur rfl rfl rfl (Pur.build (cs := [_, _]) rfl rfl) ?_
        refine JO.effN rfl rfl (Eff.storeBA (cs' := [_, _]) rfl rfl (by rfl) (by rfl) (by rfl)) ?_
        rintro _ _ ⟨rfl, rfl⟩
        refine JO.pur rfl rfl rfl (Pur.assign rfl) ?_
        refine JO.nil ?_
        refine J.retC rfl (.cell rfl (ld_agg rfl CellsIn.blk) (.tmp rfl .nil)) ?_
        have hv : a1S rs xss x = (([], []), 2) := by unfold a1S; rw [if_neg (not_not_intro hs0), if_pos hbad]
        refine ⟨_, _, ⟨none, 0, none, 0, [], rfl, rfl⟩, by rw [hv]; rfl, fun h s => ?_⟩
        rw [hv]; exact sl_nil_new (sl_nil_new (rows_nil (SubC.out h s)))
      · try simp only [decide_eq_true_eq, decide_eq_false_iff_not, Bool.not_eq_true', Bool.not_eq_false', Bool.and_eq_true, Bool.or_eq_true, Bool.and_eq_false_iff, Bool.or_eq_false_iff, Option.isNone_some, Option.isSome_some, Option.isNone_none, Option.isSome_none, Int.not_lt, Int.not_le, beq_iff_eq, beq_eq_false_iff_ne, bne_iff_ne, ne_eq, Bool.not_not, Decidable.not_not] at h29
        have hgd : (plV rs x).2 = 0 := Classical.byContradiction fun g => by
          rcases (has_pl hs0.1).2 g with g | g
          · exact g (by simpa using h26)
          · rw [g] at h29; simp at h29
        have hpx := (plV_ok hs0.1 x).1.1 hgd
        refine J.condF rfl rfl ?_
        refine J.skip rfl ?_
        refine J.seq rfl ?_
        refine J.seq rfl ?_
        refine J.region rfl ?_
        refine JO.pur rfl rfl rfl (Pur.loadA rfl rfl rfl CellsIn.blk) ?_
        refine JO.pur rfl rfl rfl (Pur.move rfl) ?_
        refine JO.effR rfl rfl rfl (Eff.call rfl (s_find (rs := rs) (hs := hs) (xss := xss) (x := x) rfl rfl rfl hs0)) ?_
        refine JO.pur rfl rfl rfl (Pur.move rfl) ?_
        refine JO.pur rfl rfl rfl (Pur.extract rfl rfl) ?_
        refine JO.pur rfl rfl rfl (Pur.extract rfl rfl) ?_
        refine JO.setv (u' := .bool (decide (x ∈ xss))) 36 rfl (congrArg Value.bool (fnd_mem hs0 x)) ?_
        refine JO.pur rfl rfl rfl (Pur.assign rfl) ?_
        refine JO.pur rfl rfl rfl (Pur.assign rfl) ?_
        refine JO.nil ?_
        refine J.seq rfl ?_
        refine J.region rfl ?_
        refine JO.pur rfl rfl rfl (Pur.move rfl) ?_
        refine JO.nil ?_
        refine J.splitB 37 rfl (fun h37 => ?_) (fun h37 => ?_)
        · try simp only [decide_eq_true_eq, decide_eq_false_iff_not, Bool.not_eq_true', Bool.not_eq_false', Bool.and_eq_true, Bool.or_eq_true, Bool.and_eq_false_iff, Bool.or_eq_false_iff, Option.isNone_some, Option.isSome_some, Option.isNone_none, Option.isSome_none, Int.not_lt, Int.not_le, beq_iff_eq, beq_eq_false_iff_ne, bne_iff_ne, ne_eq, Bool.not_not, Decidable.not_not] at h37
          have hin : x ∈ xss := by simpa using h37
          refine J.condT rfl rfl ?_
          refine J.seq rfl ?_
          refine J.region rfl ?_
          refine JO.pur rfl rfl rfl (Pur.build (cs := [_, _]) rfl rfl) ?_
          refine JO.effN rfl rfl (Eff.storeBA (cs' := [_, _]) rfl rfl (by rfl) (by rfl) (by rfl)) ?_
          rintro _ _ ⟨rfl, rfl⟩
          refine JO.pur rfl rfl rfl (Pur.assign rfl) ?_
          refine JO.nil ?_
          refine J.retC rfl (.cell rfl (ld_agg rfl CellsIn.blk) (.tmp rfl .nil)) ?_
          have hv : a1S rs xss x = (([], []), 7) := by unfold a1S; rw [if_neg (not_not_intro hs0), if_neg (not_not_intro hgd), if_pos hin]
          refine ⟨_, _, ⟨none, 0, none, 0, [], rfl, rfl⟩, by rw [hv]; rfl, fun h s => ?_⟩
          rw [hv]; exact sl_nil_new (sl_nil_new (rows_nil (SubC.out h s)))
        · try simp only [decide_eq_true_eq, decide_eq_false_iff_not, Bool.not_eq_true', Bool.not_eq_false', Bool.and_eq_true, Bool.or_eq_true, Bool.and_eq_false_iff, Bool.or_eq_false_iff, Option.isNone_some, Option.isSome_some, Option.isNone_none, Option.isSome_none, Int.not_lt, Int.not_le, beq_iff_eq, beq_eq_false_iff_ne, bne_iff_ne, ne_eq, Bool.not_not, Decidable.not_not] at h37
          have hni : ¬ x ∈ xss := by simpa using h37
          refine J.condF rfl rfl ?_
          refine J.skip rfl ?_
          refine J.seq rfl ?_
          refine J.region rfl ?_
          refine JO.pur rfl rfl rfl (Pur.loadA rfl rfl rfl CellsIn.blk) ?_
          refine JO.pur rfl rfl rfl (Pur.move rfl) ?_
          refine JO.eff rfl rfl rfl (Eff.buildSlice hE [⟨xa, x.length, xc⟩] rfl rfl rfl rfl rfl rfl rfl) ?_
          rintro _ _ ⟨b42, rfl, -, rfl⟩
          refine JO.eff rfl rfl rfl (Eff.call rfl (@s_AddAll _ _ _ _ _ _ _ _ _ _ rs hs [⟨xa, x.length, xc⟩] xss [x] inferInstance inferInstance inferInstance inferInstance (rows_one hnX hcX) rfl rfl rfl hnA (fun e => by cases e) (by simp))) ?_
          rintro _ _ ⟨pa, pc, qa, qc, hs1, rfl, rfl⟩
          refine JO.pur rfl rfl rfl (Pur.move rfl) ?_
          refine JO.pur rfl rfl rfl (Pur.extract rfl rfl) ?_
          refine JO.pur rfl rfl rfl (Pur.extract rfl rfl) ?_
          refine JO.pur rfl rfl rfl (Pur.extract rfl rfl) ?_
          refine JO.eff rfl rfl rfl (Eff.alloc (cs := [_, _]) rfl) ?_
          rintro _ _ ⟨b10, rfl, rfl⟩
          refine JO.effN rfl rfl (Eff.storeBA (cs' := [_, _]) rfl rfl (by rfl) (by rfl) (by rfl)) ?_
          rintro _ _ ⟨rfl, rfl⟩
          refine JO.pur rfl rfl rfl (Pur.assign rfl) ?_
          refine JO.pur rfl rfl rfl (Pur.assign rfl) ?_
          refine JO.nil ?_
          refine J.seq rfl ?_
          refine J.region rfl ?_
          refine JO.pur rfl rfl rfl (Pur.loadA rfl rfl rfl CellsIn.blk) ?_
          refine JO.pur rfl rfl rfl (Pur.move rfl) ?_
          refine JO.effN rfl rfl (Eff.storeBA (cs' := [_, _]) rfl rfl (by rfl) (by rfl) (by rfl)) ?_
          rintro _ _ ⟨rfl, rfl⟩
          refine JO.pur rfl rfl rfl (Pur.assign rfl) ?_
          refine JO.nil ?_
          refine J.retC rfl (.cell rfl (ld_agg rfl CellsIn.blk) (.tmp rfl .nil)) ?_
          have hv := a1S_add hs0 hgd hni
          refine ⟨_, _, ⟨pa, pc, qa, qc, hs1, rfl, rfl⟩, by rw [hv]; rfl, fun h s => ?_⟩
          rw [hv]
          exact SubC.out h s

end Go.Proofs.Ytnhippfllgnngaa

/- The text SK1. -/
set_option linter.unusedVariables false
set_option linter.unusedSimpArgs false
set_option maxRecDepth 10000
namespace Go.Proofs.Ytnhippfllgnngaa
open Go Go.KK Dm

/-- A pair's number. -/
def nthP (w : Nat) (p : Int × Int) : Int := if w = 0 then p.1 else p.2
def pickP (l : List (Int × Int)) (w k : Nat) : List Int := (l.filter fun p => decide (nthP w p = (k : Int))).map (nthP (1 - w))
def othK (l : List (Int × Int)) (w k : Nat) : List Int := (List.range k).flatMap (pickP l w)
def stsK (l : List (Int × Int)) (w k : Nat) : List Int := (List.range (k + 1)).map fun i => ((othK l w i).length : Int)
def tabL (d : List Rg) (xss : List (List Int)) : List (Int × Int) := xss.map fun x => (memS d 0 (x.getD 0 0), memS d 1 (x.getD 1 0))
end Go.Proofs.Ytnhippfllgnngaa

/- The text SpPlain4. -/
set_option linter.unusedVariables false
set_option linter.unusedSimpArgs false
/-! Compressed by rows: the counts and the reference's lists. -/
namespace Go.Proofs.Ytnhippfllgnngaa
open Go Go.KK Dm
end Go.Proofs.Ytnhippfllgnngaa
namespace Go.Proofs.Ytnhippfllgnngaa
open Go Go.KK Dm
end Go.Proofs.Ytnhippfllgnngaa

/- The text SK2. -/
set_option linter.unusedVariables false
set_option linter.unusedSimpArgs false
set_option maxRecDepth 10000
namespace Go.Proofs.Ytnhippfllgnngaa
open Go Go.KK Dm

end Go.Proofs.Ytnhippfllgnngaa

/- The text SK3. -/
set_option linter.unusedVariables false
set_option linter.unusedSimpArgs false
set_option maxRecDepth 10000
namespace Go.Proofs.Ytnhippfllgnngaa
open Go Go.KK Dm

def sortB (xs : List Int) : Prop := ∀ i, i < xs.length → 1 ≤ i → xs.getD (i - 1) 0 ≤ xs.getD i 0
instance (xs : List Int) : Decidable (sortB xs) := inferInstanceAs (Decidable (∀ i, i < xs.length → _))
end Go.Proofs.Ytnhippfllgnngaa

/- The text SpPlain5. -/
set_option linter.unusedVariables false
set_option linter.unusedSimpArgs false
/-! From lists that are compressed by rows. -/
namespace Go.Proofs.Ytnhippfllgnngaa
open Go Go.KK Dm
abbrev SpRF := (List Rg × List (List Int)) × Int
/-- The lists' form. -/
def chkF (R : Nat) (starts cols : List Int) : Prop := starts.length = R + 1 ∧ starts.getD 0 0 = 0 ∧ starts.getD R 0 = (cols.length : Int) ∧ cols.length ≤ 400 ∧ sortB starts
instance (R : Nat) (starts cols : List Int) : Decidable (chkF R starts cols) := inferInstanceAs (Decidable (_ ∧ _))
/-- The row that a place of the list of columns is in. -/
def rowAt (starts : List Int) (i : Nat) : Nat := (starts.countP fun s => decide (s ≤ (i : Int))) - 1
/-- The indexes that the lists name. -/
def fromK (rs : List Rg) (starts cols : List Int) (n : Nat) : List (List Int) := (List.range n).map fun i => ixD (canD rs) (rowAt starts i * cnt ((canD rs).getD 1 default) + (cols.getD i 0).toNat)
def goodC (rs : List Rg) (cols : List Int) : Prop := ∀ i, i < cols.length → 0 ≤ cols.getD i 0 ∧ cols.getD i 0 < (cnt ((canD rs).getD 1 default) : Int)
instance (rs : List Rg) (cols : List Int) : Decidable (goodC rs cols) := inferInstanceAs (Decidable (∀ i, i < cols.length → _))
def frmS (rs : List Rg) (starts cols : List Int) : SpRF := if ¬ okD rs then (([], []), 50) else if rs.length ≠ 2 then (([], []), 2) else
  if ¬ (chkF (cnt ((canD rs).getD 0 default)) starts cols ∧ goodC rs cols ∧ okS rs (fromK rs starts cols cols.length)) then (([], []), 5) else ((rs, fromK rs starts cols cols.length), 0)
end Go.Proofs.Ytnhippfllgnngaa

/- The text SK4. -/
set_option linter.unusedVariables false
set_option linter.unusedSimpArgs false
set_option maxRecDepth 10000
namespace Go.Proofs.Ytnhippfllgnngaa
open Go Go.KK Dm

end Go.Proofs.Ytnhippfllgnngaa

/- The text SpPlain6. -/
set_option linter.unusedVariables false
set_option linter.unusedSimpArgs false
/-! The reference's way from lists that are compressed by rows. -/
namespace Go.Proofs.Ytnhippfllgnngaa
open Go Go.KK Dm
end Go.Proofs.Ytnhippfllgnngaa

/- The text SpPlainE. -/
set_option linter.unusedVariables false
set_option linter.unusedSimpArgs false
namespace Go.Proofs.Ytnhippfllgnngaa
open Go Go.KK Dm
theorem plK_some {d : List Rg} {x : List Int} : ∀ {k : Nat}, (plK d x k).isSome = true ↔ ∀ j, j < k → (plR (d.getD j default) (x.getD j default)).isSome = true
  | 0 => by simp [plK]
  | k + 1 => by
    have ih := plK_some (d := d) (x := x) (k := k)
    constructor
    · intro hs j hj
      unfold plK at hs
      cases e1 : plK d x k with
      | none => rw [e1] at hs; simp at hs
      | some a =>
        cases e2 : plR (d.getD k default) (x.getD k default) with
        | none => rw [e1, e2] at hs; simp at hs
        | some i =>
          by_cases e : j = k
          · subst e; rw [e2]; rfl
          · exact ih.1 (by rw [e1]; rfl) j (by omega)
    · intro hall
      obtain ⟨a, ha⟩ := Option.isSome_iff_exists.1 (ih.2 fun j hj => hall j (by omega))
      obtain ⟨i, hi⟩ := Option.isSome_iff_exists.1 (hall k (by omega))
      unfold plK; rw [ha, hi]; rfl
def trnL (rs : List Rg) (xss : List (List Int)) : List (List Int) := madeL (trD rs) ((xss.map List.reverse).map (atS (trD rs)))
theorem okS_of {rs : List Rg} {xss : List (List Int)} (h1 : okD rs) (h2 : xss.length ≤ 400) (h3 : ∀ y ∈ xss, (plD rs y).isSome = true) (h4 : xss.Pairwise fun x y => atS rs x < atS rs y) : okS rs xss := by
  refine (okS_iff h1 h2).2 ⟨fun x hx => (plV_ok h1 x).1.2 (h3 x hx), fun j hj hl => ?_⟩
  rw [List.pairwise_iff_getElem] at h4
  have := h4 (j - 1) j (by omega) hl (by omega)
  rwa [List.getD_eq_getElem?_getD, List.getD_eq_getElem?_getD, List.getElem?_eq_getElem (by omega : j - 1 < xss.length), List.getElem?_eq_getElem hl]
end Go.Proofs.Ytnhippfllgnngaa

/- The text SpPlainG. -/
set_option linter.unusedVariables false
set_option linter.unusedSimpArgs false
namespace Go.Proofs.Ytnhippfllgnngaa
open Go Go.KK Dm
/-- Two domains of the same indexes. -/
def samD (rs ss : List Rg) : Prop := okD rs ∧ okD ss ∧ canD rs = canD ss
instance (rs ss : List Rg) : Decidable (samD rs ss) := inferInstanceAs (Decidable (_ ∧ _ ∧ _))
def twoS (rs : List Rg) (xss : List (List Int)) (ss : List Rg) (yss : List (List Int)) : Int := if ¬ (okS rs xss ∧ okS ss yss) then 50 else if ¬ samD rs ss then 2 else 0
/-- What both have. -/
def meetS (rs : List Rg) (xss : List (List Int)) (ss : List Rg) (yss : List (List Int)) : SpRn := if twoS rs xss ss yss ≠ 0 then (([], []), twoS rs xss ss yss) else ((rs, xss.filter fun x => decide (x ∈ yss)), 0)
def joinS (rs : List Rg) (xss : List (List Int)) (ss : List Rg) (yss : List (List Int)) : SpRn := if twoS rs xss ss yss ≠ 0 then (([], []), twoS rs xss ss yss) else addS rs xss yss
theorem twoS_ok {rs ss : List Rg} {xss yss : List (List Int)} (h : twoS rs xss ss yss = 0) : okS rs xss ∧ okS ss yss ∧ samD rs ss := by
  unfold twoS at h
  by_cases h1 : okS rs xss ∧ okS ss yss
  · rw [if_neg (not_not_intro h1)] at h
    by_cases h2 : samD rs ss
    · exact ⟨h1.1, h1.2, h2⟩
    · rw [if_pos h2] at h; cases h
  · rw [if_pos h1] at h; cases h
end Go.Proofs.Ytnhippfllgnngaa
