/-
  A part of the proof of the claim that this folder bears.
-/
import Derived.Test.YtnhippfllgnngaaPAO
import Derived.Test.YtnhippfllgnngaaPAL
import Derived.Test.YtnhippfllgnngaaPAR
import Derived.Test.YtnhippfllgnngaaPAA
import Derived.Test.YtnhippfllgnngaaKC
/- The text SN1. -/
set_option linter.unusedVariables false
set_option linter.unusedSimpArgs false
set_option maxRecDepth 10000
namespace Go.Proofs.Ytnhippfllgnngaa
open Go Go.KK Dm

theorem made_b {rs : List Rg} (h : okD rs) (ts : List Int) : ∀ x ∈ madeL rs ts, x.length ≤ 1000000 := fun x hx => by
  unfold madeL at hx
  obtain ⟨i, hi, rfl⟩ := List.mem_map.1 hx
  have h1 := List.mem_range.1 (List.mem_filter.1 hi).1
  rw [ixD_len h1]; have := h.2.1; omega
theorem addS_b {rs : List Rg} {xss yss : List (List Int)} : (addS rs xss yss).1.1.length ≤ 1000000 ∧ (addS rs xss yss).1.2.length ≤ 1000000 ∧ ∀ x ∈ (addS rs xss yss).1.2, x.length ≤ 1000000 := by
  unfold addS
  by_cases h : okS rs xss
  · rw [if_neg (not_not_intro h)]
    split
    · simp
    · split
      · simp
      · have := h.1.2.1
        exact ⟨by dsimp only; omega, by dsimp only; omega, made_b h.1 _⟩
  · rw [if_pos h]; simp
end Go.Proofs.Ytnhippfllgnngaa

/- The text SN4. -/
set_option linter.unusedVariables false
set_option linter.unusedSimpArgs false
set_option maxRecDepth 10000
namespace Go.Proofs.Ytnhippfllgnngaa
open Go Go.KK Dm

theorem meetS_b {rs ss : List Rg} {xss yss : List (List Int)} : (meetS rs xss ss yss).1.1.length ≤ 1000000 ∧ (meetS rs xss ss yss).1.2.length ≤ 1000000 ∧ ∀ x ∈ (meetS rs xss ss yss).1.2, x.length ≤ 1000000 := by
  unfold meetS
  by_cases h : twoS rs xss ss yss = 0
  · rw [if_neg (not_not_intro h)]
    obtain ⟨h1, h2, h3⟩ := twoS_ok h
    have h4 := h1.1.2.1
    have h5 := h1.2.1
    have h6 : (xss.filter fun x => decide (x ∈ yss)).length ≤ xss.length := List.length_filter_le _ _
    exact ⟨by dsimp only; omega, by dsimp only; omega, fun y hy => by have := okS_len h1 (List.mem_filter.1 hy).1; omega⟩
  · rw [if_pos h]; simp
theorem joinS_b {rs ss : List Rg} {xss yss : List (List Int)} : (joinS rs xss ss yss).1.1.length ≤ 1000000 ∧ (joinS rs xss ss yss).1.2.length ≤ 1000000 ∧ ∀ x ∈ (joinS rs xss ss yss).1.2, x.length ≤ 1000000 := by
  unfold joinS
  by_cases h : twoS rs xss ss yss = 0
  · rw [if_neg (not_not_intro h)]; exact addS_b
  · rw [if_pos h]; simp
theorem lawMeets {L : List Asn} {a la b lb : Option Addr} {n cap ln lc m cq lm lq : Nat} {rs ss : List Rg} {hs gs : List Hdr} {xss yss : List (List Int)} [SlIn rgE L a rs] [SlIn hE L la hs] [RowsR intE L hs xss] [SlIn rgE L b ss] [SlIn hE L lb gs] [RowsR intE L gs yss] (hn : n = rs.length) (hl : ln = hs.length) (hm : m = ss.length) (hl2 : lm = gs.length) (hb : hs.length ≤ 9223372036854775807) (hb2 : gs.length ≤ 9223372036854775807) (hnA : la = none → hs.length = 0 ∧ lc = 0) (hnB : lb = none → gs.length = 0 ∧ lq = 0) :
    CallS Try.prog 11 [.agg #[.slice a n cap, .slice la ln lc], .agg #[.slice b m cq, .slice lb lm lq]].toArray L (fun v M => v = .bool true ∧ M = L) := by
  subst hn
  subst hl
  subst hm
  subst hl2
  refine CallS.fact (fun h s => RowsR.len (E := intE) (hs := hs) (xss := xss) s) fun hnn => ?_
  have hhl : hs.length = xss.length := rows_len hnn
  refine CallS.fact (fun h s => RowsR.len (E := intE) (hs := gs) (xss := yss) s) fun hnn2 => ?_
  have hgl : gs.length = yss.length := rows_len hnn2
  refine CallS.ent ?_
  refine CallS.enter Try.func11 rfl rfl rfl rfl rfl ?_
  refine J.seq rfl ?_
  refine J.region rfl ?_
  refine JO.eff rfl rfl rfl (Eff.box (cs := [_, _]) rfl rfl) ?_
  rintro _ _ ⟨b2, rfl, rfl⟩
  refine JO.eff rfl rfl rfl (Eff.box (cs := [_, _]) rfl rfl) ?_
  rintro _ _ ⟨b3, rfl, rfl⟩
  refine JO.pur rfl rfl rfl (Pur.assign rfl) ?_
  refine JO.nil ?_
  refine J.seq rfl ?_
  refine J.seq rfl ?_
  refine J.region rfl ?_
  refine JO.pur rfl rfl rfl (Pur.loadA rfl rfl rfl CellsIn.blk) ?_
  refine JO.effR rfl rfl rfl (Eff.call rfl (largeS_ok (rs := rs) (hs := hs) (xss := xss) rfl rfl hb)) ?_
  refine JO.pur rfl rfl rfl (Pur.move rfl) ?_
  refine JO.splitB 15 rfl (fun h15 => ?_) (fun h15 => ?_)
  · try simp only [decide_eq_true_eq, decide_eq_false_iff_not, Bool.not_eq_true', Bool.not_eq_false', Bool.and_eq_true, Bool.or_eq_true, Bool.and_eq_false_iff, Bool.or_eq_false_iff, Option.isNone_some, Option.isSome_some, Option.isNone_none, Option.isSome_none, Int.not_lt, Int.not_le, beq_iff_eq, beq_eq_false_iff_ne, bne_iff_ne, ne_eq, Bool.not_not, Decidable.not_not] at h15
    refine JO.no rfl rfl rfl ?_
    refine JO.no rfl rfl rfl ?_
    refine JO.pur rfl rfl rfl (Pur.pickT rfl rfl) ?_
    refine JO.nil ?_
    refine J.condT rfl rfl ?_
    refine J.seq rfl ?_
    refine J.region rfl ?_
    refine JO.effR rfl rfl rfl (Eff.call rfl (first_ok)) ?_
    refine JO.pur rfl rfl rfl (Pur.assign rfl) ?_
    refine JO.nil ?_
    refine J.ret rfl rfl ?_
    refine ⟨_, _, ⟨rfl, rfl⟩, rfl, SubC.out⟩
  · try simp only [decide_eq_true_eq, decide_eq_false_iff_not, Bool.not_eq_true', Bool.not_eq_false', Bool.and_eq_true, Bool.or_eq_true, Bool.and_eq_false_iff, Bool.or_eq_false_iff, Option.isNone_some, Option.isSome_some, Option.isNone_none, Option.isSome_none, Int.not_lt, Int.not_le, beq_iff_eq, beq_eq_false_iff_ne, bne_iff_ne, ne_eq, Bool.not_not, Decidable.not_not] at h15
    refine JO.pur rfl rfl rfl (Pur.loadA rfl rfl rfl CellsIn.blk) ?_
    refine JO.effR rfl rfl rfl (Eff.call rfl (largeS_ok (rs := ss) (hs := gs) (xss := yss) rfl rfl hb2)) ?_
    refine JO.pur rfl rfl rfl (Pur.pickF rfl rfl) ?_
    refine JO.nil ?_
    refine J.splitB 18 rfl (fun h18 => ?_) (fun h18 => ?_)
    · try simp only [decide_eq_true_eq, decide_eq_false_iff_not, Bool.not_eq_true', Bool.not_eq_false', Bool.and_eq_true, Bool.or_eq_true, Bool.and_eq_false_iff, Bool.or_eq_false_iff, Option.isNone_some, Option.isSome_some, Option.isNone_none, Option.isSome_none, Int.not_lt, Int.not_le, beq_iff_eq, beq_eq_false_iff_ne, bne_iff_ne, ne_eq, Bool.not_not, Decidable.not_not] at h18
      refine J.condT rfl rfl ?_
      refine J.seq rfl ?_
      refine J.region rfl ?_
      refine JO.effR rfl rfl rfl (Eff.call rfl (first_ok)) ?_
      refine JO.pur rfl rfl rfl (Pur.assign rfl) ?_
      refine JO.nil ?_
      refine J.ret rfl rfl ?_
      refine ⟨_, _, ⟨rfl, rfl⟩, rfl, SubC.out⟩
    · try simp only [decide_eq_true_eq, decide_eq_false_iff_not, Bool.not_eq_true', Bool.not_eq_false', Bool.and_eq_true, Bool.or_eq_true, Bool.and_eq_false_iff, Bool.or_eq_false_iff, Option.isNone_some, Option.isSome_some, Option.isNone_none, Option.isSome_none, Int.not_lt, Int.not_le, beq_iff_eq, beq_eq_false_iff_ne, bne_iff_ne, ne_eq, Bool.not_not, Decidable.not_not] at h18
      refine J.condF rfl rfl ?_
      refine J.skip rfl ?_
      refine J.seq rfl ?_
      refine J.region rfl ?_
      refine JO.pur rfl rfl rfl (Pur.loadA rfl rfl rfl CellsIn.blk) ?_
      refine JO.pur rfl rfl rfl (Pur.loadA rfl rfl rfl CellsIn.blk) ?_
      refine JO.eff rfl rfl rfl (Eff.call rfl (s_Meet (rs := rs) (ss := ss) (hs := hs) (gs := gs) (xss := xss) (yss := yss) rfl rfl rfl rfl)) ?_
      rintro _ _ ⟨pa23, pc23, qa23, qc23, hs23, rfl, rfl⟩
      refine JO.pur rfl rfl rfl (Pur.move rfl) ?_
      refine JO.pur rfl rfl rfl (Pur.extract rfl rfl) ?_
      refine JO.pur rfl rfl rfl (Pur.extract rfl rfl) ?_
      refine JO.eff rfl rfl rfl (Eff.alloc (cs := [_, _]) rfl) ?_
      rintro _ _ ⟨b5, rfl, rfl⟩
      refine JO.effN rfl rfl (Eff.storeBA (cs' := [_, _]) rfl rfl (by rfl) (by rfl) (by rfl)) ?_
      rintro _ _ ⟨rfl, rfl⟩
      refine JO.pur rfl rfl rfl (Pur.assign rfl) ?_
      refine JO.nil ?_
      refine J.seq rfl ?_
      refine J.region rfl ?_
      refine JO.pur rfl rfl rfl (Pur.loadA rfl rfl rfl CellsIn.blk) ?_
      refine JO.pur rfl rfl rfl (Pur.loadA rfl rfl rfl CellsIn.blk) ?_
      refine JO.eff rfl rfl rfl (Eff.call rfl (rs_Meet (rs := rs) (ss := ss) (hs := hs) (gs := gs) (xss := xss) (yss := yss) rfl rfl rfl rfl)) ?_
      rintro _ _ ⟨pa29, pc29, qa29, qc29, hs29, rfl, rfl⟩
      refine JO.pur rfl rfl rfl (Pur.move rfl) ?_
      refine JO.pur rfl rfl rfl (Pur.extract rfl rfl) ?_
      refine JO.pur rfl rfl rfl (Pur.extract rfl rfl) ?_
      refine JO.eff rfl rfl rfl (Eff.alloc (cs := [_, _]) rfl) ?_
      rintro _ _ ⟨b7, rfl, rfl⟩
      refine JO.effN rfl rfl (Eff.storeBA (cs' := [_, _]) rfl rfl (by rfl) (by rfl) (by rfl)) ?_
      rintro _ _ ⟨rfl, rfl⟩
      refine JO.pur rfl rfl rfl (Pur.assign rfl) ?_
      refine JO.nil ?_
      refine J.seq rfl ?_
      refine J.region rfl ?_
      refine JO.pur rfl rfl rfl (Pur.loadA rfl rfl rfl CellsIn.blk) ?_
      refine JO.pur rfl rfl rfl (Pur.loadA rfl rfl rfl CellsIn.blk) ?_
      refine JO.eff rfl rfl rfl (Eff.call rfl (s_Join (rs := rs) (ss := ss) (hs := hs) (gs := gs) (xss := xss) (yss := yss) rfl rfl rfl rfl hnA hnB)) ?_
      rintro _ _ ⟨pa35, pc35, qa35, qc35, hs35, rfl, rfl⟩
      refine JO.pur rfl rfl rfl (Pur.move rfl) ?_
      refine JO.pur rfl rfl rfl (Pur.extract rfl rfl) ?_
      refine JO.pur rfl rfl rfl (Pur.extract rfl rfl) ?_
      refine JO.eff rfl rfl rfl (Eff.alloc (cs := [_, _]) rfl) ?_
      rintro _ _ ⟨b9, rfl, rfl⟩
      refine JO.effN rfl rfl (Eff.storeBA (cs' := [_, _]) rfl rfl (by rfl) (by rfl) (by rfl)) ?_
      rintro _ _ ⟨rfl, rfl⟩
      refine JO.pur rfl rfl rfl (Pur.assign rfl) ?_
      refine JO.nil ?_
      refine J.seq rfl ?_
      refine J.region rfl ?_
      refine JO.pur rfl rfl rfl (Pur.loadA rfl rfl rfl CellsIn.blk) ?_
      refine JO.pur rfl rfl rfl (Pur.loadA rfl rfl rfl CellsIn.blk) ?_
      refine JO.eff rfl rfl rfl (Eff.call rfl (rs_Join (rs := rs) (ss := ss) (hs := hs) (gs := gs) (xss := xss) (yss := yss) rfl rfl rfl rfl)) ?_
      rintro _ _ ⟨pa41, pc41, qa41, qc41, hs41, rfl, rfl⟩
      refine JO.pur rfl rfl rfl (Pur.move rfl) ?_
      refine JO.pur rfl rfl rfl (Pur.extract rfl rfl) ?_
      refine JO.pur rfl rfl rfl (Pur.extract rfl rfl) ?_
      refine JO.eff rfl rfl rfl (Eff.alloc (cs := [_, _]) rfl) ?_
      rintro _ _ ⟨b11, rfl, rfl⟩
      refine JO.effN rfl rfl (Eff.storeBA (cs' := [_, _]) rfl rfl (by rfl) (by rfl) (by rfl)) ?_
      rintro _ _ ⟨rfl, rfl⟩
      refine JO.pur rfl rfl rfl (Pur.assign rfl) ?_
      refine JO.nil ?_
      refine J.seq rfl ?_
      refine J.mask0 (n := 31) [] rfl Try.mixed rfl (by kernel_rfl) ?_
      refine JM.take 0 (fun _ h => h) rfl (by kernel_rfl) rfl rfl rfl (m' := 1) rfl (Pur.loadA rfl rfl rfl CellsIn.blk) ?_
      refine JM.take 1 (fun _ h => h) rfl (by kernel_rfl) rfl rfl rfl (m' := 3) rfl (Pur.loadA rfl rfl rfl CellsIn.blk) ?_
      refine JM.one (i := 2) (by kernel_rfl) ?_
      refine JMi.effR (fun _ h => h) rfl rfl rfl rfl (m' := 7) rfl (Eff.call rfl (equalS_ok (rs := (meetS rs xss ss yss).1.1) (xss := (meetS rs xss ss yss).1.2) rfl rfl rfl rfl meetS_b.1 meetS_b.2.1 meetS_b.2.2)) ?_
      refine JM.setv (u' := .bool true) 46 rfl (congrArg Value.bool (rfl)) ?_
      refine JM.take 3 (fun _ h => h) rfl (by kernel_rfl) rfl rfl rfl (m' := 15) rfl (Pur.move rfl) ?_
      refine JM.take 4 (fun _ h => h) rfl (by kernel_rfl) rfl rfl rfl (m' := 31) rfl (Pur.move rfl) ?_
      refine JM.take 5 (fun _ h => h) rfl (by kernel_rfl) rfl rfl rfl (m' := 63) rfl (Pur.move rfl) ?_
      refine JM.take 6 (fun _ h => h) rfl (by kernel_rfl) rfl rfl rfl (m' := 127) rfl (Pur.eqlI rfl rfl) ?_
      refine JM.take 7 (fun _ h => h) rfl (by kernel_rfl) rfl rfl rfl (m' := 255) rfl (Pur.pickT rfl rfl) ?_
      refine JM.take 8 (fun _ h => h) rfl (by kernel_rfl) rfl rfl rfl (m' := 511) rfl (Pur.move rfl) ?_
      refine JM.setv (u' := .bool true) 52 rfl (congrArg Value.bool (decide_eq_true rfl)) ?_
      refine JM.take 9 (fun _ h => h) rfl (by kernel_rfl) rfl rfl rfl (m' := 1023) rfl (Pur.loadA rfl rfl rfl CellsIn.blk) ?_
      refine JM.take 10 (fun _ h => h) rfl (by kernel_rfl) rfl rfl rfl (m' := 2047) rfl (Pur.loadA rfl rfl rfl CellsIn.blk) ?_
      refine JM.one (i := 11) (by kernel_rfl) ?_
      refine JMi.effR (fun _ h => h) rfl rfl rfl rfl (m' := 4095) rfl (Eff.call rfl (equalS_ok (rs := (joinS rs xss ss yss).1.1) (xss := (joinS rs xss ss yss).1.2) rfl rfl rfl rfl joinS_b.1 joinS_b.2.1 joinS_b.2.2)) ?_
      refine JM.setv (u' := .bool true) 55 rfl (congrArg Value.bool (rfl)) ?_
      refine JM.take 12 (fun _ h => h) rfl (by kernel_rfl) rfl rfl rfl (m' := 8191) rfl (Pur.pickT rfl rfl) ?_
      refine JM.take 13 (fun _ h => h) rfl (by kernel_rfl) rfl rfl rfl (m' := 16383) rfl (Pur.move rfl) ?_
      refine JM.take 14 (fun _ h => h) rfl (by kernel_rfl) rfl rfl rfl (m' := 32767) rfl (Pur.move rfl) ?_
      refine JM.take 15 (fun _ h => h) rfl (by kernel_rfl) rfl rfl rfl (m' := 65535) rfl (Pur.move rfl) ?_
      refine JM.take 16 (fun _ h => h) rfl (by kernel_rfl) rfl rfl rfl (m' := 131071) rfl (Pur.eqlI rfl rfl) ?_
      refine JM.take 17 (fun _ h => h) rfl (by kernel_rfl) rfl rfl rfl (m' := 262143) rfl (Pur.pickT rfl rfl) ?_
      refine JM.take 18 (fun _ h => h) rfl (by kernel_rfl) rfl rfl rfl (m' := 524287) rfl (Pur.move rfl) ?_
      refine JM.setv (u' := .bool true) 62 rfl (congrArg Value.bool (decide_eq_true rfl)) ?_
      refine JM.take 19 (fun _ h => h) rfl (by kernel_rfl) rfl rfl rfl (m' := 1048575) rfl (Pur.loadA rfl rfl rfl CellsIn.blk) ?_
      refine JM.take 20 (fun _ h => h) rfl (by kernel_rfl) rfl rfl rfl (m' := 2097151) rfl (Pur.loadA rfl rfl rfl CellsIn.blk) ?_
      refine JM.take 22 (fun _ h => h) rfl (by kernel_rfl) rfl rfl rfl (m' := 6291455) rfl (Pur.loadA rfl rfl rfl CellsIn.blk) ?_
      refine JM.take 23 (fun _ h => h) rfl (by kernel_rfl) rfl rfl rfl (m' := 14680063) rfl (Pur.loadA rfl rfl rfl CellsIn.blk) ?_
      refine JM.one (i := 21) (by kernel_rfl) ?_
      refine JMi.effR (fun _ h => h) rfl rfl rfl rfl (m' := 16777215) rfl (Eff.call rfl (s_Same (rs := rs) (ss := ss) (hs := hs) (gs := gs) (xss := xss) (yss := yss) rfl rfl rfl rfl)) ?_
      refine JM.one (i := 24) (by kernel_rfl) ?_
      refine JMi.effR (fun _ h => h) rfl rfl rfl rfl (m' := 33554431) rfl (Eff.call rfl (rs_Same (rs := rs) (ss := ss) (hs := hs) (gs := gs) (xss := xss) (yss := yss) rfl rfl rfl rfl)) ?_
      refine JM.take 25 (fun _ h => h) rfl (by kernel_rfl) rfl rfl rfl (m' := 67108863) rfl (Pur.eqlB rfl rfl) ?_
      refine JM.take 26 (fun _ h => h) rfl (by kernel_rfl) rfl rfl rfl (m' := 134217727) rfl (Pur.pickT rfl rfl) ?_
      refine JM.take 27 (fun _ h => h) rfl (by kernel_rfl) rfl rfl rfl (m' := 268435455) rfl (Pur.move rfl) ?_
      refine JM.setv (u' := .bool true) 71 rfl (congrArg Value.bool ((by simp))) ?_
      refine JM.one (i := 28) (by kernel_rfl) ?_
      refine JMi.effR (fun _ h => h) rfl rfl rfl rfl (m' := 536870911) rfl (Eff.call rfl (first_ok)) ?_
      refine JM.take 29 (fun _ h => h) rfl (by kernel_rfl) rfl rfl rfl (m' := 1073741823) rfl (Pur.pickT rfl rfl) ?_
      refine JM.take 30 (fun _ h => h) rfl (by kernel_rfl) rfl rfl rfl (m' := 2147483647) rfl (Pur.assign rfl) ?_
      refine JM.done rfl ?_
      refine J.ret rfl rfl ?_
      refine ⟨_, _, ⟨rfl, rfl⟩, rfl, SubC.out⟩

end Go.Proofs.Ytnhippfllgnngaa

/- The text SG2. -/
/-! A range that is given. -/
set_option linter.unusedVariables false
set_option linter.unusedSimpArgs false
namespace Go.Proofs.Ytnhippfllgnngaa
open Go Go.KK Dm Go.ChangeShapes Go.WideShapes Go.ChangeAt Go.RowKit Go.Deep
theorem trod_rgS {H : Type} {enc : TypeId × Value → H} {w : World} {base : Nat} {spare : Nat → Bool} {held : Bool} {fuel : Nat} {cs : List Value} {x : DataW H × List MemPlace} (h : DataW.trod enc Try.prog w base spare held fuel 93 cs = some x) : ∃ g : Rg, rgE.enc g = cs := by
  obtain ⟨ys, hx, hl, hxl, hff⟩ := open_cells Try.underlying93 (hone_of (by kernel_rfl)) (by kernel_rfl) h
  obtain ⟨c0, c1, c2, rfl⟩ := len3 hl
  obtain ⟨y0, y1, y2, rfl⟩ := len3 hxl
  obtain ⟨n0, h0⟩ := hff 0 _ _ _ rfl rfl rfl
  obtain ⟨n1, h1⟩ := hff 1 _ _ _ rfl rfl rfl
  obtain ⟨n2, h2⟩ := hff 2 _ _ _ rfl rfl rfl
  obtain ⟨a, ea, _⟩ := cell_int Try.underlying3 h0
  obtain ⟨b, eb, _⟩ := cell_int Try.underlying3 h1
  obtain ⟨c, ec, _⟩ := cell_int Try.underlying3 h2
  subst ea; subst eb; subst ec
  exact ⟨⟨a, b, c⟩, rfl⟩
end Go.Proofs.Ytnhippfllgnngaa
