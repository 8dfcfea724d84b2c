/-
  A part of the proof of the claim that this folder bears.
-/
import Derived.Test.YtnhippfllgnngaaPAQ
import Derived.Test.YtnhippfllgnngaaPAB
import Derived.Test.YtnhippfllgnngaaKD
/- The text SI1. -/
set_option linter.unusedVariables false
set_option linter.unusedSimpArgs false
set_option maxRecDepth 10000
namespace Go.Proofs.Ytnhippfllgnngaa
open Go Go.KK Dm

theorem lawReads {L : List Asn} {a la xa : Option Addr} {n cap ln lc xn xc : Nat} {rs : List Rg} {hs : List Hdr} {xss : List (List Int)} {x : List Int} [SlIn rgE L a rs] [SlIn hE L la hs] [RowsR intE L hs xss] [SlIn intE L xa x] (hn : n = rs.length) (hl : ln = hs.length) (hxn : xn = x.length) (hb : hs.length ≤ 9223372036854775807) :
    CallS Try.prog 3 [.agg #[.slice a n cap, .slice la ln lc], .slice xa xn xc].toArray L (fun v M => v = .bool true ∧ M = L) := by
  subst hn
  subst hl
  subst hxn
  refine CallS.fact (fun h s => RowsR.len (E := intE) (hs := hs) (xss := xss) s) fun hnn => ?_
  have hhl : hs.length = xss.length := rows_len hnn
  refine CallS.ent ?_
  refine CallS.enter Try.func3 rfl rfl rfl rfl rfl ?_
  refine J.seq rfl ?_
  refine J.region rfl ?_
  refine JO.eff rfl rfl rfl (Eff.box (cs := [_, _]) rfl rfl) ?_
  rintro _ _ ⟨b2, rfl, rfl⟩
  refine JO.pur rfl rfl rfl (Pur.assign rfl) ?_
  refine JO.nil ?_
  refine J.seq rfl ?_
  refine J.seq rfl ?_
  refine J.region rfl ?_
  refine JO.pur rfl rfl rfl (Pur.loadA rfl rfl rfl CellsIn.blk) ?_
  refine JO.effR rfl rfl rfl (Eff.call rfl (largeS_ok (rs := rs) (hs := hs) (xss := xss) rfl rfl hb)) ?_
  refine JO.pur rfl rfl rfl (Pur.move rfl) ?_
  refine JO.splitB 15 rfl (fun h15 => ?_) (fun h15 => ?_)
  · try simp only [decide_eq_true_eq, decide_eq_false_iff_not, Bool.not_eq_true', Bool.not_eq_false', Bool.and_eq_true, Bool.or_eq_true, Bool.and_eq_false_iff, Bool.or_eq_false_iff, Option.isNone_some, Option.isSome_some, Option.isNone_none, Option.isSome_none, Int.not_lt, Int.not_le, beq_iff_eq, beq_eq_false_iff_ne, bne_iff_ne, ne_eq, Bool.not_not, Decidable.not_not] at h15
    refine JO.no rfl rfl rfl ?_
    refine JO.no rfl rfl rfl ?_
    refine JO.no rfl rfl rfl ?_
    refine JO.pur rfl rfl rfl (Pur.pickT rfl rfl) ?_
    refine JO.nil ?_
    refine J.condT rfl rfl ?_
    refine J.seq rfl ?_
    refine J.region rfl ?_
    refine JO.effR rfl rfl rfl (Eff.call rfl (first_ok)) ?_
    refine JO.pur rfl rfl rfl (Pur.assign rfl) ?_
    refine JO.nil ?_
    refine J.ret rfl rfl ?_
    refine ⟨_, _, ⟨rfl, rfl⟩, rfl, SubC.out⟩
  · try simp only [decide_eq_true_eq, decide_eq_false_iff_not, Bool.not_eq_true', Bool.not_eq_false', Bool.and_eq_true, Bool.or_eq_true, Bool.and_eq_false_iff, Bool.or_eq_false_iff, Option.isNone_some, Option.isSome_some, Option.isNone_none, Option.isSome_none, Int.not_lt, Int.not_le, beq_iff_eq, beq_eq_false_iff_ne, bne_iff_ne, ne_eq, Bool.not_not, Decidable.not_not] at h15
    refine JO.pur rfl rfl rfl (Pur.move rfl) ?_
    refine JO.pur rfl rfl rfl (Pur.len rfl) ?_
    refine JO.pur rfl rfl rfl (Pur.gtr rfl rfl) ?_
    refine JO.pur rfl rfl rfl (Pur.pickF rfl rfl) ?_
    refine JO.nil ?_
    refine J.splitB 19 rfl (fun h19 => ?_) (fun h19 => ?_)
    · try simp only [decide_eq_true_eq, decide_eq_false_iff_not, Bool.not_eq_true', Bool.not_eq_false', Bool.and_eq_true, Bool.or_eq_true, Bool.and_eq_false_iff, Bool.or_eq_false_iff, Option.isNone_some, Option.isSome_some, Option.isNone_none, Option.isSome_none, Int.not_lt, Int.not_le, beq_iff_eq, beq_eq_false_iff_ne, bne_iff_ne, ne_eq, Bool.not_not, Decidable.not_not] at h19
      refine J.condT rfl rfl ?_
      refine J.seq rfl ?_
      refine J.region rfl ?_
      refine JO.effR rfl rfl rfl (Eff.call rfl (first_ok)) ?_
      refine JO.pur rfl rfl rfl (Pur.assign rfl) ?_
      refine JO.nil ?_
      refine J.ret rfl rfl ?_
      refine ⟨_, _, ⟨rfl, rfl⟩, rfl, SubC.out⟩
    · try simp only [decide_eq_true_eq, decide_eq_false_iff_not, Bool.not_eq_true', Bool.not_eq_false', Bool.and_eq_true, Bool.or_eq_true, Bool.and_eq_false_iff, Bool.or_eq_false_iff, Option.isNone_some, Option.isSome_some, Option.isNone_none, Option.isSome_none, Int.not_lt, Int.not_le, beq_iff_eq, beq_eq_false_iff_ne, bne_iff_ne, ne_eq, Bool.not_not, Decidable.not_not] at h19
      refine J.condF rfl rfl ?_
      refine J.skip rfl ?_
      refine J.seq rfl ?_
      refine J.region rfl ?_
      refine JO.pur rfl rfl rfl (Pur.loadA rfl rfl rfl CellsIn.blk) ?_
      refine JO.pur rfl rfl rfl (Pur.move rfl) ?_
      refine JO.effR rfl rfl rfl (Eff.call rfl (s_Has (rs := rs) (hs := hs) (xss := xss) (x := x) rfl rfl rfl)) ?_
      refine JO.pur rfl rfl rfl (Pur.move rfl) ?_
      refine JO.pur rfl rfl rfl (Pur.extract rfl rfl) ?_
      refine JO.pur rfl rfl rfl (Pur.extract rfl rfl) ?_
      refine JO.pur rfl rfl rfl (Pur.assign rfl) ?_
      refine JO.pur rfl rfl rfl (Pur.assign rfl) ?_
      refine JO.nil ?_
      refine J.seq rfl ?_
      refine J.region rfl ?_
      refine JO.pur rfl rfl rfl (Pur.loadA rfl rfl rfl CellsIn.blk) ?_
      refine JO.pur rfl rfl rfl (Pur.move rfl) ?_
      refine JO.effR rfl rfl rfl (Eff.call rfl (rs_Has (rs := rs) (hs := hs) (xss := xss) (x := x) rfl rfl rfl)) ?_
      refine JO.pur rfl rfl rfl (Pur.move rfl) ?_
      refine JO.pur rfl rfl rfl (Pur.extract rfl rfl) ?_
      refine JO.pur rfl rfl rfl (Pur.extract rfl rfl) ?_
      refine JO.pur rfl rfl rfl (Pur.assign rfl) ?_
      refine JO.pur rfl rfl rfl (Pur.assign rfl) ?_
      refine JO.nil ?_
      refine J.seq rfl ?_
      refine J.region rfl ?_
      refine JO.pur rfl rfl rfl (Pur.loadA rfl rfl rfl CellsIn.blk) ?_
      refine JO.pur rfl rfl rfl (Pur.move rfl) ?_
      refine JO.effR rfl rfl rfl (Eff.call rfl (s_Place (rs := rs) (hs := hs) (xss := xss) (x := x) rfl rfl rfl)) ?_
      refine JO.pur rfl rfl rfl (Pur.move rfl) ?_
      refine JO.pur rfl rfl rfl (Pur.extract rfl rfl) ?_
      refine JO.pur rfl rfl rfl (Pur.extract rfl rfl) ?_
      refine JO.pur rfl rfl rfl (Pur.assign rfl) ?_
      refine JO.pur rfl rfl rfl (Pur.assign rfl) ?_
      refine JO.nil ?_
      refine J.seq rfl ?_
      refine J.region rfl ?_
      refine JO.pur rfl rfl rfl (Pur.loadA rfl rfl rfl CellsIn.blk) ?_
      refine JO.pur rfl rfl rfl (Pur.move rfl) ?_
      refine JO.effR rfl rfl rfl (Eff.call rfl (rs_Place (rs := rs) (hs := hs) (xss := xss) (x := x) rfl rfl rfl)) ?_
      refine JO.pur rfl rfl rfl (Pur.move rfl) ?_
      refine JO.pur rfl rfl rfl (Pur.extract rfl rfl) ?_
      refine JO.pur rfl rfl rfl (Pur.extract rfl rfl) ?_
      refine JO.pur rfl rfl rfl (Pur.assign rfl) ?_
      refine JO.pur rfl rfl rfl (Pur.assign rfl) ?_
      refine JO.nil ?_
      refine J.seq rfl ?_
      refine J.mask0 (n := 29) [] rfl Try.mixed rfl (by kernel_rfl) ?_
      refine JM.take 0 (fun _ h => h) rfl (by kernel_rfl) rfl rfl rfl (m' := 1) rfl (Pur.loadA rfl rfl rfl CellsIn.blk) ?_
      refine JM.take 2 (fun _ h => h) rfl (by kernel_rfl) rfl rfl rfl (m' := 5) rfl (Pur.loadA rfl rfl rfl CellsIn.blk) ?_
      refine JM.one (i := 1) (by kernel_rfl) ?_
      refine JMi.effR (fun _ h => h) rfl rfl rfl rfl (m' := 7) rfl (Eff.call rfl (s_Valid (rs := rs) (hs := hs) (xss := xss) rfl rfl)) ?_
      refine JM.one (i := 3) (by kernel_rfl) ?_
      refine JMi.effR (fun _ h => h) rfl rfl rfl rfl (m' := 15) rfl (Eff.call rfl (rs_Valid (rs := rs) (hs := hs) (xss := xss) rfl rfl)) ?_
      refine JM.take 4 (fun _ h => h) rfl (by kernel_rfl) rfl rfl rfl (m' := 31) rfl (Pur.eqlB rfl rfl) ?_
      refine JM.take 5 (fun _ h => h) rfl (by kernel_rfl) rfl rfl rfl (m' := 63) rfl (Pur.move rfl) ?_
      refine JM.setv (u' := .bool true) 50 rfl (congrArg Value.bool ((by simp))) ?_
      refine JM.take 6 (fun _ h => h) rfl (by kernel_rfl) rfl rfl rfl (m' := 127) rfl (Pur.move rfl) ?_
      refine JM.take 7 (fun _ h => h) rfl (by kernel_rfl) rfl rfl rfl (m' := 255) rfl (Pur.move rfl) ?_
      refine JM.take 8 (fun _ h => h) rfl (by kernel_rfl) rfl rfl rfl (m' := 511) rfl (Pur.eqlB rfl rfl) ?_
      refine JM.take 9 (fun _ h => h) rfl (by kernel_rfl) rfl rfl rfl (m' := 1023) rfl (Pur.pickT rfl rfl) ?_
      refine JM.take 10 (fun _ h => h) rfl (by kernel_rfl) rfl rfl rfl (m' := 2047) rfl (Pur.move rfl) ?_
      refine JM.setv (u' := .bool true) 55 rfl (congrArg Value.bool ((by simp))) ?_
      refine JM.take 11 (fun _ h => h) rfl (by kernel_rfl) rfl rfl rfl (m' := 4095) rfl (Pur.move rfl) ?_
      refine JM.take 12 (fun _ h => h) rfl (by kernel_rfl) rfl rfl rfl (m' := 8191) rfl (Pur.move rfl) ?_
      refine JM.take 13 (fun _ h => h) rfl (by kernel_rfl) rfl rfl rfl (m' := 16383) rfl (Pur.eqlI rfl rfl) ?_
      refine JM.take 14 (fun _ h => h) rfl (by kernel_rfl) rfl rfl rfl (m' := 32767) rfl (Pur.pickT rfl rfl) ?_
      refine JM.take 15 (fun _ h => h) rfl (by kernel_rfl) rfl rfl rfl (m' := 65535) rfl (Pur.move rfl) ?_
      refine JM.setv (u' := .bool true) 60 rfl (congrArg Value.bool (decide_eq_true rfl)) ?_
      refine JM.take 16 (fun _ h => h) rfl (by kernel_rfl) rfl rfl rfl (m' := 131071) rfl (Pur.move rfl) ?_
      refine JM.take 17 (fun _ h => h) rfl (by kernel_rfl) rfl rfl rfl (m' := 262143) rfl (Pur.move rfl) ?_
      refine JM.take 18 (fun _ h => h) rfl (by kernel_rfl) rfl rfl rfl (m' := 524287) rfl (Pur.eqlI rfl rfl) ?_
      refine JM.take 19 (fun _ h => h) rfl (by kernel_rfl) rfl rfl rfl (m' := 1048575) rfl (Pur.pickT rfl rfl) ?_
      refine JM.take 20 (fun _ h => h) rfl (by kernel_rfl) rfl rfl rfl (m' := 2097151) rfl (Pur.move rfl) ?_
      refine JM.setv (u' := .bool true) 65 rfl (congrArg Value.bool (decide_eq_true rfl)) ?_
      refine JM.take 21 (fun _ h => h) rfl (by kernel_rfl) rfl rfl rfl (m' := 4194303) rfl (Pur.move rfl) ?_
      refine JM.take 22 (fun _ h => h) rfl (by kernel_rfl) rfl rfl rfl (m' := 8388607) rfl (Pur.move rfl) ?_
      refine JM.take 23 (fun _ h => h) rfl (by kernel_rfl) rfl rfl rfl (m' := 16777215) rfl (Pur.eqlI rfl rfl) ?_
      refine JM.take 24 (fun _ h => h) rfl (by kernel_rfl) rfl rfl rfl (m' := 33554431) rfl (Pur.pickT rfl rfl) ?_
      refine JM.take 25 (fun _ h => h) rfl (by kernel_rfl) rfl rfl rfl (m' := 67108863) rfl (Pur.move rfl) ?_
      refine JM.setv (u' := .bool true) 70 rfl (congrArg Value.bool (decide_eq_true rfl)) ?_
      refine JM.one (i := 26) (by kernel_rfl) ?_
      refine JMi.effR (fun _ h => h) rfl rfl rfl rfl (m' := 134217727) rfl (Eff.call rfl (first_ok)) ?_
      refine JM.take 27 (fun _ h => h) rfl (by kernel_rfl) rfl rfl rfl (m' := 268435455) rfl (Pur.pickT rfl rfl) ?_
      refine JM.take 28 (fun _ h => h) rfl (by kernel_rfl) rfl rfl rfl (m' := 536870911) rfl (Pur.assign rfl) ?_
      refine JM.done rfl ?_
      refine J.ret rfl rfl ?_
      refine ⟨_, _, ⟨rfl, rfl⟩, rfl, SubC.out⟩

end Go.Proofs.Ytnhippfllgnngaa

/- The text SG2. -/
/-! A range that is given. -/
set_option linter.unusedVariables false
set_option linter.unusedSimpArgs false
namespace Go.Proofs.Ytnhippfllgnngaa
open Go Go.KK Dm Go.ChangeShapes Go.WideShapes Go.ChangeAt Go.RowKit Go.Deep
theorem trod_rgS {H : Type} {enc : TypeId × Value → H} {w : World} {base : Nat} {spare : Nat → Bool} {held : Bool} {fuel : Nat} {cs : List Value} {x : DataW H × List MemPlace} (h : DataW.trod enc Try.prog w base spare held fuel 93 cs = some x) : ∃ g : Rg, rgE.enc g = cs := by
  obtain ⟨ys, hx, hl, hxl, hff⟩ := open_cells Try.underlying93 (hone_of (by kernel_rfl)) (by kernel_rfl) h
  obtain ⟨c0, c1, c2, rfl⟩ := len3 hl
  obtain ⟨y0, y1, y2, rfl⟩ := len3 hxl
  obtain ⟨n0, h0⟩ := hff 0 _ _ _ rfl rfl rfl
  obtain ⟨n1, h1⟩ := hff 1 _ _ _ rfl rfl rfl
  obtain ⟨n2, h2⟩ := hff 2 _ _ _ rfl rfl rfl
  obtain ⟨a, ea, _⟩ := cell_int Try.underlying3 h0
  obtain ⟨b, eb, _⟩ := cell_int Try.underlying3 h1
  obtain ⟨c, ec, _⟩ := cell_int Try.underlying3 h2
  subst ea; subst eb; subst ec
  exact ⟨⟨a, b, c⟩, rfl⟩
end Go.Proofs.Ytnhippfllgnngaa
