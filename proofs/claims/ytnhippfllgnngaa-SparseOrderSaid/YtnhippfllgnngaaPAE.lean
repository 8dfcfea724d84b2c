/-
  A part of the proof of the claim that this folder bears.
-/
import Derived.Test.YtnhippfllgnngaaPAD
import Derived.Test.YtnhippfllgnngaaPAA
/- The text SH1. -/
set_option linter.unusedVariables false
set_option linter.unusedSimpArgs false
set_option maxRecDepth 10000
namespace Go.Proofs.Ytnhippfllgnngaa
open Go Go.KK Dm

instance : IntT Try.prog 3 .i64 := ⟨Try.underlying3⟩
instance : IntT Try.prog 154 .u64 := ⟨Try.underlying154⟩
def cmpZ (a b : Int) : Int := if a < b then -1 else if b < a then 1 else 0
theorem getD_of' {α : Type} {l : List α} {k : Nat} {x d : α} (h : l[k]? = some x) : l.getD k d = x := by rw [List.getD_eq_getElem?_getD, h]; rfl
theorem isNaN_ok {L : List Asn} {z : Int} :
    CallS Try.prog 169 [.int .i64 z].toArray L (fun v M => v = .bool false ∧ M = L) := by
  refine CallS.ent ?_
  refine CallS.enter Try.func169 rfl rfl rfl rfl rfl ?_
  refine J.seq rfl ?_
  refine J.region rfl ?_
  refine JO.pur rfl rfl rfl (Pur.assign rfl) ?_
  refine JO.nil ?_
  refine J.seq rfl ?_
  refine J.region rfl ?_
  refine JO.pur rfl rfl rfl (Pur.move rfl) ?_
  refine JO.pur rfl rfl rfl (Pur.move rfl) ?_
  refine JO.pur rfl rfl rfl (Pur.neqI rfl rfl) ?_
  refine JO.pur rfl rfl rfl (Pur.assign rfl) ?_
  refine JO.nil ?_
  refine J.ret rfl rfl ?_
  refine ⟨_, _, ⟨rfl, rfl⟩, congrArg Value.bool (by simp), SubC.out⟩

theorem cmp_ok {L : List Asn} {x y : Int} :
    CallS Try.prog 141 [.int .i64 x, .int .i64 y].toArray L (fun v M => v = .int .i64 (cmpZ x y) ∧ M = L) := by
  refine CallS.ent ?_
  refine CallS.enter Try.func141 rfl rfl rfl rfl rfl ?_
  refine J.seq rfl ?_
  refine J.region rfl ?_
  refine JO.pur rfl rfl rfl (Pur.assign rfl) ?_
  refine JO.nil ?_
  refine J.seq rfl ?_
  refine J.region rfl ?_
  refine JO.pur rfl rfl rfl (Pur.move rfl) ?_
  refine JO.effR rfl rfl rfl (Eff.call rfl (isNaN_ok)) ?_
  refine JO.setv (u' := .bool false) 8 rfl (congrArg Value.bool (rfl)) ?_
  refine JO.pur rfl rfl rfl (Pur.assign rfl) ?_
  refine JO.nil ?_
  refine J.seq rfl ?_
  refine J.region rfl ?_
  refine JO.pur rfl rfl rfl (Pur.move rfl) ?_
  refine JO.effR rfl rfl rfl (Eff.call rfl (isNaN_ok)) ?_
  refine JO.setv (u' := .bool false) 10 rfl (congrArg Value.bool (rfl)) ?_
  refine JO.pur rfl rfl rfl (Pur.assign rfl) ?_
  refine JO.nil ?_
  refine J.seq rfl ?_
  refine J.seq rfl ?_
  refine J.region rfl ?_
  refine JO.pur rfl rfl rfl (Pur.move rfl) ?_
  refine JO.nil ?_
  refine J.condF rfl rfl ?_
  refine J.skip rfl ?_
  refine J.seq rfl ?_
  refine J.seq rfl ?_
  refine J.region rfl ?_
  refine JO.pur rfl rfl rfl (Pur.move rfl) ?_
  refine JO.nil ?_
  refine J.condF rfl rfl ?_
  refine J.skip rfl ?_
  refine J.seq rfl ?_
  refine J.seq rfl ?_
  refine J.region rfl ?_
  refine JO.pur rfl rfl rfl (Pur.move rfl) ?_
  refine JO.pur rfl rfl rfl (Pur.move rfl) ?_
  refine JO.pur rfl rfl rfl (Pur.lss rfl rfl) ?_
  refine JO.nil ?_
  refine J.splitB 16 rfl (fun h16 => ?_) (fun h16 => ?_)
  · try simp only [decide_eq_true_eq, decide_eq_false_iff_not, Bool.not_eq_true', Bool.not_eq_false', Bool.and_eq_true, Bool.or_eq_true, Bool.and_eq_false_iff, Bool.or_eq_false_iff, Option.isNone_some, Option.isSome_some, Option.isNone_none, Option.isSome_none, Int.not_lt, Int.not_le, beq_iff_eq, beq_eq_false_iff_ne, bne_iff_ne, ne_eq, Bool.not_not, Decidable.not_not] at h16
    refine J.condT rfl rfl ?_
    refine J.seq rfl ?_
    refine J.region rfl ?_
    refine JO.pur rfl rfl rfl (Pur.assign rfl) ?_
    refine JO.nil ?_
    refine J.ret rfl rfl ?_
    refine ⟨_, _, ⟨rfl, rfl⟩, congrArg (Value.int .i64) (by unfold cmpZ; first | rw [if_pos (by omega)] | rw [if_neg (by omega), if_pos (by omega)] | rw [if_neg (by omega), if_neg (by omega)]), SubC.out⟩
  · try simp only [decide_eq_true_eq, decide_eq_false_iff_not, Bool.not_eq_true', Bool.not_eq_false', Bool.and_eq_true, Bool.or_eq_true, Bool.and_eq_false_iff, Bool.or_eq_false_iff, Option.isNone_some, Option.isSome_some, Option.isNone_none, Option.isSome_none, Int.not_lt, Int.not_le, beq_iff_eq, beq_eq_false_iff_ne, bne_iff_ne, ne_eq, Bool.not_not, Decidable.not_not] at h16
    refine J.condF rfl rfl ?_
    refine J.skip rfl ?_
    refine J.seq rfl ?_
    refine J.seq rfl ?_
    refine J.region rfl ?_
    refine JO.pur rfl rfl rfl (Pur.move rfl) ?_
    refine JO.pur rfl rfl rfl (Pur.move rfl) ?_
    refine JO.pur rfl rfl rfl (Pur.gtr rfl rfl) ?_
    refine JO.nil ?_
    refine J.splitB 19 rfl (fun h19 => ?_) (fun h19 => ?_)
    · try simp only [decide_eq_true_eq, decide_eq_false_iff_not, Bool.not_eq_true', Bool.not_eq_false', Bool.and_eq_true, Bool.or_eq_true, Bool.and_eq_false_iff, Bool.or_eq_false_iff, Option.isNone_some, Option.isSome_some, Option.isNone_none, Option.isSome_none, Int.not_lt, Int.not_le, beq_iff_eq, beq_eq_false_iff_ne, bne_iff_ne, ne_eq, Bool.not_not, Decidable.not_not] at h19
      refine J.condT rfl rfl ?_
      refine J.seq rfl ?_
      refine J.region rfl ?_
      refine JO.pur rfl rfl rfl (Pur.assign rfl) ?_
      refine JO.nil ?_
      refine J.ret rfl rfl ?_
      refine ⟨_, _, ⟨rfl, rfl⟩, congrArg (Value.int .i64) (by unfold cmpZ; first | rw [if_pos (by omega)] | rw [if_neg (by omega), if_pos (by omega)] | rw [if_neg (by omega), if_neg (by omega)]), SubC.out⟩
    · try simp only [decide_eq_true_eq, decide_eq_false_iff_not, Bool.not_eq_true', Bool.not_eq_false', Bool.and_eq_true, Bool.or_eq_true, Bool.and_eq_false_iff, Bool.or_eq_false_iff, Option.isNone_some, Option.isSome_some, Option.isNone_none, Option.isSome_none, Int.not_lt, Int.not_le, beq_iff_eq, beq_eq_false_iff_ne, bne_iff_ne, ne_eq, Bool.not_not, Decidable.not_not] at h19
      refine J.condF rfl rfl ?_
      refine J.skip rfl ?_
      refine J.seq rfl ?_
      refine J.region rfl ?_
      refine JO.pur rfl rfl rfl (Pur.assign rfl) ?_
      refine JO.nil ?_
      refine J.ret rfl rfl ?_
      refine ⟨_, _, ⟨rfl, rfl⟩, congrArg (Value.int .i64) (by unfold cmpZ; first | rw [if_pos (by omega)] | rw [if_neg (by omega), if_pos (by omega)] | rw [if_neg (by omega), if_neg (by omega)]), SubC.out⟩

theorem s_Valid {L : List Asn} {a la : Option Addr} {n cap ln lc : Nat} {rs : List Rg} {hs : List Hdr} {xss : List (List Int)} [SlIn rgE L a rs] [SlIn hE L la hs] [RowsR intE L hs xss] (hn : n = rs.length) (hl : ln = hs.length) :
    CallS Try.prog 26 [.agg #[.slice a n cap, .slice la ln lc]].toArray L (fun v M => v = .bool (decide (okS rs xss)) ∧ M = L) := by
  subst hn
  subst hl
  refine CallS.fact (fun h s => RowsR.len (E := intE) (hs := hs) (xss := xss) s) fun hnn => ?_
  have hhl : hs.length = xss.length := rows_len hnn
  refine CallS.ent ?_
  refine CallS.enter Try.func26 rfl rfl rfl rfl rfl ?_
  refine J.seq rfl ?_
  refine J.region rfl ?_
  refine JO.eff rfl rfl rfl (Eff.box (cs := [_, _]) rfl rfl) ?_
  rintro _ _ ⟨b1, rfl, rfl⟩
  refine JO.pur rfl rfl rfl (Pur.assign rfl) ?_
  refine JO.nil ?_
  refine J.seq rfl ?_
  refine J.seq rfl ?_
  refine J.region rfl ?_
  refine JO.pur rfl rfl rfl (Pur.fieldAddr rfl) ?_
  refine JO.pur rfl rfl rfl (Pur.loadA rfl rfl rfl (CellsIn.sub1 rfl)) ?_
  refine JO.effR rfl rfl rfl (Eff.call rfl (d_Valid (rs := rs) rfl)) ?_
  refine JO.pur rfl rfl rfl (Pur.not rfl) ?_
  refine JO.pur rfl rfl rfl (Pur.move rfl) ?_
  refine JO.splitB 12 rfl (fun h12 => ?_) (fun h12 => ?_)
  · try simp only [decide_eq_true_eq, decide_eq_false_iff_not, Bool.not_eq_true', Bool.not_eq_false', Bool.and_eq_true, Bool.or_eq_true, Bool.and_eq_false_iff, Bool.or_eq_false_iff, Option.isNone_some, Option.isSome_some, Option.isNone_none, Option.isSome_none, Int.not_lt, Int.not_le, beq_iff_eq, beq_eq_false_iff_ne, bne_iff_ne, ne_eq, Bool.not_not, Decidable.not_not] at h12
    refine JO.no rfl rfl rfl ?_
    refine JO.no rfl rfl rfl ?_
    refine JO.no rfl rfl rfl ?_
    refine JO.no rfl rfl rfl ?_
    refine JO.pur rfl rfl rfl (Pur.pickT rfl rfl) ?_
    refine JO.nil ?_
    refine J.condT rfl rfl ?_
    refine J.seq rfl ?_
    refine J.region rfl ?_
    refine JO.pur rfl rfl rfl (Pur.assign rfl) ?_
    refine JO.nil ?_
    refine J.ret rfl rfl ?_
    refine ⟨_, _, ⟨rfl, rfl⟩, congrArg Value.bool ((decide_eq_false (fun g => h12 g.1)).symm), SubC.out⟩
  · try simp only [decide_eq_true_eq, decide_eq_false_iff_not, Bool.not_eq_true', Bool.not_eq_false', Bool.and_eq_true, Bool.or_eq_true, Bool.and_eq_false_iff, Bool.or_eq_false_iff, Option.isNone_some, Option.isSome_some, Option.isNone_none, Option.isSome_none, Int.not_lt, Int.not_le, beq_iff_eq, beq_eq_false_iff_ne, bne_iff_ne, ne_eq, Bool.not_not, Decidable.not_not] at h12
    have hgd : okD rs := h12
    refine JO.pur rfl rfl rfl (Pur.fieldAddr rfl) ?_
    refine JO.pur rfl rfl rfl (Pur.load rfl (CellIn.blk rfl)) ?_
    refine JO.pur rfl rfl rfl (Pur.len rfl) ?_
    refine JO.pur rfl rfl rfl (Pur.gtr rfl rfl) ?_
    refine JO.pur rfl rfl rfl (Pur.pickF rfl rfl) ?_
    refine JO.nil ?_
    refine J.splitB 17 rfl (fun h17 => ?_) (fun h17 => ?_)
    · try simp only [decide_eq_true_eq, decide_eq_false_iff_not, Bool.not_eq_true', Bool.not_eq_false', Bool.and_eq_true, Bool.or_eq_true, Bool.and_eq_false_iff, Bool.or_eq_false_iff, Option.isNone_some, Option.isSome_some, Option.isNone_none, Option.isSome_none, Int.not_lt, Int.not_le, beq_iff_eq, beq_eq_false_iff_ne, bne_iff_ne, ne_eq, Bool.not_not, Decidable.not_not] at h17
      refine J.condT rfl rfl ?_
      refine J.seq rfl ?_
      refine J.region rfl ?_
      refine JO.pur rfl rfl rfl (Pur.assign rfl) ?_
      refine JO.nil ?_
      refine J.ret rfl rfl ?_
      refine ⟨_, _, ⟨rfl, rfl⟩, congrArg Value.bool ((decide_eq_false (fun g => by have := g.2.1; omega)).symm), SubC.out⟩
    · try simp only [decide_eq_true_eq, decide_eq_false_iff_not, Bool.not_eq_true', Bool.not_eq_false', Bool.and_eq_true, Bool.or_eq_true, Bool.and_eq_false_iff, Bool.or_eq_false_iff, Option.isNone_some, Option.isSome_some, Option.isNone_none, Option.isSome_none, Int.not_lt, Int.not_le, beq_iff_eq, beq_eq_false_iff_ne, bne_iff_ne, ne_eq, Bool.not_not, Decidable.not_not] at h17
      have hlb : xss.length ≤ 400 := by omega
      refine J.condF rfl rfl ?_
      refine J.skip rfl ?_
      refine J.seq rfl ?_
      refine J.region rfl ?_
      refine JO.pur rfl rfl rfl (Pur.assign rfl) ?_
      refine JO.nil ?_
      refine J.seq rfl ?_
      refine J.seq rfl ?_
      refine J.region rfl ?_
      refine JO.pur rfl rfl rfl (Pur.fieldAddr rfl) ?_
      refine JO.pur rfl rfl rfl (Pur.load rfl (CellIn.blk rfl)) ?_
      refine JO.pur rfl rfl rfl (Pur.len rfl) ?_
      refine JO.pur rfl rfl rfl (Pur.move rfl) ?_
      refine JO.nil ?_
      refine J.block rfl ?_
      refine J.loopF (ι := Nat) (fun q => q ≤ xss.length ∧ ∀ j, j < q → stepS rs xss j) (fun q => [(3, .int .i64 (lastS rs xss q)), (21, .int .i64 (q : Int))]) [(1, _), (19, _), (20, _)] (fun q => blk b1 (.cells #[.slice a rs.length cap, .slice la hs.length lc] 27) :: L) (fun q => xss.length - q) 0 rfl (.cons rfl rfl (.cons rfl rfl (.cons rfl rfl .nil))) (.cons rfl rfl (.cons rfl rfl .nil)) (by first | exact fun _ h => h | exact SubC.out | (dsimp only; exact SubC.out)) ⟨Nat.zero_le _, fun j hj => absurd hj (Nat.not_lt_zero j)⟩ ?_
      rintro k ⟨hk, hok⟩ ihk
      try dsimp only
      refine J.seq rfl ?_
      refine J.region rfl ?_
      refine JO.pur rfl rfl rfl (Pur.lss rfl rfl) ?_
      refine JO.nil ?_
      refine J.seq rfl ?_
      refine J.splitB 22 rfl (fun h22 => ?_) (fun h22 => ?_)
      · try simp only [decide_eq_true_eq, decide_eq_false_iff_not, Bool.not_eq_true', Bool.not_eq_false', Bool.and_eq_true, Bool.or_eq_true, Bool.and_eq_false_iff, Bool.or_eq_false_iff, Option.isNone_some, Option.isSome_some, Option.isNone_none, Option.isSome_none, Int.not_lt, Int.not_le, beq_iff_eq, beq_eq_false_iff_ne, bne_iff_ne, ne_eq, Bool.not_not, Decidable.not_not] at h22
        have hkl : k < xss.length := by omega
        obtain ⟨x, hX⟩ : ∃ x, xss[k]? = some x := ⟨_, List.getElem?_eq_getElem (by omega)⟩
        obtain ⟨hd, hH⟩ : ∃ hd, hs[k]? = some hd := ⟨_, List.getElem?_eq_getElem (by omega)⟩
        have hdn := hdr_n hnn hH hX
        have hxm := List.mem_of_getElem? hX
        have hxg : xss.getD k [] = x := getD_of' hX
        obtain ⟨hp1, hp2⟩ := plV_ok hgd x
        refine J.condT rfl rfl ?_
        refine J.skip rfl ?_
        refine J.seq rfl ?_
        refine J.block rfl ?_
        refine J.seq rfl ?_
        refine J.region rfl ?_
        refine JO.pur rfl rfl rfl (Pur.idx rfl rfl rfl (by first | rfl | (simp; done) | omega) rfl (by omega)) ?_
        refine JO.pur rfl rfl rfl (Pur.load rfl (CellIn.el0 rfl hH rfl)) ?_
        refine JO.setv (u' := .slice hd.a hd.n hd.cap) 24 rfl rfl ?_
        refine JO.pur rfl rfl rfl (Pur.assign rfl) ?_
        refine JO.nil ?_
        refine J.seq rfl ?_
        refine J.region rfl ?_
        refine JO.pur rfl rfl rfl (Pur.fieldAddr rfl) ?_
        refine JO.pur rfl rfl rfl (Pur.loadA rfl rfl rfl (CellsIn.sub1 rfl)) ?_
        refine JO.pur rfl rfl rfl (Pur.move rfl) ?_
        refine JO.effR rfl rfl rfl (Eff.call rfl (@d_Place _ _ _ _ _ _ _ rs x inferInstance (RowsR.row (E := intE) inferInstance hH hX) rfl hdn)) ?_
        refine JO.pur rfl rfl rfl (Pur.move rfl) ?_
        refine JO.pur rfl rfl rfl (Pur.extract rfl rfl) ?_
        refine JO.setv (u' := .int .i64 (plV rs x).1) 30 rfl rfl ?_
        refine JO.pur rfl rfl rfl (Pur.extract rfl rfl) ?_
        refine JO.setv (u' := .int .i64 (plV rs x).2) 31 rfl rfl ?_
        refine JO.pur rfl rfl rfl (Pur.assign rfl) ?_
        refine JO.pur rfl rfl rfl (Pur.assign rfl) ?_
        refine JO.nil ?_
        refine J.seq rfl ?_
        refine J.seq rfl ?_
        refine J.region rfl ?_
        refine JO.pur rfl rfl rfl (Pur.move rfl) ?_
        refine JO.pur rfl rfl rfl (Pur.neqI rfl rfl) ?_
        refine JO.pur rfl rfl rfl (Pur.move rfl) ?_
        refine JO.splitB 34 rfl (fun h34 => ?_) (fun h34 => ?_)
        · try simp only [decide_eq_true_eq, decide_eq_false_iff_not, Bool.not_eq_true', Bool.not_eq_false', Bool.and_eq_true, Bool.or_eq_true, Bool.and_eq_false_iff, Bool.or_eq_false_iff, Option.isNone_some, Option.isSome_some, Option.isNone_none, Option.isSome_none, Int.not_lt, Int.not_le, beq_iff_eq, beq_eq_false_iff_ne, bne_iff_ne, ne_eq, Bool.not_not, Decidable.not_not] at h34
          have hbad : ¬ okS rs xss := fun g => h34 (hp1.2 (by have := (g.2.2 k hkl).1; rwa [hxg] at this))
          refine JO.no rfl rfl rfl ?_
          refine JO.no rfl rfl rfl ?_
          refine JO.no rfl rfl rfl ?_
          refine JO.pur rfl rfl rfl (Pur.pickT rfl rfl) ?_
          refine JO.nil ?_
          refine J.condT rfl rfl ?_
          refine J.seq rfl ?_
          refine J.region rfl ?_
          refine JO.pur rfl rfl rfl (Pur.assign rfl) ?_
          refine JO.nil ?_
          refine J.ret rfl rfl ?_
          refine ⟨_, _, ⟨rfl, rfl⟩, congrArg Value.bool ((decide_eq_false hbad).symm), SubC.out⟩
        · try simp only [decide_eq_true_eq, decide_eq_false_iff_not, Bool.not_eq_true', Bool.not_eq_false', Bool.and_eq_true, Bool.or_eq_true, Bool.and_eq_false_iff, Bool.or_eq_false_iff, Option.isNone_some, Option.isSome_some, Option.isNone_none, Option.isSome_none, Int.not_lt, Int.not_le, beq_iff_eq, beq_eq_false_iff_ne, bne_iff_ne, ne_eq, Bool.not_not, Decidable.not_not] at h34
          have hsome := hp1.1 h34
          have hpv := hp2 hsome
          refine JO.pur rfl rfl rfl (Pur.move rfl) ?_
          refine JO.pur rfl rfl rfl (Pur.move rfl) ?_
          refine JO.pur rfl rfl rfl (Pur.leq rfl rfl) ?_
          refine JO.pur rfl rfl rfl (Pur.pickF rfl rfl) ?_
          refine JO.nil ?_
          refine J.splitB 38 rfl (fun h38 => ?_) (fun h38 => ?_)
          · try simp only [decide_eq_true_eq, decide_eq_false_iff_not, Bool.not_eq_true', Bool.not_eq_false', Bool.and_eq_true, Bool.or_eq_true, Bool.and_eq_false_iff, Bool.or_eq_false_iff, Option.isNone_some, Option.isSome_some, Option.isNone_none, Option.isSome_none, Int.not_lt, Int.not_le, beq_iff_eq, beq_eq_false_iff_ne, bne_iff_ne, ne_eq, Bool.not_not, Decidable.not_not] at h38
            have hbad : ¬ okS rs xss := fun g => by have := (g.2.2 k hkl).2; rw [hxg] at this; rw [hpv] at h38; exact absurd h38 (Int.not_le.2 this)
            refine J.condT rfl rfl ?_
            refine J.seq rfl ?_
            refine J.region rfl ?_
            refine JO.pur rfl rfl rfl (Pur.assign rfl) ?_
            refine JO.nil ?_
            refine J.ret rfl rfl ?_
            refine ⟨_, _, ⟨rfl, rfl⟩, congrArg Value.bool ((decide_eq_false hbad).symm), SubC.out⟩
          · try simp only [decide_eq_true_eq, decide_eq_false_iff_not, Bool.not_eq_true', Bool.not_eq_false', Bool.and_eq_true, Bool.or_eq_true, Bool.and_eq_false_iff, Bool.or_eq_false_iff, Option.isNone_some, Option.isSome_some, Option.isNone_none, Option.isSome_none, Int.not_lt, Int.not_le, beq_iff_eq, beq_eq_false_iff_ne, bne_iff_ne, ne_eq, Bool.not_not, Decidable.not_not] at h38
            have hlt : lastS rs xss k < atS rs x := by rw [hpv] at h38; exact h38
            have hok2 : ∀ j, j < k + 1 → stepS rs xss j := fun j hj => by
              rcases Nat.lt_or_ge j k with h | h
              · exact hok j h
              · obtain rfl : j = k := by omega
                exact ⟨by rw [hxg]; exact hsome, by rw [hxg]; exact hlt⟩
            have hls : (plV rs x).1 = lastS rs xss (k + 1) := by unfold lastS; rw [if_neg (by omega), Nat.add_sub_cancel, hxg, hpv]
            refine J.condF rfl rfl ?_
            refine J.skip rfl ?_
            refine J.region rfl ?_
            refine JO.pur rfl rfl rfl (Pur.move rfl) ?_
            refine JO.pur rfl rfl rfl (Pur.assign rfl) ?_
            refine JO.nil ?_
            refine J.inBlock ?_
            refine J.region rfl ?_
            refine JO.pur rfl rfl rfl (Pur.add rfl rfl (wr64 (by omega))) ?_
            refine JO.pur rfl rfl rfl (Pur.move rfl) ?_
            refine JO.nil ?_
            exact J.weaken (.cons rfl (congrArg (Value.int .i64) hls) (.cons rfl (congrArg (Value.int .i64) (by first | rfl | (dsimp only; omega))) (.cons rfl rfl (.cons rfl rfl (.cons rfl rfl .nil))))) (by first | exact fun _ h => h | exact SubC.out | (dsimp only; exact SubC.out)) (ihk (k + 1) ⟨by omega, hok2⟩ (by omega))
      · try simp only [decide_eq_true_eq, decide_eq_false_iff_not, Bool.not_eq_true', Bool.not_eq_false', Bool.and_eq_true, Bool.or_eq_true, Bool.and_eq_false_iff, Bool.or_eq_false_iff, Option.isNone_some, Option.isSome_some, Option.isNone_none, Option.isSome_none, Int.not_lt, Int.not_le, beq_iff_eq, beq_eq_false_iff_ne, bne_iff_ne, ne_eq, Bool.not_not, Decidable.not_not] at h22
        refine J.condF rfl rfl ?_
        refine J.exit rfl rfl ?_
        refine J.seq rfl ?_
        refine J.region rfl ?_
        refine JO.pur rfl rfl rfl (Pur.assign rfl) ?_
        refine JO.nil ?_
        refine J.ret rfl rfl ?_
        refine ⟨_, _, ⟨rfl, rfl⟩, congrArg Value.bool ((decide_eq_true ⟨hgd, hlb, fun j hj => hok j (by omega)⟩).symm), SubC.out⟩

end Go.Proofs.Ytnhippfllgnngaa

/- The text SpPlainA. -/
set_option linter.unusedVariables false
set_option linter.unusedSimpArgs false
namespace Go.Proofs.Ytnhippfllgnngaa
section
variable {ε : Type}
theorem set_mid (X : List ε) (u v : ε) (Y : List ε) : (X ++ u :: Y).set X.length v = X ++ v :: Y := by
  rw [List.set_append_right _ _ (Nat.le_refl _), Nat.sub_self]; rfl
theorem set_mid2 {X Y Z : List ε} {u v : ε} {i j : Nat} (hi : i = X.length) (hj : j = X.length + 1 + Y.length) : ((X ++ u :: (Y ++ v :: Z)).set i v).set j u = X ++ v :: (Y ++ u :: Z) := by
  subst hi
  subst hj
  have e1 : X ++ v :: (Y ++ v :: Z) = (X ++ v :: Y) ++ v :: Z := by simp
  rw [set_mid, e1, show X.length + 1 + Y.length = (X ++ v :: Y).length by simp; omega, set_mid]; simp
theorem get_mid (X : List ε) (u : ε) (Y : List ε) {i : Nat} (hi : i = X.length) : (X ++ u :: Y)[i]? = some u := by subst hi; simp
theorem split_at {l : List ε} {i : Nat} (h : i < l.length) : ∃ l1 u l2, l = l1 ++ u :: l2 ∧ l1.length = i :=
  ⟨l.take i, l[i], l.drop (i + 1), by rw [← List.drop_eq_getElem_cons h, List.take_append_drop], by rw [List.length_take]; omega⟩
theorem split_len {l : List ε} {j : Nat} (h : j ≤ l.length) : ∃ l1 l2, l = l1 ++ l2 ∧ l1.length = j :=
  ⟨l.take j, l.drop j, (List.take_append_drop j l).symm, by rw [List.length_take]; omega⟩
/-- Two parts of a list, exchanged up to a place. -/
def swpd (P A M B S : List ε) (i : Nat) : List ε := P ++ (B.take i ++ A.drop i) ++ M ++ (A.take i ++ B.drop i) ++ S
theorem swpd_zero (P A M B S : List ε) : swpd P A M B S 0 = P ++ A ++ M ++ B ++ S := by simp [swpd]
theorem swpd_end {P A M B S : List ε} {n : Nat} (hA : A.length = n) (hB : B.length = n) : swpd P A M B S n = P ++ B ++ M ++ A ++ S := by
  unfold swpd
  rw [List.take_of_length_le (by omega), List.take_of_length_le (by omega), List.drop_of_length_le (by omega), List.drop_of_length_le (by omega)]; simp
theorem swpd_len {P A M B S : List ε} (h : A.length = B.length) (i : Nat) : (swpd P A M B S i).length = P.length + A.length + M.length + B.length + S.length := by
  unfold swpd; simp only [List.length_append, List.length_take, List.length_drop]; omega
theorem take_left1 {l1 : List ε} {u : ε} {l2 : List ε} {i : Nat} (h : l1.length = i) : (l1 ++ u :: l2).take (i + 1) = l1 ++ [u] := by
  rw [show l1 ++ u :: l2 = (l1 ++ [u]) ++ l2 by simp]; exact List.take_left' (by simp [h])
theorem drop_left1 {l1 : List ε} {u : ε} {l2 : List ε} {i : Nat} (h : l1.length = i) : (l1 ++ u :: l2).drop (i + 1) = l2 := by
  rw [show l1 ++ u :: l2 = (l1 ++ [u]) ++ l2 by simp]; exact List.drop_left' (by simp [h])
theorem swpd_step {P A M B S : List ε} {i : Nat} (h : A.length = B.length) (hi : i < A.length) : ∃ u v, (swpd P A M B S i)[P.length + i]? = some u ∧ (swpd P A M B S i)[P.length + A.length + M.length + i]? = some v ∧ ((swpd P A M B S i).set (P.length + i) v).set (P.length + A.length + M.length + i) u = swpd P A M B S (i + 1) := by
  obtain ⟨A1, u, A2, rfl, hA⟩ := split_at hi
  obtain ⟨B1, v, B2, rfl, hB⟩ := split_at (l := B) (i := i) (by omega)
  have e0 : swpd P (A1 ++ u :: A2) M (B1 ++ v :: B2) S i = (P ++ B1) ++ u :: ((A2 ++ M ++ A1) ++ v :: (B2 ++ S)) := by
    unfold swpd; rw [List.take_left' hA, List.take_left' hB, List.drop_left' hA, List.drop_left' hB]; simp
  have e1 : swpd P (A1 ++ u :: A2) M (B1 ++ v :: B2) S (i + 1) = (P ++ B1) ++ v :: ((A2 ++ M ++ A1) ++ u :: (B2 ++ S)) := by
    unfold swpd; rw [take_left1 hA, take_left1 hB, drop_left1 hA, drop_left1 hB]; simp
  refine ⟨u, v, ?_, ?_, ?_⟩
  · rw [e0]; exact get_mid _ _ _ (by simp; omega)
  · rw [e0, show (P ++ B1) ++ u :: ((A2 ++ M ++ A1) ++ v :: (B2 ++ S)) = ((P ++ B1) ++ u :: (A2 ++ M ++ A1)) ++ v :: (B2 ++ S) by simp]; exact get_mid _ _ _ (by simp; omega)
  · rw [e0, e1]; exact set_mid2 (by simp; omega) (by simp; omega)
variable (ky : ε → Int)
def srtd (xs : List ε) : Prop := xs.Pairwise fun x y => ky x ≤ ky y
/-- The key at a place. -/
def kA (xs : List ε) (i : Nat) : Int := ((xs[i]?).map ky).getD 0
variable {ky}
theorem kA_of {xs : List ε} {i : Nat} {e : ε} (h : xs[i]? = some e) : kA ky xs i = ky e := by unfold kA; rw [h]; rfl
theorem ins_done {L1 R1 T : List ε} {x : ε} (h1 : (L1 ++ R1).Perm T) (h2 : srtd ky (L1 ++ R1)) (h3 : ∀ r ∈ R1, ky x ≤ ky r) (h4 : ∀ l ∈ L1, ky l ≤ ky x) : srtd ky (L1 ++ x :: R1) ∧ (L1 ++ x :: R1).Perm (T ++ [x]) := by
  unfold srtd at *
  obtain ⟨a1, a2, a3⟩ := List.pairwise_append.1 h2
  refine ⟨List.pairwise_append.2 ⟨a1, List.pairwise_cons.2 ⟨h3, a2⟩, fun l hl r hr => ?_⟩, ?_⟩
  · rcases List.mem_cons.1 hr with rfl | hr
    · exact h4 l hl
    · exact a3 l hl r hr
  · exact List.perm_middle.trans ((h1.cons x).trans (List.perm_append_singleton x T).symm)
theorem last_le {L2 R1 : List ε} {y x : ε} (h : srtd ky ((L2 ++ [y]) ++ R1)) (hy : ky y ≤ ky x) : ∀ l ∈ L2 ++ [y], ky l ≤ ky x := by
  unfold srtd at h
  obtain ⟨a1, -, -⟩ := List.pairwise_append.1 h
  obtain ⟨-, -, a3⟩ := List.pairwise_append.1 a1
  intro l hl
  rcases List.mem_append.1 hl with hl | hl
  · exact Int.le_trans (a3 l hl y (List.mem_singleton.2 rfl)) hy
  · rw [List.mem_singleton.1 hl]; exact hy
theorem srt_lo {P V S : List ε} {i : Nat} (h : srtd ky V) (h1 : P.length < i) (h2 : i ≤ P.length + V.length) : ∀ v ∈ V.take (i - P.length), ky v ≤ kA ky (P ++ V ++ S) (i - 1) := by
  obtain ⟨V1, w, V2, rfl, hV⟩ := split_at (l := V) (i := i - P.length - 1) (by omega)
  have e : kA ky (P ++ (V1 ++ w :: V2) ++ S) (i - 1) = ky w := kA_of (by rw [show P ++ (V1 ++ w :: V2) ++ S = (P ++ V1) ++ w :: (V2 ++ S) by simp]; exact get_mid _ _ _ (by simp; omega))
  rw [e, show i - P.length = (i - P.length - 1) + 1 by omega, take_left1 hV]
  have h' : srtd ky ((V1 ++ [w]) ++ V2) := by simpa using h
  exact last_le h' (Int.le_refl _)
theorem srt_hi {P V S : List ε} {i : Nat} (h : srtd ky V) (h1 : P.length ≤ i) (h2 : i < P.length + V.length) : ∀ v ∈ V.drop (i - P.length), kA ky (P ++ V ++ S) i ≤ ky v := by
  obtain ⟨V1, w, V2, rfl, hV⟩ := split_at (l := V) (i := i - P.length) (by omega)
  have e : kA ky (P ++ (V1 ++ w :: V2) ++ S) i = ky w := kA_of (by rw [show P ++ (V1 ++ w :: V2) ++ S = (P ++ V1) ++ w :: (V2 ++ S) by simp]; exact get_mid _ _ _ (by simp; omega))
  rw [e, List.drop_left' hV]
  unfold srtd at h
  obtain ⟨-, a2, -⟩ := List.pairwise_append.1 h
  intro v hv
  rcases List.mem_cons.1 hv with rfl | hv
  · exact Int.le_refl _
  · exact (List.pairwise_cons.1 a2).1 v hv
theorem srtd_app {X Y : List ε} (h1 : srtd ky X) (h2 : srtd ky Y) (h3 : ∀ x ∈ X, ∀ y ∈ Y, ky x ≤ ky y) : srtd ky (X ++ Y) := List.pairwise_append.2 ⟨h1, h2, h3⟩
theorem srtd_left {X Y : List ε} (h : srtd ky (X ++ Y)) : srtd ky X := (List.pairwise_append.1 h).1
theorem srtd_right {X Y : List ε} (h : srtd ky (X ++ Y)) : srtd ky Y := (List.pairwise_append.1 h).2.1
theorem srtd_mid {X Y : List ε} (h : srtd ky (X ++ Y)) : ∀ x ∈ X, ∀ y ∈ Y, ky x ≤ ky y := (List.pairwise_append.1 h).2.2
theorem srtd_one (x : ε) : srtd ky [x] := List.pairwise_singleton _ _
theorem srtd_nil : srtd ky ([] : List ε) := List.Pairwise.nil
theorem srtd_ins {V1 V2 : List ε} {x : ε} (h : srtd ky (V1 ++ V2)) (h1 : ∀ v ∈ V1, ky v ≤ ky x) (h2 : ∀ v ∈ V2, ky x ≤ ky v) : srtd ky (V1 ++ x :: V2) :=
  (ins_done (T := V1 ++ V2) (List.Perm.refl _) h h2 h1).1
theorem mrg_done {U1 U2 V1 V2 W1 W2 : List ε} (hU : srtd ky (U1 ++ U2)) (hV : srtd ky (V1 ++ V2)) (hA : ∀ u ∈ U1, ∀ v ∈ V2, ky u ≤ ky v) (hB : ∀ v ∈ V1, ∀ u ∈ U2, ky v ≤ ky u) (p1 : W1.Perm (U1 ++ V1)) (p2 : W2.Perm (U2 ++ V2)) (s1 : srtd ky W1) (s2 : srtd ky W2) : srtd ky (W1 ++ W2) ∧ (W1 ++ W2).Perm ((U1 ++ U2) ++ (V1 ++ V2)) := by
  refine ⟨srtd_app s1 s2 fun x hx y hy => ?_, ?_⟩
  · rcases List.mem_append.1 (p1.mem_iff.1 hx) with hx | hx <;> rcases List.mem_append.1 (p2.mem_iff.1 hy) with hy | hy
    · exact srtd_mid hU x hx y hy
    · exact hA x hx y hy
    · exact hB x hx y hy
    · exact srtd_mid hV x hx y hy
  · refine (p1.append p2).trans ?_
    have e1 : U1 ++ V1 ++ (U2 ++ V2) = U1 ++ (V1 ++ U2 ++ V2) := by simp
    have e2 : (U1 ++ U2) ++ (V1 ++ V2) = U1 ++ (U2 ++ V1 ++ V2) := by simp
    rw [e1, e2]
    exact List.Perm.append_left _ (List.Perm.append_right _ List.perm_append_comm)
theorem set_adj1 {X Z : List ε} {u v : ε} {i j : Nat} (hi : i = X.length) (hj : j = X.length + 1) : ((X ++ u :: v :: Z).set i v).set j u = X ++ v :: u :: Z := set_mid2 (Y := []) hi (by simpa using hj)
theorem set_adj2 {X Z : List ε} {u v : ε} {i j : Nat} (hi : i = X.length) (hj : j = X.length + 1) : ((X ++ u :: v :: Z).set j u).set i v = X ++ v :: u :: Z := by
  subst hi
  subst hj
  have e1 : X ++ u :: v :: Z = (X ++ [u]) ++ v :: Z := by simp
  rw [e1, show X.length + 1 = (X ++ [u]).length by simp, set_mid, show (X ++ [u]) ++ u :: Z = X ++ u :: (u :: Z) by simp, set_mid]
theorem srtd_take1 (A : List ε) : srtd ky (A.take 1) := by
  cases A with
  | nil => exact srtd_nil
  | cons x A => exact srtd_one x
theorem one_split {P V S : List ε} {i : Nat} {z : Int} (h : srtd ky V) (h1 : P.length ≤ i) (h2 : i ≤ P.length + V.length) (h3 : i = P.length ∨ (P.length < i ∧ kA ky (P ++ V ++ S) (i - 1) ≤ z)) (h4 : i = P.length + V.length ∨ (i < P.length + V.length ∧ z ≤ kA ky (P ++ V ++ S) i)) :
    ∃ V1 V2, V = V1 ++ V2 ∧ V1.length = i - P.length ∧ (∀ v ∈ V1, ky v ≤ z) ∧ (∀ v ∈ V2, z ≤ ky v) := by
  refine ⟨V.take (i - P.length), V.drop (i - P.length), (List.take_append_drop _ _).symm, by rw [List.length_take]; omega, ?_, ?_⟩
  · rcases h3 with h3 | ⟨h3, h5⟩
    · rw [h3, Nat.sub_self]; intro v hv; simp at hv
    · intro v hv; exact Int.le_trans (srt_lo (S := S) h h3 h2 v hv) h5
  · rcases h4 with h4 | ⟨h4, h5⟩
    · rw [h4, Nat.add_sub_cancel_left, List.drop_length]; intro v hv; simp at hv
    · intro v hv; exact Int.le_trans h5 (srt_hi (S := S) h h1 h4 v hv)
theorem mrg_split {P U V S es : List ε} {s e a m b : Nat} (hx : es = P ++ U ++ V ++ S) (ha : a = P.length) (hm : m = P.length + U.length) (hb : b = P.length + U.length + V.length) (hU : srtd ky U) (hV : srtd ky V) (h1 : a ≤ s) (h2 : s ≤ m) (h3 : m ≤ e) (h4 : e ≤ b) (hlo : s = a ∨ e = b ∨ (a < s ∧ e < b ∧ kA ky es (s - 1) ≤ kA ky es e)) (hhi : s = m ∨ e = m ∨ (s < m ∧ m < e ∧ kA ky es (e - 1) ≤ kA ky es s)) :
    ∃ U1 U2 V1 V2, U = U1 ++ U2 ∧ V = V1 ++ V2 ∧ U1.length = s - a ∧ V1.length = e - m ∧ (∀ u ∈ U1, ∀ v ∈ V2, ky u ≤ ky v) ∧ (∀ v ∈ V1, ∀ u ∈ U2, ky v ≤ ky u) := by
  refine ⟨U.take (s - a), U.drop (s - a), V.take (e - m), V.drop (e - m), (List.take_append_drop _ _).symm, (List.take_append_drop _ _).symm, by rw [List.length_take]; omega, by rw [List.length_take]; omega, ?_, ?_⟩
  · intro u hu v hv
    rcases hlo with h | h | ⟨h5, h6, h7⟩
    · rw [h, Nat.sub_self] at hu; simp at hu
    · rw [List.drop_of_length_le (by omega)] at hv; simp at hv
    · have e1 : es = P ++ U ++ (V ++ S) := by rw [hx]; simp
      have g1 := srt_lo (ky := ky) (P := P) (V := U) (S := V ++ S) (i := s) hU (by omega) (by omega) u (by rw [← ha]; exact hu)
      have g2 := srt_hi (ky := ky) (P := P ++ U) (V := V) (S := S) (i := e) hV (by rw [List.length_append]; omega) (by rw [List.length_append]; omega) v (by rw [List.length_append, ← hm]; exact hv)
      rw [← e1] at g1
      rw [← hx] at g2
      exact Int.le_trans g1 (Int.le_trans h7 g2)
  · intro v hv u hu
    rcases hhi with h | h | ⟨h5, h6, h7⟩
    · rw [List.drop_of_length_le (by omega)] at hu; simp at hu
    · rw [h, Nat.sub_self] at hv; simp at hv
    · have e1 : es = P ++ U ++ (V ++ S) := by rw [hx]; simp
      have g1 := srt_hi (ky := ky) (P := P) (V := U) (S := V ++ S) (i := s) hU (by omega) (by omega) u (by rw [← ha]; exact hu)
      have g2 := srt_lo (ky := ky) (P := P ++ U) (V := V) (S := S) (i := e) hV (by rw [List.length_append]; omega) (by rw [List.length_append]; omega) v (by rw [List.length_append, ← hm]; exact hv)
      rw [← e1] at g1
      rw [← hx] at g2
      exact Int.le_trans g2 (Int.le_trans h7 g1)
variable (ky)
def bsr (B : Nat) (xs : List ε) : Prop := ∀ (i j : Nat) (x y : ε), i ≤ j → i / B = j / B → xs[i]? = some x → xs[j]? = some y → ky x ≤ ky y
variable {ky}
theorem srtd_get {xs : List ε} (h : ∀ (i j : Nat) (x y : ε), i ≤ j → xs[i]? = some x → xs[j]? = some y → ky x ≤ ky y) : srtd ky xs := by
  unfold srtd
  rw [List.pairwise_iff_getElem]
  intro i j hi hj hij
  exact h i j _ _ (Nat.le_of_lt hij) (List.getElem?_eq_getElem hi) (List.getElem?_eq_getElem hj)
theorem get_srtd {xs : List ε} (h : srtd ky xs) : ∀ (i j : Nat) (x y : ε), i ≤ j → xs[i]? = some x → xs[j]? = some y → ky x ≤ ky y := by
  unfold srtd at h
  rw [List.pairwise_iff_getElem] at h
  intro i j x y hij hx hy
  obtain ⟨hi, rfl⟩ := List.getElem?_eq_some_iff.1 hx
  obtain ⟨hj, rfl⟩ := List.getElem?_eq_some_iff.1 hy
  rcases Nat.lt_or_eq_of_le hij with h1 | h1
  · exact h i j hi hj h1
  · subst h1; exact Int.le_refl _
theorem bsr_nil (B : Nat) : bsr ky B ([] : List ε) := fun i j x y _ _ h => by simp at h
theorem bsr_snoc {B q : Nat} {D W : List ε} (hB : 0 < B) (hD : bsr ky B D) (hq : D.length = q * B) (hW : srtd ky W) : bsr ky B (D ++ W) := by
  intro i j x y hij hd hx hy
  by_cases h1 : j < D.length
  · rw [List.getElem?_append_left (by omega)] at hx hy
    exact hD i j x y hij hd hx hy
  · by_cases h2 : i < D.length
    · exfalso
      have a1 : i / B < q := (Nat.div_lt_iff_lt_mul hB).2 (by omega)
      have a2 : q ≤ j / B := (Nat.le_div_iff_mul_le hB).2 (by omega)
      omega
    · rw [List.getElem?_append_right (by omega)] at hx hy
      exact get_srtd hW _ _ x y (by omega) hx hy
theorem bsr_cut {B q : Nat} {D W E : List ε} (hB : 0 < B) (h : bsr ky B (D ++ (W ++ E))) (hq : D.length = q * B) (hW : W.length ≤ B) : srtd ky W := by
  refine srtd_get fun i j x y hij hx hy => ?_
  have hi := (List.getElem?_eq_some_iff.1 hx).1
  have hj := (List.getElem?_eq_some_iff.1 hy).1
  have hdv : ∀ k, k < W.length → (D.length + k) / B = q := fun k hk => by
    rw [hq, Nat.add_comm, Nat.add_mul_div_right _ _ hB, Nat.div_eq_of_lt (by omega)]; omega
  refine h (D.length + i) (D.length + j) x y (by omega) ((hdv i hi).trans (hdv j hj).symm) ?_ ?_
  · rw [List.getElem?_append_right (by omega), Nat.add_sub_cancel_left, List.getElem?_append_left hi]; exact hx
  · rw [List.getElem?_append_right (by omega), Nat.add_sub_cancel_left, List.getElem?_append_left hj]; exact hy
theorem blk_step {C q : Nat} {D A A' S ys : List ε} (hC : 0 < C) (hl : D.length = q * C) (hb : bsr ky C D) (hp : D.Perm (ys.take (q * C))) (hd : ys.drop (q * C) = A ++ S) (pA : A'.Perm A) (sA : srtd ky A') : bsr ky C (D ++ A') ∧ (D ++ A').Perm (ys.take (q * C + A.length)) ∧ ys.drop (q * C + A.length) = S ∧ (D ++ A').length = q * C + A.length := by
  refine ⟨bsr_snoc hC hb hl sA, ?_, ?_, by rw [List.length_append, hl, pA.length_eq]⟩
  · have e : ys.take (q * C + A.length) = ys.take (q * C) ++ A := by
      rw [List.take_add, hd, List.take_left' rfl]
    rw [e]; exact hp.append pA
  · rw [← List.drop_drop, hd, List.drop_left' rfl]
end
end Go.Proofs.Ytnhippfllgnngaa
