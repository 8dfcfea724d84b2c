/-
  A part of the proof of the claim that this folder bears.
-/
import Derived.Test.YtnhippfllgnngaaPAL
import Derived.Test.YtnhippfllgnngaaPAD
import Derived.Test.YtnhippfllgnngaaPAJ
/- The text SM9. -/
set_option linter.unusedVariables false
set_option linter.unusedSimpArgs false
set_option maxRecDepth 10000
namespace Go.Proofs.Ytnhippfllgnngaa
open Go Go.KK Dm

theorem eqRgs_ok {L : List Asn} {a b : Option Addr} {n m cap cap2 : Nat} {xs ys : List Rg} [SlIn rgE L a xs] [SlIn rgE L b ys] (hn : n = xs.length) (hm : m = ys.length) (hb : xs.length ≤ 1000000) :
    CallS Try.prog 181 [.slice a n cap, .slice b m cap2].toArray L (fun v M => v = .bool (decide (xs = ys)) ∧ M = L) := by
  subst hn
  subst hm
  refine CallS.enter Try.func181 rfl rfl rfl rfl rfl ?_
  refine J.seq rfl ?_
  refine J.region rfl ?_
  refine JO.pur rfl rfl rfl (Pur.assign rfl) ?_
  refine JO.nil ?_
  refine J.seq rfl ?_
  refine J.seq rfl ?_
  refine J.region rfl ?_
  refine JO.pur rfl rfl rfl (Pur.move rfl) ?_
  refine JO.pur rfl rfl rfl (Pur.len rfl) ?_
  refine JO.pur rfl rfl rfl (Pur.move rfl) ?_
  refine JO.pur rfl rfl rfl (Pur.len rfl) ?_
  refine JO.pur rfl rfl rfl (Pur.neqI rfl rfl) ?_
  refine JO.nil ?_
  refine J.splitB 10 rfl (fun h10 => ?_) (fun h10 => ?_)
  · try simp only [decide_eq_true_eq, decide_eq_false_iff_not, Bool.not_eq_true', Bool.not_eq_false', Bool.and_eq_true, Bool.or_eq_true, Bool.and_eq_false_iff, Bool.or_eq_false_iff, Option.isNone_some, Option.isSome_some, Option.isNone_none, Option.isSome_none, Int.not_lt, Int.not_le, beq_iff_eq, beq_eq_false_iff_ne, bne_iff_ne, ne_eq, Bool.not_not, Decidable.not_not] at h10
    refine J.condT rfl rfl ?_
    refine J.seq rfl ?_
    refine J.region rfl ?_
    refine JO.pur rfl rfl rfl (Pur.assign rfl) ?_
    refine JO.nil ?_
    refine J.ret rfl rfl ?_
    exact ⟨congrArg Value.bool (decide_eq_false (fun e => by rw [e] at h10; omega)).symm, rfl⟩
  · try simp only [decide_eq_true_eq, decide_eq_false_iff_not, Bool.not_eq_true', Bool.not_eq_false', Bool.and_eq_true, Bool.or_eq_true, Bool.and_eq_false_iff, Bool.or_eq_false_iff, Option.isNone_some, Option.isSome_some, Option.isNone_none, Option.isSome_none, Int.not_lt, Int.not_le, beq_iff_eq, beq_eq_false_iff_ne, bne_iff_ne, ne_eq, Bool.not_not, Decidable.not_not] at h10
    refine J.condF rfl rfl ?_
    refine J.skip rfl ?_
    refine J.seq rfl ?_
    refine J.seq rfl ?_
    refine J.region rfl ?_
    refine JO.pur rfl rfl rfl (Pur.move rfl) ?_
    refine JO.pur rfl rfl rfl (Pur.len rfl) ?_
    refine JO.pur rfl rfl rfl (Pur.move rfl) ?_
    refine JO.nil ?_
    refine J.block rfl ?_
    refine J.loopF (ι := Nat) (fun i => i ≤ xs.length ∧ xs.take i = ys.take i) (fun i => [(13, .int .i64 (i : Int))]) [(0, _), (1, _), (12, _)] (fun i => L) (fun i => xs.length - i) 0 rfl (.cons rfl rfl (.cons rfl rfl (.cons rfl rfl .nil))) (.cons rfl rfl .nil) (by first | exact fun _ h => h | exact SubC.out | (dsimp only; exact SubC.out)) ⟨Nat.zero_le _, rfl⟩ ?_
    rintro i ⟨hi1, hi2⟩ ih0
    try dsimp only
    refine J.seq rfl ?_
    refine J.region rfl ?_
    refine JO.pur rfl rfl rfl (Pur.lss rfl rfl) ?_
    refine JO.nil ?_
    refine J.seq rfl ?_
    refine J.splitB 14 rfl (fun h14 => ?_) (fun h14 => ?_)
    · try simp only [decide_eq_true_eq, decide_eq_false_iff_not, Bool.not_eq_true', Bool.not_eq_false', Bool.and_eq_true, Bool.or_eq_true, Bool.and_eq_false_iff, Bool.or_eq_false_iff, Option.isNone_some, Option.isSome_some, Option.isNone_none, Option.isSome_none, Int.not_lt, Int.not_le, beq_iff_eq, beq_eq_false_iff_ne, bne_iff_ne, ne_eq, Bool.not_not, Decidable.not_not] at h14
      refine J.condT rfl rfl ?_
      refine J.skip rfl ?_
      refine J.seq rfl ?_
      refine J.block rfl ?_
      refine J.seq rfl ?_
      refine J.region rfl ?_
      refine JO.pur rfl rfl rfl (Pur.move rfl) ?_
      refine JO.pur rfl rfl rfl (Pur.assign rfl) ?_
      refine JO.nil ?_
      refine J.seq rfl ?_
      refine J.quiet rfl Try.mixed (by kernel_rfl) ?_
      refine JQ.pur rfl rfl rfl (Pur.move rfl) ?_
      refine JQ.pur rfl rfl rfl (Pur.move rfl) ?_
      refine JQ.pur rfl rfl rfl (Pur.idx rfl rfl rfl (by first | rfl | (simp; done) | omega) rfl (by omega)) ?_
      refine JQ.pur rfl rfl rfl (Pur.loadA rfl rfl rfl (CellsIn.el rfl (List.getElem?_eq_getElem (by omega)))) ?_
      refine JQ.pur rfl rfl rfl (Pur.move rfl) ?_
      refine JQ.pur rfl rfl rfl (Pur.move rfl) ?_
      refine JQ.pur rfl rfl rfl (Pur.idx rfl rfl rfl (by first | rfl | (simp; done) | omega) rfl (by omega)) ?_
      refine JQ.pur rfl rfl rfl (Pur.loadA rfl rfl rfl (CellsIn.el rfl (List.getElem?_eq_getElem (by omega)))) ?_
      refine JQ.pur rfl rfl rfl (Pur.neqE rfl rfl) ?_
      refine JQ.nil ?_
      refine J.splitB 24 rfl (fun h24 => ?_) (fun h24 => ?_)
      · try simp only [decide_eq_true_eq, decide_eq_false_iff_not, Bool.not_eq_true', Bool.not_eq_false', Bool.and_eq_true, Bool.or_eq_true, Bool.and_eq_false_iff, Bool.or_eq_false_iff, Option.isNone_some, Option.isSome_some, Option.isNone_none, Option.isSome_none, Int.not_lt, Int.not_le, beq_iff_eq, beq_eq_false_iff_ne, bne_iff_ne, ne_eq, Bool.not_not, Decidable.not_not] at h24
        refine J.condT rfl rfl ?_
        refine J.seq rfl ?_
        refine J.region rfl ?_
        refine JO.pur rfl rfl rfl (Pur.assign rfl) ?_
        refine JO.nil ?_
        refine J.ret rfl rfl ?_
        exact ⟨congrArg Value.bool (decide_eq_false (fun e => h24 (by simp [e]))).symm, rfl⟩
      · try simp only [decide_eq_true_eq, decide_eq_false_iff_not, Bool.not_eq_true', Bool.not_eq_false', Bool.and_eq_true, Bool.or_eq_true, Bool.and_eq_false_iff, Bool.or_eq_false_iff, Option.isNone_some, Option.isSome_some, Option.isNone_none, Option.isSome_none, Int.not_lt, Int.not_le, beq_iff_eq, beq_eq_false_iff_ne, bne_iff_ne, ne_eq, Bool.not_not, Decidable.not_not] at h24
        refine J.condF rfl rfl ?_
        refine J.skip rfl ?_
        refine J.inBlock ?_
        refine J.region rfl ?_
        refine JO.pur rfl rfl rfl (Pur.add rfl rfl (wr64 (by omega))) ?_
        refine JO.pur rfl rfl rfl (Pur.move rfl) ?_
        refine JO.nil ?_
        exact J.weaken (.cons rfl (congrArg (Value.int .i64) (by omega)) (.cons rfl rfl (.cons rfl rfl (.cons rfl rfl .nil)))) (by first | exact fun _ h => h | exact SubC.out | (dsimp only; exact SubC.out)) (ih0 (i + 1) ⟨by omega, take_succ_eq hi2 (by omega) (by omega) h24⟩ (by omega))
    · try simp only [decide_eq_true_eq, decide_eq_false_iff_not, Bool.not_eq_true', Bool.not_eq_false', Bool.and_eq_true, Bool.or_eq_true, Bool.and_eq_false_iff, Bool.or_eq_false_iff, Option.isNone_some, Option.isSome_some, Option.isNone_none, Option.isSome_none, Int.not_lt, Int.not_le, beq_iff_eq, beq_eq_false_iff_ne, bne_iff_ne, ne_eq, Bool.not_not, Decidable.not_not] at h14
      refine J.condF rfl rfl ?_
      refine J.exit rfl rfl ?_
      refine J.seq rfl ?_
      refine J.region rfl ?_
      refine JO.pur rfl rfl rfl (Pur.assign rfl) ?_
      refine JO.nil ?_
      refine J.ret rfl rfl ?_
      exact ⟨congrArg Value.bool (decide_eq_true (take_all_eq hi2 (by omega) (by omega))).symm, rfl⟩

theorem d_Same {L : List Asn} {a b : Option Addr} {n cap m cq : Nat} {rs ss : List Rg} [SlIn rgE L a rs] [SlIn rgE L b ss] (hn : n = rs.length) (hm : m = ss.length) :
    CallS Try.prog 163 [.agg #[.slice a n cap], .agg #[.slice b m cq]].toArray L (fun v M => v = .bool (decide (samD rs ss)) ∧ M = L) := by
  subst hn
  subst hm
  refine CallS.ent ?_
  refine CallS.enter Try.func163 rfl rfl rfl rfl rfl ?_
  refine J.seq rfl ?_
  refine J.region rfl ?_
  refine JO.eff rfl rfl rfl (Eff.box (cs := [_]) rfl rfl) ?_
  rintro _ _ ⟨b2, rfl, rfl⟩
  refine JO.eff rfl rfl rfl (Eff.box (cs := [_]) rfl rfl) ?_
  rintro _ _ ⟨b3, rfl, rfl⟩
  refine JO.pur rfl rfl rfl (Pur.assign rfl) ?_
  refine JO.nil ?_
  refine J.seq rfl ?_
  refine J.mask0 (n := 16) [] rfl Try.mixed rfl (by kernel_rfl) ?_
  refine JM.take 0 (fun _ h => h) rfl (by kernel_rfl) rfl rfl rfl (m' := 1) rfl (Pur.loadA rfl rfl rfl CellsIn.blk) ?_
  refine JM.one (i := 1) (by kernel_rfl) ?_
  refine JMi.effR (fun _ h => h) rfl rfl rfl rfl (m' := 3) rfl (Eff.call rfl (d_Valid (rs := rs) rfl)) ?_
  refine JM.take 2 (fun _ h => h) rfl (by kernel_rfl) rfl rfl rfl (m' := 7) rfl (Pur.move rfl) ?_
  refine JM.splitB 7 rfl (fun h7 => ?_) (fun h7 => ?_)
  · try simp only [decide_eq_true_eq, decide_eq_false_iff_not, Bool.not_eq_true', Bool.not_eq_false', Bool.and_eq_true, Bool.or_eq_true, Bool.and_eq_false_iff, Bool.or_eq_false_iff, Option.isNone_some, Option.isSome_some, Option.isNone_none, Option.isSome_none, Int.not_lt, Int.not_le, beq_iff_eq, beq_eq_false_iff_ne, bne_iff_ne, ne_eq, Bool.not_not, Decidable.not_not] at h7
    have hd1 : okD rs := h7
    refine JM.take 3 (fun _ h => h) rfl (by kernel_rfl) rfl rfl rfl (m' := 15) rfl (Pur.loadA rfl rfl rfl CellsIn.blk) ?_
    refine JM.one (i := 4) (by kernel_rfl) ?_
    refine JMi.effR (fun _ h => h) rfl rfl rfl rfl (m' := 31) rfl (Eff.call rfl (d_Valid (rs := ss) rfl)) ?_
    refine JM.take 5 (fun _ h => h) rfl (by kernel_rfl) rfl rfl rfl (m' := 63) rfl (Pur.pickT rfl rfl) ?_
    refine JM.take 6 (fun _ h => h) rfl (by kernel_rfl) rfl rfl rfl (m' := 127) rfl (Pur.move rfl) ?_
    refine JM.splitB 11 rfl (fun h11 => ?_) (fun h11 => ?_)
    · try simp only [decide_eq_true_eq, decide_eq_false_iff_not, Bool.not_eq_true', Bool.not_eq_false', Bool.and_eq_true, Bool.or_eq_true, Bool.and_eq_false_iff, Bool.or_eq_false_iff, Option.isNone_some, Option.isSome_some, Option.isNone_none, Option.isSome_none, Int.not_lt, Int.not_le, beq_iff_eq, beq_eq_false_iff_ne, bne_iff_ne, ne_eq, Bool.not_not, Decidable.not_not] at h11
      have hd2 : okD ss := by first | exact h11 | exact of_decide_eq_true h11
      refine JM.take 7 (fun _ h => h) rfl (by kernel_rfl) rfl rfl rfl (m' := 255) rfl (Pur.loadA rfl rfl rfl CellsIn.blk) ?_
      refine JM.take 10 (fun _ h => h) rfl (by kernel_rfl) rfl rfl rfl (m' := 1279) rfl (Pur.loadA rfl rfl rfl CellsIn.blk) ?_
      refine JM.one (i := 8) (by kernel_rfl) ?_
      refine JMi.eff rfl rfl rfl rfl (m' := 1535) rfl (Eff.call rfl (d_canon (rs := rs) rfl hd1)) ?_
      rintro _ _ ⟨a13, c13, rfl, rfl⟩
      refine ⟨.inr (fun _ h => h.tail), ?_⟩
      refine JM.take 9 (fun _ h => h.tail) rfl (by kernel_rfl) rfl rfl rfl (m' := 2047) rfl (Pur.fieldS rfl rfl) ?_
      refine JM.one (i := 11) (by kernel_rfl) ?_
      refine JMi.eff rfl rfl rfl rfl (m' := 4095) rfl (Eff.call rfl (d_canon (rs := ss) rfl hd2)) ?_
      rintro _ _ ⟨a16, c16, rfl, rfl⟩
      refine ⟨.inr (fun _ h => h.tail.tail), ?_⟩
      refine JM.take 12 (fun _ h => h.tail.tail) rfl (by kernel_rfl) rfl rfl rfl (m' := 8191) rfl (Pur.fieldS rfl rfl) ?_
      refine JM.one (i := 13) (by kernel_rfl) ?_
      refine JMi.effR (fun _ h => h.tail.tail) rfl rfl rfl rfl (m' := 16383) rfl (Eff.call rfl (eqRgs_ok (xs := canD rs) (ys := canD ss) (by rw [canD_len]) (by rw [canD_len]) (by rw [canD_len]; have := hd1.2.1; omega))) ?_
      refine JM.take 14 (fun _ h => h.tail.tail) rfl (by kernel_rfl) rfl rfl rfl (m' := 32767) rfl (Pur.pickT rfl rfl) ?_
      refine JM.take 15 (fun _ h => h.tail.tail) rfl (by kernel_rfl) rfl rfl rfl (m' := 65535) rfl (Pur.assign rfl) ?_
      refine JM.done rfl ?_
      refine J.ret rfl rfl ?_
      first
      | exact ⟨_, _, ⟨rfl, rfl⟩, congrArg Value.bool (decide_eq_decide.2 ⟨fun g => ⟨hd1, hd2, g⟩, fun g => g.2.2⟩), SubC.out⟩
      | exact ⟨_, _, ⟨rfl, rfl⟩, congrArg Value.bool (decide_eq_false (fun g => hd2 g.2.1)).symm, SubC.out⟩
      | exact ⟨_, _, ⟨rfl, rfl⟩, congrArg Value.bool (decide_eq_false (fun g => hd1 g.1)).symm, SubC.out⟩
    · try simp only [decide_eq_true_eq, decide_eq_false_iff_not, Bool.not_eq_true', Bool.not_eq_false', Bool.and_eq_true, Bool.or_eq_true, Bool.and_eq_false_iff, Bool.or_eq_false_iff, Option.isNone_some, Option.isSome_some, Option.isNone_none, Option.isSome_none, Int.not_lt, Int.not_le, beq_iff_eq, beq_eq_false_iff_ne, bne_iff_ne, ne_eq, Bool.not_not, Decidable.not_not] at h11
      have hd2 : ¬ okD ss := by first | exact h11 | exact of_decide_eq_false h11
      refine JM.takeNo 7 (fun _ h => h) rfl (by kernel_rfl) rfl rfl rfl (m' := 255) rfl ?_
      refine JM.takeNo 10 (fun _ h => h) rfl (by kernel_rfl) rfl rfl rfl (m' := 1279) rfl ?_
      refine JM.one (i := 8) (by kernel_rfl) ?_
      refine JMi.no rfl rfl rfl rfl (m' := 1535) rfl (fun _ h => h) ?_
      refine JM.takeNo 9 (fun _ h => h) rfl (by kernel_rfl) rfl rfl rfl (m' := 2047) rfl ?_
      refine JM.one (i := 11) (by kernel_rfl) ?_
      refine JMi.no rfl rfl rfl rfl (m' := 4095) rfl (fun _ h => h) ?_
      refine JM.takeNo 12 (fun _ h => h) rfl (by kernel_rfl) rfl rfl rfl (m' := 8191) rfl ?_
      refine JM.one (i := 13) (by kernel_rfl) ?_
      refine JMi.no rfl rfl rfl rfl (m' := 16383) rfl (fun _ h => h) ?_
      refine JM.take 14 (fun _ h => h) rfl (by kernel_rfl) rfl rfl rfl (m' := 32767) rfl (Pur.pickF rfl rfl) ?_
      refine JM.take 15 (fun _ h => h) rfl (by kernel_rfl) rfl rfl rfl (m' := 65535) rfl (Pur.assign rfl) ?_
      refine JM.done rfl ?_
      refine J.ret rfl rfl ?_
      first
      | exact ⟨_, _, ⟨rfl, rfl⟩, congrArg Value.bool (decide_eq_decide.2 ⟨fun g => ⟨hd1, hd2, g⟩, fun g => g.2.2⟩), SubC.out⟩
      | exact ⟨_, _, ⟨rfl, rfl⟩, congrArg Value.bool (decide_eq_false (fun g => hd2 g.2.1)).symm, SubC.out⟩
      | exact ⟨_, _, ⟨rfl, rfl⟩, congrArg Value.bool (decide_eq_false (fun g => hd1 g.1)).symm, SubC.out⟩
  · try simp only [decide_eq_true_eq, decide_eq_false_iff_not, Bool.not_eq_true', Bool.not_eq_false', Bool.and_eq_true, Bool.or_eq_true, Bool.and_eq_false_iff, Bool.or_eq_false_iff, Option.isNone_some, Option.isSome_some, Option.isNone_none, Option.isSome_none, Int.not_lt, Int.not_le, beq_iff_eq, beq_eq_false_iff_ne, bne_iff_ne, ne_eq, Bool.not_not, Decidable.not_not] at h7
    have hd1 : ¬ okD rs := h7
    refine JM.takeNo 3 (fun _ h => h) rfl (by kernel_rfl) rfl rfl rfl (m' := 15) rfl ?_
    refine JM.one (i := 4) (by kernel_rfl) ?_
    refine JMi.no rfl rfl rfl rfl (m' := 31) rfl (fun _ h => h) ?_
    refine JM.take 5 (fun _ h => h) rfl (by kernel_rfl) rfl rfl rfl (m' := 63) rfl (Pur.pickF rfl rfl) ?_
    refine JM.take 6 (fun _ h => h) rfl (by kernel_rfl) rfl rfl rfl (m' := 127) rfl (Pur.move rfl) ?_
    refine JM.takeNo 7 (fun _ h => h) rfl (by kernel_rfl) rfl rfl rfl (m' := 255) rfl ?_
    refine JM.takeNo 10 (fun _ h => h) rfl (by kernel_rfl) rfl rfl rfl (m' := 1279) rfl ?_
    refine JM.one (i := 8) (by kernel_rfl) ?_
    refine JMi.no rfl rfl rfl rfl (m' := 1535) rfl (fun _ h => h) ?_
    refine JM.takeNo 9 (fun _ h => h) rfl (by kernel_rfl) rfl rfl rfl (m' := 2047) rfl ?_
    refine JM.one (i := 11) (by kernel_rfl) ?_
    refine JMi.no rfl rfl rfl rfl (m' := 4095) rfl (fun _ h => h) ?_
    refine JM.takeNo 12 (fun _ h => h) rfl (by kernel_rfl) rfl rfl rfl (m' := 8191) rfl ?_
    refine JM.one (i := 13) (by kernel_rfl) ?_
    refine JMi.no rfl rfl rfl rfl (m' := 16383) rfl (fun _ h => h) ?_
    refine JM.take 14 (fun _ h => h) rfl (by kernel_rfl) rfl rfl rfl (m' := 32767) rfl (Pur.pickF rfl rfl) ?_
    refine JM.take 15 (fun _ h => h) rfl (by kernel_rfl) rfl rfl rfl (m' := 65535) rfl (Pur.assign rfl) ?_
    refine JM.done rfl ?_
    refine J.ret rfl rfl ?_
    first
    | exact ⟨_, _, ⟨rfl, rfl⟩, congrArg Value.bool (decide_eq_decide.2 ⟨fun g => ⟨hd1, hd2, g⟩, fun g => g.2.2⟩), SubC.out⟩
    | exact ⟨_, _, ⟨rfl, rfl⟩, congrArg Value.bool (decide_eq_false (fun g => hd2 g.2.1)).symm, SubC.out⟩
    | exact ⟨_, _, ⟨rfl, rfl⟩, congrArg Value.bool (decide_eq_false (fun g => hd1 g.1)).symm, SubC.out⟩

theorem s_two {L : List Asn} {a la b lb : Option Addr} {n cap ln lc m cq lm lq : Nat} {rs ss : List Rg} {hs gs : List Hdr} {xss yss : List (List Int)} [SlIn rgE L a rs] [SlIn hE L la hs] [RowsR intE L hs xss] [SlIn rgE L b ss] [SlIn hE L lb gs] [RowsR intE L gs yss] (hn : n = rs.length) (hl : ln = hs.length) (hm : m = ss.length) (hl2 : lm = gs.length) :
    CallS Try.prog 120 [.agg #[.slice a n cap, .slice la ln lc], .agg #[.slice b m cq, .slice lb lm lq]].toArray L (fun v M => v = .int .i64 (twoS rs xss ss yss) ∧ M = L) := by
  subst hn
  subst hl
  subst hm
  subst hl2
  refine CallS.fact (fun h s => RowsR.len (E := intE) (hs := hs) (xss := xss) s) fun hnn => ?_
  have hhl : hs.length = xss.length := rows_len hnn
  refine CallS.fact (fun h s => RowsR.len (E := intE) (hs := gs) (xss := yss) s) fun hnn2 => ?_
  have hgl : gs.length = yss.length := rows_len hnn2
  refine CallS.ent ?_
  refine CallS.enter Try.func120 rfl rfl rfl rfl rfl ?_
  refine J.seq rfl ?_
  refine J.region rfl ?_
  refine JO.eff rfl rfl rfl (Eff.box (cs := [_, _]) rfl rfl) ?_
  rintro _ _ ⟨b2, rfl, rfl⟩
  refine JO.eff rfl rfl rfl (Eff.box (cs := [_, _]) rfl rfl) ?_
  rintro _ _ ⟨b3, rfl, rfl⟩
  refine JO.pur rfl rfl rfl (Pur.assign rfl) ?_
  refine JO.nil ?_
  refine J.seq rfl ?_
  refine J.block rfl ?_
  refine J.seq rfl ?_
  refine J.region rfl ?_
  refine JO.pur rfl rfl rfl (Pur.loadA rfl rfl rfl CellsIn.blk) ?_
  refine JO.effR rfl rfl rfl (Eff.call rfl (s_Valid (rs := rs) (hs := hs) (xss := xss) rfl rfl)) ?_
  refine JO.pur rfl rfl rfl (Pur.not rfl) ?_
  refine JO.pur rfl rfl rfl (Pur.move rfl) ?_
  refine JO.splitB 9 rfl (fun h9 => ?_) (fun h9 => ?_)
  · try simp only [decide_eq_true_eq, decide_eq_false_iff_not, Bool.not_eq_true', Bool.not_eq_false', Bool.and_eq_true, Bool.or_eq_true, Bool.and_eq_false_iff, Bool.or_eq_false_iff, Option.isNone_some, Option.isSome_some, Option.isNone_none, Option.isSome_none, Int.not_lt, Int.not_le, beq_iff_eq, beq_eq_false_iff_ne, bne_iff_ne, ne_eq, Bool.not_not, Decidable.not_not] at h9
    have hbad : ¬ (okS rs xss ∧ okS ss yss) := fun g => h9 g.1
    refine JO.no rfl rfl rfl ?_
    refine JO.no rfl rfl rfl ?_
    refine JO.no rfl rfl rfl ?_
    refine JO.pur rfl rfl rfl (Pur.pickT rfl rfl) ?_
    refine JO.pur rfl rfl rfl (Pur.assign rfl) ?_
    refine JO.nil ?_
    refine J.condT rfl rfl ?_
    refine J.seq rfl ?_
    refine J.region rfl ?_
    refine JO.pur rfl rfl rfl (Pur.assign rfl) ?_
    refine JO.nil ?_
    refine J.ret rfl rfl ?_
    first
    | exact ⟨_, _, ⟨rfl, rfl⟩, congrArg (Value.int .i64) (by unfold twoS; rw [if_pos hbad]), SubC.out⟩
    | exact ⟨_, _, ⟨rfl, rfl⟩, congrArg (Value.int .i64) (by unfold twoS; rw [if_neg (not_not_intro ⟨hs1, hs2⟩), if_pos hns]), SubC.out⟩
    | exact ⟨_, _, ⟨rfl, rfl⟩, congrArg (Value.int .i64) (by unfold twoS; rw [if_neg (not_not_intro ⟨hs1, hs2⟩), if_neg (not_not_intro hsm)]), SubC.out⟩
  · try simp only [decide_eq_true_eq, decide_eq_false_iff_not, Bool.not_eq_true', Bool.not_eq_false', Bool.and_eq_true, Bool.or_eq_true, Bool.and_eq_false_iff, Bool.or_eq_false_iff, Option.isNone_some, Option.isSome_some, Option.isNone_none, Option.isSome_none, Int.not_lt, Int.not_le, beq_iff_eq, beq_eq_false_iff_ne, bne_iff_ne, ne_eq, Bool.not_not, Decidable.not_not] at h9
    have hs1 : okS rs xss := h9
    refine JO.pur rfl rfl rfl (Pur.loadA rfl rfl rfl CellsIn.blk) ?_
    refine JO.effR rfl rfl rfl (Eff.call rfl (s_Valid (rs := ss) (hs := gs) (xss := yss) rfl rfl)) ?_
    refine JO.pur rfl rfl rfl (Pur.not rfl) ?_
    refine JO.pur rfl rfl rfl (Pur.pickF rfl rfl) ?_
    refine JO.pur rfl rfl rfl (Pur.assign rfl) ?_
    refine JO.nil ?_
    refine J.splitB 5 rfl (fun h5 => ?_) (fun h5 => ?_)
    · try simp only [decide_eq_true_eq, decide_eq_false_iff_not, Bool.not_eq_true', Bool.not_eq_false', Bool.and_eq_true, Bool.or_eq_true, Bool.and_eq_false_iff, Bool.or_eq_false_iff, Option.isNone_some, Option.isSome_some, Option.isNone_none, Option.isSome_none, Int.not_lt, Int.not_le, beq_iff_eq, beq_eq_false_iff_ne, bne_iff_ne, ne_eq, Bool.not_not, Decidable.not_not] at h5
      have hbad : ¬ (okS rs xss ∧ okS ss yss) := fun g => h5 g.2
      refine J.condT rfl rfl ?_
      refine J.seq rfl ?_
      refine J.region rfl ?_
      refine JO.pur rfl rfl rfl (Pur.assign rfl) ?_
      refine JO.nil ?_
      refine J.ret rfl rfl ?_
      first
      | exact ⟨_, _, ⟨rfl, rfl⟩, congrArg (Value.int .i64) (by unfold twoS; rw [if_pos hbad]), SubC.out⟩
      | exact ⟨_, _, ⟨rfl, rfl⟩, congrArg (Value.int .i64) (by unfold twoS; rw [if_neg (not_not_intro ⟨hs1, hs2⟩), if_pos hns]), SubC.out⟩
      | exact ⟨_, _, ⟨rfl, rfl⟩, congrArg (Value.int .i64) (by unfold twoS; rw [if_neg (not_not_intro ⟨hs1, hs2⟩), if_neg (not_not_intro hsm)]), SubC.out⟩
    · try simp only [decide_eq_true_eq, decide_eq_false_iff_not, Bool.not_eq_true', Bool.not_eq_false', Bool.and_eq_true, Bool.or_eq_true, Bool.and_eq_false_iff, Bool.or_eq_false_iff, Option.isNone_some, Option.isSome_some, Option.isNone_none, Option.isSome_none, Int.not_lt, Int.not_le, beq_iff_eq, beq_eq_false_iff_ne, bne_iff_ne, ne_eq, Bool.not_not, Decidable.not_not] at h5
      have hs2 : okS ss yss := h5
      refine J.condF rfl rfl ?_
      refine J.seq rfl ?_
      refine J.region rfl ?_
      refine JO.pur rfl rfl rfl (Pur.fieldAddr rfl) ?_
      refine JO.pur rfl rfl rfl (Pur.loadA rfl rfl rfl (CellsIn.sub1 rfl)) ?_
      refine JO.pur rfl rfl rfl (Pur.fieldAddr rfl) ?_
      refine JO.pur rfl rfl rfl (Pur.loadA rfl rfl rfl (CellsIn.sub1 rfl)) ?_
      refine JO.effR rfl rfl rfl (Eff.call rfl (d_Same (rs := rs) (ss := ss) rfl rfl)) ?_
      refine JO.pur rfl rfl rfl (Pur.not rfl) ?_
      refine JO.pur rfl rfl rfl (Pur.assign rfl) ?_
      refine JO.nil ?_
      refine J.splitB 14 rfl (fun h14 => ?_) (fun h14 => ?_)
      · try simp only [decide_eq_true_eq, decide_eq_false_iff_not, Bool.not_eq_true', Bool.not_eq_false', Bool.and_eq_true, Bool.or_eq_true, Bool.and_eq_false_iff, Bool.or_eq_false_iff, Option.isNone_some, Option.isSome_some, Option.isNone_none, Option.isSome_none, Int.not_lt, Int.not_le, beq_iff_eq, beq_eq_false_iff_ne, bne_iff_ne, ne_eq, Bool.not_not, Decidable.not_not] at h14
        have hns : ¬ samD rs ss := h14
        refine J.condT rfl rfl ?_
        refine J.seq rfl ?_
        refine J.region rfl ?_
        refine JO.pur rfl rfl rfl (Pur.assign rfl) ?_
        refine JO.nil ?_
        refine J.ret rfl rfl ?_
        first
        | exact ⟨_, _, ⟨rfl, rfl⟩, congrArg (Value.int .i64) (by unfold twoS; rw [if_pos hbad]), SubC.out⟩
        | exact ⟨_, _, ⟨rfl, rfl⟩, congrArg (Value.int .i64) (by unfold twoS; rw [if_neg (not_not_intro ⟨hs1, hs2⟩), if_pos hns]), SubC.out⟩
        | exact ⟨_, _, ⟨rfl, rfl⟩, congrArg (Value.int .i64) (by unfold twoS; rw [if_neg (not_not_intro ⟨hs1, hs2⟩), if_neg (not_not_intro hsm)]), SubC.out⟩
      · try simp only [decide_eq_true_eq, decide_eq_false_iff_not, Bool.not_eq_true', Bool.not_eq_false', Bool.and_eq_true, Bool.or_eq_true, Bool.and_eq_false_iff, Bool.or_eq_false_iff, Option.isNone_some, Option.isSome_some, Option.isNone_none, Option.isSome_none, Int.not_lt, Int.not_le, beq_iff_eq, beq_eq_false_iff_ne, bne_iff_ne, ne_eq, Bool.not_not, Decidable.not_not] at h14
        have hsm : samD rs ss := h14
        refine J.condF rfl rfl ?_
        refine J.skip rfl ?_
        refine J.inBlock ?_
        refine J.seq rfl ?_
        refine J.region rfl ?_
        refine JO.pur rfl rfl rfl (Pur.assign rfl) ?_
        refine JO.nil ?_
        refine J.ret rfl rfl ?_
        first
        | exact ⟨_, _, ⟨rfl, rfl⟩, congrArg (Value.int .i64) (by unfold twoS; rw [if_pos hbad]), SubC.out⟩
        | exact ⟨_, _, ⟨rfl, rfl⟩, congrArg (Value.int .i64) (by unfold twoS; rw [if_neg (not_not_intro ⟨hs1, hs2⟩), if_pos hns]), SubC.out⟩
        | exact ⟨_, _, ⟨rfl, rfl⟩, congrArg (Value.int .i64) (by unfold twoS; rw [if_neg (not_not_intro ⟨hs1, hs2⟩), if_neg (not_not_intro hsm)]), SubC.out⟩

end Go.Proofs.Ytnhippfllgnngaa

/- The text SM10. -/
set_option linter.unusedVariables false
set_option linter.unusedSimpArgs false
set_option maxRecDepth 10000
namespace Go.Proofs.Ytnhippfllgnngaa
open Go Go.KK Dm

theorem eqRows_ok {L : List Asn} {la lb : Option Addr} {ln lc lm lq : Nat} {hs gs : List Hdr} {xss yss : List (List Int)} [SlIn hE L la hs] [RowsR intE L hs xss] [SlIn hE L lb gs] [RowsR intE L gs yss] (hl : ln = hs.length) (hl2 : lm = gs.length) (hb : xss.length ≤ 1000000) (hrow : ∀ x ∈ xss, x.length ≤ 1000000) :
    CallS Try.prog 123 [.slice la ln lc, .slice lb lm lq, .func (.func 119) #[] #[]].toArray L (fun v M => v = .bool (decide (xss = yss)) ∧ M = L) := by
  subst hl
  subst hl2
  refine CallS.fact (fun h s => RowsR.len (E := intE) (hs := hs) (xss := xss) s) fun hnn => ?_
  have hhl : hs.length = xss.length := rows_len hnn
  refine CallS.fact (fun h s => RowsR.len (E := intE) (hs := gs) (xss := yss) s) fun hnn2 => ?_
  have hgl : gs.length = yss.length := rows_len hnn2
  refine CallS.ent ?_
  refine CallS.enter Try.func123 rfl rfl rfl rfl rfl ?_
  refine J.seq rfl ?_
  refine J.region rfl ?_
  refine JO.pur rfl rfl rfl (Pur.assign rfl) ?_
  refine JO.nil ?_
  refine J.seq rfl ?_
  refine J.seq rfl ?_
  refine J.region rfl ?_
  refine JO.pur rfl rfl rfl (Pur.move rfl) ?_
  refine JO.pur rfl rfl rfl (Pur.len rfl) ?_
  refine JO.pur rfl rfl rfl (Pur.move rfl) ?_
  refine JO.pur rfl rfl rfl (Pur.len rfl) ?_
  refine JO.pur rfl rfl rfl (Pur.neqI rfl rfl) ?_
  refine JO.nil ?_
  refine J.splitB 14 rfl (fun h14 => ?_) (fun h14 => ?_)
  · try simp only [decide_eq_true_eq, decide_eq_false_iff_not, Bool.not_eq_true', Bool.not_eq_false', Bool.and_eq_true, Bool.or_eq_true, Bool.and_eq_false_iff, Bool.or_eq_false_iff, Option.isNone_some, Option.isSome_some, Option.isNone_none, Option.isSome_none, Int.not_lt, Int.not_le, beq_iff_eq, beq_eq_false_iff_ne, bne_iff_ne, ne_eq, Bool.not_not, Decidable.not_not] at h14
    refine J.condT rfl rfl ?_
    refine J.seq rfl ?_
    refine J.region rfl ?_
    refine JO.pur rfl rfl rfl (Pur.assign rfl) ?_
    refine JO.nil ?_
    refine J.ret rfl rfl ?_
    exact ⟨_, _, ⟨rfl, rfl⟩, congrArg Value.bool (decide_eq_false (fun e => by have := congrArg List.length e; omega)).symm, SubC.out⟩
  · try simp only [decide_eq_true_eq, decide_eq_false_iff_not, Bool.not_eq_true', Bool.not_eq_false', Bool.and_eq_true, Bool.or_eq_true, Bool.and_eq_false_iff, Bool.or_eq_false_iff, Option.isNone_some, Option.isSome_some, Option.isNone_none, Option.isSome_none, Int.not_lt, Int.not_le, beq_iff_eq, beq_eq_false_iff_ne, bne_iff_ne, ne_eq, Bool.not_not, Decidable.not_not] at h14
    refine J.condF rfl rfl ?_
    refine J.skip rfl ?_
    refine J.seq rfl ?_
    refine J.seq rfl ?_
    refine J.region rfl ?_
    refine JO.pur rfl rfl rfl (Pur.move rfl) ?_
    refine JO.pur rfl rfl rfl (Pur.len rfl) ?_
    refine JO.pur rfl rfl rfl (Pur.move rfl) ?_
    refine JO.nil ?_
    refine J.block rfl ?_
    refine J.loopF (ι := Nat) (fun q => q ≤ xss.length ∧ xss.take q = yss.take q) (fun q => [(17, .int .i64 (q : Int))]) [(1, _), (2, _), (15, _), (16, _)] (fun q => L) (fun q => xss.length - q) 0 rfl (.cons rfl rfl (.cons rfl rfl (.cons rfl rfl (.cons rfl rfl .nil)))) (.cons rfl rfl .nil) (by first | exact fun _ h => h | exact SubC.out | (dsimp only; exact SubC.out)) ⟨Nat.zero_le _, rfl⟩ ?_
    rintro q ⟨hq, hqe⟩ ihq
    try dsimp only
    refine J.seq rfl ?_
    refine J.region rfl ?_
    refine JO.pur rfl rfl rfl (Pur.lss rfl rfl) ?_
    refine JO.nil ?_
    refine J.seq rfl ?_
    refine J.splitB 18 rfl (fun h18 => ?_) (fun h18 => ?_)
    · try simp only [decide_eq_true_eq, decide_eq_false_iff_not, Bool.not_eq_true', Bool.not_eq_false', Bool.and_eq_true, Bool.or_eq_true, Bool.and_eq_false_iff, Bool.or_eq_false_iff, Option.isNone_some, Option.isSome_some, Option.isNone_none, Option.isSome_none, Int.not_lt, Int.not_le, beq_iff_eq, beq_eq_false_iff_ne, bne_iff_ne, ne_eq, Bool.not_not, Decidable.not_not] at h18
      have hql : q < xss.length := by omega
      obtain ⟨x, hX1⟩ : ∃ x, xss[q]? = some x := ⟨_, List.getElem?_eq_getElem (by omega)⟩
      obtain ⟨y, hX2⟩ : ∃ y, yss[q]? = some y := ⟨_, List.getElem?_eq_getElem (by omega)⟩
      obtain ⟨h1d, hH1⟩ : ∃ h1d, hs[q]? = some h1d := ⟨_, List.getElem?_eq_getElem (by omega)⟩
      obtain ⟨h2d, hH2⟩ : ∃ h2d, gs[q]? = some h2d := ⟨_, List.getElem?_eq_getElem (by omega)⟩
      have hn1 := hdr_n hnn hH1 hX1
      have hn2 := hdr_n hnn2 hH2 hX2
      have hxl := hrow x (List.mem_of_getElem? hX1)
      refine J.condT rfl rfl ?_
      refine J.skip rfl ?_
      refine J.seq rfl ?_
      refine J.block rfl ?_
      refine J.seq rfl ?_
      refine J.region rfl ?_
      refine JO.pur rfl rfl rfl (Pur.move rfl) ?_
      refine JO.pur rfl rfl rfl (Pur.idx rfl rfl rfl (by first | rfl | (simp; done) | omega) rfl (by omega)) ?_
      refine JO.pur rfl rfl rfl (Pur.load rfl (CellIn.el0 rfl hH1 rfl)) ?_
      refine JO.setv (u' := .slice h1d.a h1d.n h1d.cap) 21 rfl rfl ?_
      refine JO.pur rfl rfl rfl (Pur.assign rfl) ?_
      refine JO.pur rfl rfl rfl (Pur.assign rfl) ?_
      refine JO.nil ?_
      refine J.seq rfl ?_
      refine J.region rfl ?_
      refine JO.pur rfl rfl rfl (Pur.move rfl) ?_
      refine JO.pur rfl rfl rfl (Pur.move rfl) ?_
      refine JO.pur rfl rfl rfl (Pur.idx rfl rfl rfl (by first | rfl | (simp; done) | omega) rfl (by omega)) ?_
      refine JO.pur rfl rfl rfl (Pur.load rfl (CellIn.el0 rfl hH2 rfl)) ?_
      refine JO.setv (u' := .slice h2d.a h2d.n h2d.cap) 25 rfl rfl ?_
      refine JO.pur rfl rfl rfl (Pur.assign rfl) ?_
      refine JO.nil ?_
      refine J.seq rfl ?_
      refine J.region rfl ?_
      refine JO.pur rfl rfl rfl (Pur.move rfl) ?_
      refine JO.pur rfl rfl rfl (Pur.move rfl) ?_
      refine JO.pur rfl rfl rfl (Pur.move rfl) ?_
      refine JO.effR rfl rfl rfl (Eff.callV rfl rfl (@eqInts_ok _ _ _ _ _ _ _ x y (RowsR.row (E := intE) inferInstance hH1 hX1) (RowsR.row (E := intE) inferInstance hH2 hX2) hn1 hn2 hxl)) ?_
      refine JO.pur rfl rfl rfl (Pur.not rfl) ?_
      refine JO.nil ?_
      refine J.splitB 30 rfl (fun h30 => ?_) (fun h30 => ?_)
      · try simp only [decide_eq_true_eq, decide_eq_false_iff_not, Bool.not_eq_true', Bool.not_eq_false', Bool.and_eq_true, Bool.or_eq_true, Bool.and_eq_false_iff, Bool.or_eq_false_iff, Option.isNone_some, Option.isSome_some, Option.isNone_none, Option.isSome_none, Int.not_lt, Int.not_le, beq_iff_eq, beq_eq_false_iff_ne, bne_iff_ne, ne_eq, Bool.not_not, Decidable.not_not] at h30
        have hns : ¬ xss = yss := fun e => by rw [e] at hX1; rw [hX1] at hX2; exact h30 (Option.some.inj hX2)
        refine J.condT rfl rfl ?_
        refine J.seq rfl ?_
        refine J.region rfl ?_
        refine JO.pur rfl rfl rfl (Pur.assign rfl) ?_
        refine JO.nil ?_
        refine J.ret rfl rfl ?_
        exact ⟨_, _, ⟨rfl, rfl⟩, congrArg Value.bool (decide_eq_false hns).symm, SubC.out⟩
      · try simp only [decide_eq_true_eq, decide_eq_false_iff_not, Bool.not_eq_true', Bool.not_eq_false', Bool.and_eq_true, Bool.or_eq_true, Bool.and_eq_false_iff, Bool.or_eq_false_iff, Option.isNone_some, Option.isSome_some, Option.isNone_none, Option.isSome_none, Int.not_lt, Int.not_le, beq_iff_eq, beq_eq_false_iff_ne, bne_iff_ne, ne_eq, Bool.not_not, Decidable.not_not] at h30
        have hxy : x = y := h30
        refine J.condF rfl rfl ?_
        refine J.skip rfl ?_
        refine J.inBlock ?_
        refine J.region rfl ?_
        refine JO.pur rfl rfl rfl (Pur.add rfl rfl (wr64 (by omega))) ?_
        refine JO.pur rfl rfl rfl (Pur.move rfl) ?_
        refine JO.nil ?_
        exact J.weaken (.cons rfl (congrArg (Value.int .i64) (by first | rfl | (dsimp only; omega))) (.cons rfl rfl (.cons rfl rfl (.cons rfl rfl (.cons rfl rfl .nil))))) (by first | exact fun _ h => h | exact SubC.out | (dsimp only; exact SubC.out)) (ihq (q + 1) ⟨by omega, by rw [take_get hX1, take_get hX2, hqe, hxy]⟩ (by omega))
    · try simp only [decide_eq_true_eq, decide_eq_false_iff_not, Bool.not_eq_true', Bool.not_eq_false', Bool.and_eq_true, Bool.or_eq_true, Bool.and_eq_false_iff, Bool.or_eq_false_iff, Option.isNone_some, Option.isSome_some, Option.isNone_none, Option.isSome_none, Int.not_lt, Int.not_le, beq_iff_eq, beq_eq_false_iff_ne, bne_iff_ne, ne_eq, Bool.not_not, Decidable.not_not] at h18
      refine J.condF rfl rfl ?_
      refine J.exit rfl rfl ?_
      refine J.seq rfl ?_
      refine J.region rfl ?_
      refine JO.pur rfl rfl rfl (Pur.assign rfl) ?_
      refine JO.nil ?_
      refine J.ret rfl rfl ?_
      exact ⟨_, _, ⟨rfl, rfl⟩, congrArg Value.bool (decide_eq_true (by rw [List.take_of_length_le (by omega), List.take_of_length_le (by omega)] at hqe; exact hqe)).symm, SubC.out⟩

theorem s_Same {L : List Asn} {a la b lb : Option Addr} {n cap ln lc m cq lm lq : Nat} {rs ss : List Rg} {hs gs : List Hdr} {xss yss : List (List Int)} [SlIn rgE L a rs] [SlIn hE L la hs] [RowsR intE L hs xss] [SlIn rgE L b ss] [SlIn hE L lb gs] [RowsR intE L gs yss] (hn : n = rs.length) (hl : ln = hs.length) (hm : m = ss.length) (hl2 : lm = gs.length) :
    CallS Try.prog 56 [.agg #[.slice a n cap, .slice la ln lc], .agg #[.slice b m cq, .slice lb lm lq]].toArray L (fun v M => v = .bool (decide (twoS rs xss ss yss = 0 ∧ xss = yss)) ∧ M = L) := by
  subst hn
  subst hl
  subst hm
  subst hl2
  refine CallS.fact (fun h s => RowsR.len (E := intE) (hs := hs) (xss := xss) s) fun hnn => ?_
  have hhl : hs.length = xss.length := rows_len hnn
  refine CallS.fact (fun h s => RowsR.len (E := intE) (hs := gs) (xss := yss) s) fun hnn2 => ?_
  have hgl : gs.length = yss.length := rows_len hnn2
  refine CallS.ent ?_
  refine CallS.enter Try.func56 rfl rfl rfl rfl rfl ?_
  refine J.seq rfl ?_
  refine J.region rfl ?_
  refine JO.eff rfl rfl rfl (Eff.box (cs := [_, _]) rfl rfl) ?_
  rintro _ _ ⟨b2, rfl, rfl⟩
  refine JO.eff rfl rfl rfl (Eff.box (cs := [_, _]) rfl rfl) ?_
  rintro _ _ ⟨b3, rfl, rfl⟩
  refine JO.pur rfl rfl rfl (Pur.assign rfl) ?_
  refine JO.nil ?_
  refine J.seq rfl ?_
  refine J.region rfl ?_
  refine JO.pur rfl rfl rfl (Pur.loadA rfl rfl rfl CellsIn.blk) ?_
  refine JO.pur rfl rfl rfl (Pur.loadA rfl rfl rfl CellsIn.blk) ?_
  refine JO.effR rfl rfl rfl (Eff.call rfl (s_two (rs := rs) (ss := ss) (hs := hs) (gs := gs) (xss := xss) (yss := yss) rfl rfl rfl rfl)) ?_
  refine JO.pur rfl rfl rfl (Pur.eqlI rfl rfl) ?_
  refine JO.pur rfl rfl rfl (Pur.move rfl) ?_
  refine JO.splitB 9 rfl (fun h9 => ?_) (fun h9 => ?_)
  · try simp only [decide_eq_true_eq, decide_eq_false_iff_not, Bool.not_eq_true', Bool.not_eq_false', Bool.and_eq_true, Bool.or_eq_true, Bool.and_eq_false_iff, Bool.or_eq_false_iff, Option.isNone_some, Option.isSome_some, Option.isNone_none, Option.isSome_none, Int.not_lt, Int.not_le, beq_iff_eq, beq_eq_false_iff_ne, bne_iff_ne, ne_eq, Bool.not_not, Decidable.not_not] at h9
    have h0 : twoS rs xss ss yss = 0 := by simpa using h9
    obtain ⟨hs1, hs2, hsm⟩ := twoS_ok h0
    have hx4 := hs1.2.1
    have hrow : ∀ y ∈ xss, y.length ≤ 1000000 := fun y hy => by have := okS_len hs1 hy; have := hs1.1.2.1; omega
    refine JO.pur rfl rfl rfl (Pur.fieldAddr rfl) ?_
    refine JO.pur rfl rfl rfl (Pur.load rfl (CellIn.blk rfl)) ?_
    refine JO.pur rfl rfl rfl (Pur.fieldAddr rfl) ?_
    refine JO.pur rfl rfl rfl (Pur.load rfl (CellIn.blk rfl)) ?_
    refine JO.effR rfl rfl rfl (Eff.call rfl (eqRows_ok (hs := hs) (gs := gs) (xss := xss) (yss := yss) rfl rfl (by omega) hrow)) ?_
    refine JO.pur rfl rfl rfl (Pur.pickT rfl rfl) ?_
    refine JO.pur rfl rfl rfl (Pur.assign rfl) ?_
    refine JO.nil ?_
    refine J.ret rfl rfl ?_
    exact ⟨_, _, ⟨rfl, rfl⟩, congrArg Value.bool (decide_eq_decide.2 ⟨fun g => ⟨h0, g⟩, fun g => g.2⟩), SubC.out⟩
  · try simp only [decide_eq_true_eq, decide_eq_false_iff_not, Bool.not_eq_true', Bool.not_eq_false', Bool.and_eq_true, Bool.or_eq_true, Bool.and_eq_false_iff, Bool.or_eq_false_iff, Option.isNone_some, Option.isSome_some, Option.isNone_none, Option.isSome_none, Int.not_lt, Int.not_le, beq_iff_eq, beq_eq_false_iff_ne, bne_iff_ne, ne_eq, Bool.not_not, Decidable.not_not] at h9
    have hne : ¬ twoS rs xss ss yss = 0 := by simpa using h9
    refine JO.no rfl rfl rfl ?_
    refine JO.no rfl rfl rfl ?_
    refine JO.no rfl rfl rfl ?_
    refine JO.no rfl rfl rfl ?_
    refine JO.no rfl rfl rfl ?_
    refine JO.pur rfl rfl rfl (Pur.pickF rfl rfl) ?_
    refine JO.pur rfl rfl rfl (Pur.assign rfl) ?_
    refine JO.nil ?_
    refine J.ret rfl rfl ?_
    exact ⟨_, _, ⟨rfl, rfl⟩, congrArg Value.bool (decide_eq_false (fun g => hne g.1)).symm, SubC.out⟩

end Go.Proofs.Ytnhippfllgnngaa

/- The text SpPlainH. -/
set_option linter.unusedVariables false
set_option linter.unusedSimpArgs false
namespace Go.Proofs.Ytnhippfllgnngaa
open Go Go.KK Dm
theorem made_mem {rs : List Rg} {ls : List (List Int)} (hok : okD rs) (hall : ∀ x ∈ ls, (plD rs x).isSome = true) (x : List Int) : x ∈ madeL rs (ls.map (atS rs)) ↔ x ∈ ls := by
  unfold madeL
  constructor
  · intro h
    obtain ⟨i, hi, e⟩ := List.mem_map.1 h
    obtain ⟨hi1, hi2⟩ := List.mem_filter.1 hi
    have hlt := List.mem_range.1 hi1
    obtain ⟨y, hy, e2⟩ := List.mem_map.1 (of_decide_eq_true hi2)
    have hx : plD rs x = some i := (plD_iff hok.2.2.1).2 (by rw [← e]; exact ixD_get hlt)
    have hat : atS rs x = atS rs y := by unfold atS at e2 ⊢; rw [hx]; exact e2.symm
    rw [atS_inj hok.2.2.1 (by rw [hx]; rfl) (hall y hy) hat]; exact hy
  · intro h
    obtain ⟨i, hi⟩ := Option.isSome_iff_exists.1 (hall x h)
    have hlt := plD_lt hok.2.2.1 hi
    have hat : atS rs x = (i : Int) := by unfold atS; rw [hi]; rfl
    refine List.mem_map.2 ⟨i, List.mem_filter.2 ⟨List.mem_range.2 hlt, decide_eq_true (List.mem_map.2 ⟨x, h, hat⟩)⟩, ?_⟩
    have h1 := (plD_iff hok.2.2.1).1 hi
    have h2 := ixD_get hlt
    rw [h1] at h2; exact (Option.some.inj h2).symm
/-- What is made is a sparse domain. -/
theorem made_asc {rs : List Rg} (hok : okD rs) (ts : List Int) : (∀ x ∈ madeL rs ts, (plD rs x).isSome = true) ∧ (madeL rs ts).Pairwise fun x y => atS rs x < atS rs y := by
  have hpl : ∀ i, i < cntD rs → plD rs (ixD rs i) = some i := fun i hi => (plD_iff hok.2.2.1).2 (ixD_get hi)
  unfold madeL
  refine ⟨fun x hx => ?_, ?_⟩
  · obtain ⟨i, hi, rfl⟩ := List.mem_map.1 hx
    rw [hpl i (List.mem_range.1 (List.mem_filter.1 hi).1)]; rfl
  · rw [List.pairwise_map]
    refine (List.pairwise_lt_range.filter _).imp_of_mem ?_
    intro i j hi hj hlt
    unfold atS
    rw [hpl i (List.mem_range.1 (List.mem_filter.1 hi).1), hpl j (List.mem_range.1 (List.mem_filter.1 hj).1)]
    exact Int.ofNat_lt.2 hlt
theorem made_ok' {rs : List Rg} (hok : okD rs) {ts : List Int} (hl : (madeL rs ts).length ≤ 400) : okS rs (madeL rs ts) := okS_of hok hl (made_asc hok ts).1 (made_asc hok ts).2
theorem made_self {rs : List Rg} {xss : List (List Int)} (h : okS rs xss) : madeL rs (xss.map (atS rs)) = xss := made_of h.1 (fun y hy => okS_some h hy) (okS_pw h)
/-- What follows of a join without an error. -/
theorem addS_ok {rs : List Rg} {xss yss : List (List Int)} (h : (addS rs xss yss).2 = 0) : okS rs xss ∧ (∀ y ∈ yss, (plV rs y).2 = 0) ∧ (madeL rs ((xss ++ yss).map (atS rs))).length ≤ 400 ∧ addS rs xss yss = ((rs, madeL rs ((xss ++ yss).map (atS rs))), 0) := by
  unfold addS at h ⊢
  by_cases h1 : okS rs xss
  · rw [if_neg (not_not_intro h1)] at h ⊢
    by_cases h2 : ∀ y ∈ yss, (plV rs y).2 = 0
    · rw [if_neg (not_not_intro h2)] at h ⊢
      by_cases h3 : 400 < (madeL rs ((xss ++ yss).map (atS rs))).length
      · rw [if_pos h3] at h; cases h
      · rw [if_neg h3]; exact ⟨h1, h2, by omega, rfl⟩
    · rw [if_pos h2] at h; cases h
  · rw [if_pos h1] at h; cases h
theorem addS_all {rs : List Rg} {xss yss : List (List Int)} (h : okS rs xss) (h2 : ∀ y ∈ yss, (plV rs y).2 = 0) : ∀ x ∈ xss ++ yss, (plD rs x).isSome = true := fun x hx => by
  rcases List.mem_append.1 hx with hx | hx
  · exact okS_some h hx
  · exact (plV_ok h.1 x).1.1 (h2 x hx)
end Go.Proofs.Ytnhippfllgnngaa

/- The text SpPlainI. -/
set_option linter.unusedVariables false
set_option linter.unusedSimpArgs false
namespace Go.Proofs.Ytnhippfllgnngaa
open Go Go.KK Dm
def ordN (rs : List Rg) (xss yss : List (List Int)) (k : Nat) : List (List Int) := madeL rs ((xss ++ yss.take k).map (atS rs))
theorem ord_zero {rs : List Rg} {xss yss : List (List Int)} (h : okS rs xss) : ordN rs xss yss 0 = xss := by unfold ordN; rw [List.take_zero, List.append_nil]; exact made_self h
theorem ord_all {rs : List Rg} {xss yss : List (List Int)} : ordN rs xss yss yss.length = madeL rs ((xss ++ yss).map (atS rs)) := by unfold ordN; rw [List.take_length]
theorem ord_some {rs : List Rg} {xss yss : List (List Int)} {k : Nat} (h : okS rs xss) (h2 : ∀ y ∈ yss, (plV rs y).2 = 0) : ∀ x ∈ xss ++ yss.take k, (plD rs x).isSome = true := addS_all h fun y hy => h2 y (List.mem_of_mem_take hy)
theorem made_mono {rs : List Rg} {a b : List Int} (h : ∀ t ∈ a, t ∈ b) : (madeL rs a).length ≤ (madeL rs b).length := by
  rw [made_len, made_len]
  exact List.countP_mono_left fun i _ hi => decide_eq_true (h _ (of_decide_eq_true hi))
theorem ord_len {rs : List Rg} {xss yss : List (List Int)} {k : Nat} : (ordN rs xss yss k).length ≤ (madeL rs ((xss ++ yss).map (atS rs))).length := by
  refine made_mono fun t ht => ?_
  obtain ⟨x, hx, rfl⟩ := List.mem_map.1 ht
  refine List.mem_map.2 ⟨x, ?_, rfl⟩
  rcases List.mem_append.1 hx with hx | hx
  · exact List.mem_append_left _ hx
  · exact List.mem_append_right _ (List.mem_of_mem_take hx)
theorem ord_step {rs : List Rg} {xss yss : List (List Int)} {k : Nat} {x : List Int} (h : okS rs xss) (h2 : ∀ y ∈ yss, (plV rs y).2 = 0) (hx : yss[k]? = some x) : (x ∈ ordN rs xss yss k → ordN rs xss yss (k + 1) = ordN rs xss yss k) ∧ madeL rs ((ordN rs xss yss k ++ [x]).map (atS rs)) = ordN rs xss yss (k + 1) := by
  have hk : k < yss.length := (List.getElem?_eq_some_iff.1 hx).1
  have ht : yss.take (k + 1) = yss.take k ++ [x] := by rw [List.take_add_one, hx]; rfl
  have hm := fun z => made_mem (ls := xss ++ yss.take k) h.1 (ord_some h h2) z
  constructor
  · intro hin
    unfold ordN
    refine made_congr fun t => ?_
    rw [ht, ← List.append_assoc, List.map_append, List.mem_append, List.map_singleton, List.mem_singleton]
    constructor
    · rintro (g | g)
      · exact g
      · exact List.mem_map.2 ⟨x, (hm x).1 hin, g.symm⟩
    · exact Or.inl
  · unfold ordN
    refine made_congr fun t => ?_
    rw [ht, ← List.append_assoc, List.map_append, List.map_append (f := atS rs) (l₁ := xss ++ yss.take k)]
    simp only [List.mem_append, List.mem_map]
    constructor
    · rintro (⟨z, hz, e⟩ | g)
      · exact .inl ⟨z, List.mem_append.1 ((hm z).1 hz), e⟩
      · exact .inr g
    · rintro (⟨z, hz, e⟩ | g)
      · exact .inl ⟨z, (hm z).2 (List.mem_append.2 hz), e⟩
      · exact .inr g
theorem add_rev {rs : List Rg} {xss yss : List (List Int)} (h : (addS rs xss yss).2 = 0) : addS rs xss yss.reverse = addS rs xss yss ∧ addN rs xss yss.reverse = addN rs xss yss := by
  obtain ⟨h1, h2, h3, h4⟩ := addS_ok h
  have e : madeL rs ((xss ++ yss.reverse).map (atS rs)) = madeL rs ((xss ++ yss).map (atS rs)) := made_congr fun t => by
    simp only [List.map_append, List.mem_append, List.map_reverse, List.mem_reverse]
  have e2 : addS rs xss yss.reverse = addS rs xss yss := by
    rw [h4]
    unfold addS
    rw [if_neg (not_not_intro h1), if_neg (not_not_intro fun y hy => h2 y (List.mem_reverse.1 hy)), e, if_neg (by omega)]
  exact ⟨e2, by unfold addN; rw [e2]⟩
theorem two_self {rs : List Rg} {zs : List (List Int)} (h : okS rs zs) : twoS rs zs rs zs = 0 := by
  unfold twoS
  rw [if_neg (not_not_intro ⟨h, h⟩), if_neg (not_not_intro ⟨h.1, h.1, rfl⟩)]
/-- A sparse domain that can be read under one assertion and what follows of a list. -/
structure SpIn (L : List Asn) (A : Asn) (pa : Option Addr) (rs : List Rg) (qa : Option Addr) (qc : Nat) (hz : List Hdr) (zs : List (List Int)) : Prop where
  len : hz.length = zs.length
  nil : qa = none → hz.length = 0 ∧ qc = 0
  rg : ∀ M, (∀ h, Sat h M → Sat h L) → SlIn rgE (A :: M) pa rs
  hd : ∀ M, (∀ h, Sat h M → Sat h L) → SlIn hE (A :: M) qa hz
  rw_ : ∀ M, (∀ h, Sat h M → Sat h L) → RowsR intE (A :: M) hz zs
theorem SpIn.arg {L : List Asn} {pa qa : Option Addr} {qc : Nat} {rs : List Rg} {hz : List Hdr} {zs : List (List Int)} [h1 : SlIn rgE L pa rs] [h2 : SlIn hE L qa hz] [h3 : RowsR intE L hz zs] (hl : hz.length = zs.length) (hn : qa = none → hz.length = 0 ∧ qc = 0) : SpIn L (sl intE none 0 []) pa rs qa qc hz zs :=
  ⟨hl, hn, fun M hm => ⟨fun h s => h1.out h (hm h s.tail)⟩, fun M hm => ⟨fun h s => h2.out h (hm h s.tail)⟩, fun M hm => ⟨fun h s => h3.out h (hm h s.tail)⟩⟩
theorem SpIn.own {L : List Asn} {pa qa : Option Addr} {pc qc : Nat} {rs : List Rg} {hz : List Hdr} {zs : List (List Int)} (hl : hz.length = zs.length) (hn : qa = none → hz.length = 0 ∧ qc = 0) : SpIn L (star [sl rgE pa pc rs, sl hE qa qc hz, rows intE hz zs]) pa rs qa qc hz zs :=
  ⟨hl, hn, fun M hm => ⟨fun h s => (inferInstance : SlIn rgE (sl rgE pa pc rs :: sl hE qa qc hz :: rows intE hz zs :: M) pa rs).out h (Sat.star.1 s)⟩,
    fun M hm => ⟨fun h s => (inferInstance : SlIn hE (sl rgE pa pc rs :: sl hE qa qc hz :: rows intE hz zs :: M) qa hz).out h (Sat.star.1 s)⟩,
    fun M hm => ⟨fun h s => (inferInstance : RowsR intE (sl rgE pa pc rs :: sl hE qa qc hz :: rows intE hz zs :: M) hz zs).out h (Sat.star.1 s)⟩⟩
theorem SpIn.cast {L : List Asn} {A : Asn} {pa qa : Option Addr} {qc : Nat} {rs : List Rg} {hz : List Hdr} {zs zs' : List (List Int)} (h : SpIn L A pa rs qa qc hz zs) (e : zs' = zs) : SpIn L A pa rs qa qc hz zs' := by subst e; exact h
theorem rowsR_rev {α : Type} {E : Enc α} {L : List Asn} {hs : List Hdr} {xss : List (List α)} (hr : RowsR E L hs xss) : RowsR E L hs.reverse xss.reverse := ⟨fun h s => by
  obtain ⟨a, b⟩ := hr.out h s
  have hl : hs.length = xss.length := rows_len a
  refine ⟨by rw [List.map_reverse, List.map_reverse, a], fun i hd xs e1 e2 => ?_⟩
  have hi : i < hs.length := by have := (List.getElem?_eq_some_iff.1 e1).1; rwa [List.length_reverse] at this
  rw [List.getElem?_reverse hi] at e1
  rw [List.getElem?_reverse (by omega), ← hl] at e2
  exact b _ hd xs e1 e2⟩
end Go.Proofs.Ytnhippfllgnngaa

/- The text SN1. -/
set_option linter.unusedVariables false
set_option linter.unusedSimpArgs false
set_option maxRecDepth 10000
namespace Go.Proofs.Ytnhippfllgnngaa
open Go Go.KK Dm

theorem long_b {xss : List (List Int)} (h : ¬ longV xss = true) : xss.length ≤ 200 ∧ ∀ x ∈ xss, x.length ≤ 20 := by
  unfold longV at h
  simp only [Bool.not_eq_true', Bool.not_eq_false', Bool.not_eq_true, decide_eq_false_iff_not, Decidable.not_not, decide_eq_true_eq] at h
  first
  | exact ⟨h.2, h.1⟩
  | (have h2 := of_decide_eq_true (by simpa using h : decide ((∀ x ∈ xss, x.length ≤ 20) ∧ xss.length ≤ 200) = true); exact ⟨h2.2, h2.1⟩)
end Go.Proofs.Ytnhippfllgnngaa
