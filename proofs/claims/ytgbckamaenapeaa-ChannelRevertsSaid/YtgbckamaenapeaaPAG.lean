/-
  A part of the proof of the claim that this folder bears.
-/
import Derived.Test.YtgbckamaenapeaaPAF
import Derived.Test.YtgbckamaenapeaaPAA
/- The text HLaw1. -/
set_option linter.unusedVariables false
set_option linter.unusedSimpArgs false
set_option maxRecDepth 10000
namespace Go.Proofs.Ytgbckamaenapeaa
open Go Go.KK Hf

theorem eqPair (x y : Int × Int) (w : World) : (Op.equal 29 (.agg (pairE.enc x).toArray) (.agg (pairE.enc y).toArray)).run Try.prog w = .ok (decide (x = y)) w := by
  have hu := run_underlying (P := Try.prog) Try.underlying29 w
  have hi : (sizeOf 3).run Try.prog w = .ok 1 w := run_sizeOf_of (by kernel_rfl)
  have hs := Scl.run (P := Try.prog) (t := 3) (w := w) (by kernel_rfl)
  have he := fun a b => run_equalIn_int (P := Try.prog) w 9998 3 .i64 .i64 a b Try.underlying3
  obtain ⟨a, b⟩ := x
  obtain ⟨c, d⟩ := y
  unfold Op.equal
  rw [show Op.maxDepth = 9999 + 1 from rfl, Op.equalIn.eq_def]
  simp only [pairE, Sem.run_bind, hu, hi, Result.andThen_ok]
  simp [Std.Legacy.Range.forIn_eq_forIn_range', List.range', part, hs, he]
  by_cases h1 : a = c <;> by_cases h2 : b = d <;> simp [h1, h2]
instance : EqE Try.prog 29 pairE := ⟨by kernel_rfl, eqPair⟩
theorem channelCuts_ok {L : List Asn} {a : Option Addr} {m cap : Nat} {hs : List Hdr} {parts : List (List UInt8)} [SlIn hbE L a hs] [RowsR byE L hs parts] (hm : m = hs.length) (size n : Int) :
    CallS Try.prog 3 [.int .i64 size, .int .i64 n, .slice a m cap].toArray L (fun v M => v = .bool true ∧ M = L) := by
  subst hm
  refine CallS.fact (fun h s => RowsR.len (E := byE) (hs := hs) (xss := parts) s) fun hnn => ?_
  have hhl : hs.length = parts.length := rows_len hnn
  refine CallS.ent ?_
  refine CallS.enter Try.func3 rfl rfl rfl rfl rfl ?_
  refine J.seq rfl ?_
  refine J.region rfl ?_
  refine JO.pur rfl rfl rfl (Pur.assign rfl) ?_
  refine JO.nil ?_
  refine J.seq rfl ?_
  refine J.seq rfl ?_
  refine J.region rfl ?_
  refine JO.pur rfl rfl rfl (Pur.move rfl) ?_
  refine JO.pur rfl rfl rfl (Pur.len rfl) ?_
  refine JO.pur rfl rfl rfl (Pur.gtr rfl rfl) ?_
  refine JO.nil ?_
  refine J.splitB 17 rfl (fun h17 => ?_) (fun h17 => ?_)
  · try simp only [decide_eq_true_eq, decide_eq_false_iff_not, Bool.not_eq_true', Bool.not_eq_false', Bool.and_eq_true, Bool.or_eq_true, Bool.and_eq_false_iff, Bool.or_eq_false_iff, Option.isNone_some, Option.isSome_some, Option.isNone_none, Option.isSome_none, Int.not_lt, Int.not_le, beq_iff_eq, beq_eq_false_iff_ne, bne_iff_ne, ne_eq, Bool.not_not, Decidable.not_not] at h17
    refine J.condT rfl rfl ?_
    refine J.seq rfl ?_
    refine J.region rfl ?_
    refine JO.effR rfl rfl rfl (Eff.call rfl (first_ok)) ?_
    refine JO.pur rfl rfl rfl (Pur.assign rfl) ?_
    refine JO.nil ?_
    refine J.ret rfl rfl ?_
    exact ⟨_, _, ⟨rfl, rfl⟩, rfl, SubC.out⟩
  · try simp only [decide_eq_true_eq, decide_eq_false_iff_not, Bool.not_eq_true', Bool.not_eq_false', Bool.and_eq_true, Bool.or_eq_true, Bool.and_eq_false_iff, Bool.or_eq_false_iff, Option.isNone_some, Option.isSome_some, Option.isNone_none, Option.isSome_none, Int.not_lt, Int.not_le, beq_iff_eq, beq_eq_false_iff_ne, bne_iff_ne, ne_eq, Bool.not_not, Decidable.not_not] at h17
    refine J.condF rfl rfl ?_
    refine J.skip rfl ?_
    refine J.seq rfl ?_
    refine J.seq rfl ?_
    refine J.region rfl ?_
    refine JO.pur rfl rfl rfl (Pur.assign rfl) ?_
    refine JO.nil ?_
    refine J.block rfl ?_
    refine J.loopF (ι := Nat) (fun q => q ≤ parts.length) (fun q => [(7, .int .i64 (q : Int))]) [(0, _), (1, _), (2, _)] (fun q => L) (fun q => parts.length - q) 0 rfl (.cons rfl rfl (.cons rfl rfl (.cons rfl rfl .nil))) (.cons rfl rfl .nil) (by first | exact fun _ h => h | exact SubC.out | (dsimp only; exact SubC.out)) (Nat.zero_le _) ?_
    rintro k hk ih0
    try dsimp only
    refine J.seq rfl ?_
    refine J.seq rfl ?_
    refine J.region rfl ?_
    refine JO.pur rfl rfl rfl (Pur.move rfl) ?_
    refine JO.pur rfl rfl rfl (Pur.move rfl) ?_
    refine JO.pur rfl rfl rfl (Pur.len rfl) ?_
    refine JO.pur rfl rfl rfl (Pur.lss rfl rfl) ?_
    refine JO.nil ?_
    refine J.splitB 22 rfl (fun h22 => ?_) (fun h22 => ?_)
    · try simp only [decide_eq_true_eq, decide_eq_false_iff_not, Bool.not_eq_true', Bool.not_eq_false', Bool.and_eq_true, Bool.or_eq_true, Bool.and_eq_false_iff, Bool.or_eq_false_iff, Option.isNone_some, Option.isSome_some, Option.isNone_none, Option.isSome_none, Int.not_lt, Int.not_le, beq_iff_eq, beq_eq_false_iff_ne, bne_iff_ne, ne_eq, Bool.not_not, Decidable.not_not] at h22
      have hkp : k < parts.length := by omega
      obtain ⟨hd, hH⟩ : ∃ hd, hs[k]? = some hd := ⟨_, List.getElem?_eq_getElem (by omega)⟩
      refine J.condT rfl rfl ?_
      refine J.skip rfl ?_
      refine J.seq rfl ?_
      refine J.block rfl ?_
      refine J.seq rfl ?_
      refine J.region rfl ?_
      refine JO.pur rfl rfl rfl (Pur.move rfl) ?_
      refine JO.pur rfl rfl rfl (Pur.move rfl) ?_
      refine JO.pur rfl rfl rfl (Pur.idx rfl rfl rfl (by first | rfl | (simp; done) | omega) rfl (by omega)) ?_
      refine JO.pur rfl rfl rfl (Pur.load rfl (CellIn.el0 rfl hH rfl)) ?_
      refine JO.pur rfl rfl rfl (Pur.len rfl) ?_
      refine JO.pur rfl rfl rfl (Pur.gtr rfl rfl) ?_
      refine JO.nil ?_
      refine J.splitB 30 rfl (fun h30 => ?_) (fun h30 => ?_)
      · try simp only [decide_eq_true_eq, decide_eq_false_iff_not, Bool.not_eq_true', Bool.not_eq_false', Bool.and_eq_true, Bool.or_eq_true, Bool.and_eq_false_iff, Bool.or_eq_false_iff, Option.isNone_some, Option.isSome_some, Option.isNone_none, Option.isSome_none, Int.not_lt, Int.not_le, beq_iff_eq, beq_eq_false_iff_ne, bne_iff_ne, ne_eq, Bool.not_not, Decidable.not_not] at h30
        refine J.condT rfl rfl ?_
        refine J.seq rfl ?_
        refine J.region rfl ?_
        refine JO.effR rfl rfl rfl (Eff.call rfl (first_ok)) ?_
        refine JO.pur rfl rfl rfl (Pur.assign rfl) ?_
        refine JO.nil ?_
        refine J.ret rfl rfl ?_
        exact ⟨_, _, ⟨rfl, rfl⟩, rfl, SubC.out⟩
      · try simp only [decide_eq_true_eq, decide_eq_false_iff_not, Bool.not_eq_true', Bool.not_eq_false', Bool.and_eq_true, Bool.or_eq_true, Bool.and_eq_false_iff, Bool.or_eq_false_iff, Option.isNone_some, Option.isSome_some, Option.isNone_none, Option.isSome_none, Int.not_lt, Int.not_le, beq_iff_eq, beq_eq_false_iff_ne, bne_iff_ne, ne_eq, Bool.not_not, Decidable.not_not] at h30
        refine J.condF rfl rfl ?_
        refine J.skip rfl ?_
        refine J.inBlock ?_
        refine J.region rfl ?_
        refine JO.pur rfl rfl rfl (Pur.move rfl) ?_
        refine JO.pur rfl rfl rfl (Pur.add rfl rfl (wr64 (by omega))) ?_
        refine JO.pur rfl rfl rfl (Pur.assign rfl) ?_
        refine JO.nil ?_
        exact J.weaken (.cons rfl (congrArg (Value.int .i64) (by first | rfl | (dsimp only; omega))) (.cons rfl rfl (.cons rfl rfl (.cons rfl rfl .nil)))) (by first | exact fun _ h => h | exact SubC.out | (dsimp only; exact SubC.out)) (ih0 (k + 1) (by omega) (by omega))
    · try simp only [decide_eq_true_eq, decide_eq_false_iff_not, Bool.not_eq_true', Bool.not_eq_false', Bool.and_eq_true, Bool.or_eq_true, Bool.and_eq_false_iff, Bool.or_eq_false_iff, Option.isNone_some, Option.isSome_some, Option.isNone_none, Option.isSome_none, Int.not_lt, Int.not_le, beq_iff_eq, beq_eq_false_iff_ne, bne_iff_ne, ne_eq, Bool.not_not, Decidable.not_not] at h22
      refine J.condF rfl rfl ?_
      refine J.exit rfl rfl ?_
      refine J.seq rfl ?_
      refine J.region rfl ?_
      refine JO.pur rfl rfl rfl (Pur.move rfl) ?_
      refine JO.pur rfl rfl rfl (Pur.move rfl) ?_
      refine JO.eff rfl rfl rfl (Eff.call rfl (Cuts_ok size n)) ?_
      rintro _ _ ⟨a8, c8, rfl, rfl⟩
      refine JO.pur rfl rfl rfl (Pur.move rfl) ?_
      refine JO.pur rfl rfl rfl (Pur.extract rfl rfl) ?_
      refine JO.pur rfl rfl rfl (Pur.extract rfl rfl) ?_
      refine JO.pur rfl rfl rfl (Pur.assign rfl) ?_
      refine JO.pur rfl rfl rfl (Pur.assign rfl) ?_
      refine JO.nil ?_
      refine J.seq rfl ?_
      refine J.region rfl ?_
      refine JO.pur rfl rfl rfl (Pur.move rfl) ?_
      refine JO.pur rfl rfl rfl (Pur.move rfl) ?_
      refine JO.eff rfl rfl rfl (Eff.call rfl (rCuts_ok size n)) ?_
      rintro _ _ ⟨a10, c10, rfl, rfl⟩
      refine JO.pur rfl rfl rfl (Pur.move rfl) ?_
      refine JO.pur rfl rfl rfl (Pur.extract rfl rfl) ?_
      refine JO.pur rfl rfl rfl (Pur.extract rfl rfl) ?_
      refine JO.pur rfl rfl rfl (Pur.assign rfl) ?_
      refine JO.pur rfl rfl rfl (Pur.assign rfl) ?_
      refine JO.nil ?_
      refine J.seq rfl ?_
      refine J.seq rfl ?_
      refine J.region rfl ?_
      refine JO.pur rfl rfl rfl (Pur.move rfl) ?_
      refine JO.pur rfl rfl rfl (Pur.len rfl) ?_
      refine JO.pur rfl rfl rfl (Pur.move rfl) ?_
      refine JO.pur rfl rfl rfl (Pur.len rfl) ?_
      refine JO.pur rfl rfl rfl (Pur.neqI rfl rfl) ?_
      refine JO.setv (u' := .bool false) 48 rfl (congrArg Value.bool (by simp)) ?_
      refine JO.pur rfl rfl rfl (Pur.move rfl) ?_
      refine JO.pur rfl rfl rfl (Pur.move rfl) ?_
      refine JO.pur rfl rfl rfl (Pur.move rfl) ?_
      refine JO.pur rfl rfl rfl (Pur.neqI rfl rfl) ?_
      refine JO.setv (u' := .bool false) 52 rfl (congrArg Value.bool (by simp)) ?_
      refine JO.pur rfl rfl rfl (Pur.pickF rfl rfl) ?_
      refine JO.nil ?_
      refine J.condF rfl rfl ?_
      refine J.skip rfl ?_
      refine J.seq rfl ?_
      refine J.seq rfl ?_
      refine J.region rfl ?_
      refine JO.pur rfl rfl rfl (Pur.assign rfl) ?_
      refine JO.nil ?_
      refine J.block rfl ?_
      refine J.loopF (ι := Nat) (fun q => q ≤ (cutsV size n).1.length) (fun q => [(12, .int .i64 (q : Int))]) [(0, _), (2, _), (8, _), (10, _)] (fun q => sl pairE a8 c8 (cutsV size n).1 :: sl pairE a10 c10 (cutsV size n).1 :: L) (fun q => (cutsV size n).1.length - q) 0 rfl (.cons rfl rfl (.cons rfl rfl (.cons rfl rfl (.cons rfl rfl .nil)))) (.cons rfl rfl .nil) (by first | exact fun _ h => h | exact SubC.out | (dsimp only; exact SubC.out)) (Nat.zero_le _) ?_
      rintro j hj ihj
      try dsimp only
      have hcl9 : (cutsV size n).1.length ≤ 16 := by
        by_cases hb : badC size n
        · rw [cut_bad hb]; simp
        · rw [cut_len hb]; have := cut_in hb; omega
      refine J.seq rfl ?_
      refine J.seq rfl ?_
      refine J.region rfl ?_
      refine JO.pur rfl rfl rfl (Pur.move rfl) ?_
      refine JO.pur rfl rfl rfl (Pur.move rfl) ?_
      refine JO.pur rfl rfl rfl (Pur.len rfl) ?_
      refine JO.pur rfl rfl rfl (Pur.lss rfl rfl) ?_
      refine JO.nil ?_
      refine J.splitB 57 rfl (fun h57 => ?_) (fun h57 => ?_)
      · try simp only [decide_eq_true_eq, decide_eq_false_iff_not, Bool.not_eq_true', Bool.not_eq_false', Bool.and_eq_true, Bool.or_eq_true, Bool.and_eq_false_iff, Bool.or_eq_false_iff, Option.isNone_some, Option.isSome_some, Option.isNone_none, Option.isSome_none, Int.not_lt, Int.not_le, beq_iff_eq, beq_eq_false_iff_ne, bne_iff_ne, ne_eq, Bool.not_not, Decidable.not_not] at h57
        have hjl : j < (cutsV size n).1.length := by omega
        have hx : (cutsV size n).1[j]? = some ((cutsV size n).1[j]) := List.getElem?_eq_getElem hjl
        refine J.condT rfl rfl ?_
        refine J.skip rfl ?_
        refine J.seq rfl ?_
        refine J.block rfl ?_
        refine J.seq rfl ?_
        refine J.quiet rfl Try.mixed (by kernel_rfl) ?_
        refine JQ.pur rfl rfl rfl (Pur.move rfl) ?_
        refine JQ.pur rfl rfl rfl (Pur.move rfl) ?_
        refine JQ.pur rfl rfl rfl (Pur.idx rfl rfl rfl (by first | rfl | (simp; done) | omega) rfl hjl) ?_
        refine JQ.pur rfl rfl rfl (Pur.loadA rfl rfl rfl (CellsIn.el rfl hx)) ?_
        refine JQ.pur rfl rfl rfl (Pur.move rfl) ?_
        refine JQ.pur rfl rfl rfl (Pur.move rfl) ?_
        refine JQ.pur rfl rfl rfl (Pur.idx rfl rfl rfl (by first | rfl | (simp; done) | omega) rfl hjl) ?_
        refine JQ.pur rfl rfl rfl (Pur.loadA rfl rfl rfl (CellsIn.el rfl hx)) ?_
        refine JQ.pur rfl rfl rfl (Pur.neqE rfl rfl) ?_
        refine JQ.setv (u' := .bool false) 68 rfl (congrArg Value.bool (by simp)) ?_
        refine JQ.nil ?_
        refine J.condF rfl rfl ?_
        refine J.skip rfl ?_
        refine J.inBlock ?_
        refine J.region rfl ?_
        refine JO.pur rfl rfl rfl (Pur.move rfl) ?_
        refine JO.pur rfl rfl rfl (Pur.add rfl rfl (wr64 (by omega))) ?_
        refine JO.pur rfl rfl rfl (Pur.assign rfl) ?_
        refine JO.nil ?_
        exact J.weaken (.cons rfl (congrArg (Value.int .i64) (by first | rfl | (dsimp only; omega))) (.cons rfl rfl (.cons rfl rfl (.cons rfl rfl (.cons rfl rfl .nil))))) (by first | exact fun _ h => h | exact SubC.out | (dsimp only; exact SubC.out)) (ihj (j + 1) (by omega) (by omega))
      · try simp only [decide_eq_true_eq, decide_eq_false_iff_not, Bool.not_eq_true', Bool.not_eq_false', Bool.and_eq_true, Bool.or_eq_true, Bool.and_eq_false_iff, Bool.or_eq_false_iff, Option.isNone_some, Option.isSome_some, Option.isNone_none, Option.isSome_none, Int.not_lt, Int.not_le, beq_iff_eq, beq_eq_false_iff_ne, bne_iff_ne, ne_eq, Bool.not_not, Decidable.not_not] at h57
        refine J.condF rfl rfl ?_
        refine J.exit rfl rfl ?_
        refine J.seq rfl ?_
        refine J.region rfl ?_
        refine JO.pur rfl rfl rfl (Pur.move rfl) ?_
        refine JO.pur rfl rfl rfl (Pur.move rfl) ?_
        refine JO.eff rfl rfl rfl (Eff.call rfl (Together_ok (parts := parts) rfl size)) ?_
        rintro _ _ ⟨a13, c13, rfl, rfl⟩
        refine JO.pur rfl rfl rfl (Pur.move rfl) ?_
        refine JO.pur rfl rfl rfl (Pur.extract rfl rfl) ?_
        refine JO.pur rfl rfl rfl (Pur.extract rfl rfl) ?_
        refine JO.pur rfl rfl rfl (Pur.assign rfl) ?_
        refine JO.pur rfl rfl rfl (Pur.assign rfl) ?_
        refine JO.nil ?_
        refine J.seq rfl ?_
        refine J.region rfl ?_
        refine JO.pur rfl rfl rfl (Pur.move rfl) ?_
        refine JO.pur rfl rfl rfl (Pur.move rfl) ?_
        refine JO.eff rfl rfl rfl (Eff.call rfl (rTogether_ok (parts := parts) rfl size)) ?_
        rintro _ _ ⟨a14, c14, rfl, rfl⟩
        refine JO.pur rfl rfl rfl (Pur.move rfl) ?_
        refine JO.pur rfl rfl rfl (Pur.extract rfl rfl) ?_
        refine JO.pur rfl rfl rfl (Pur.extract rfl rfl) ?_
        refine JO.pur rfl rfl rfl (Pur.assign rfl) ?_
        refine JO.pur rfl rfl rfl (Pur.assign rfl) ?_
        refine JO.nil ?_
        refine J.seq rfl ?_
        refine J.region rfl ?_
        refine JO.pur rfl rfl rfl (Pur.move rfl) ?_
        refine JO.pur rfl rfl rfl (Pur.move rfl) ?_
        refine JO.effR rfl rfl rfl (Eff.call rfl (same_ok (xs := (togV size parts).1) (ys := (togV size parts).1) rfl rfl)) ?_
        refine JO.setv (u' := .bool true) 83 rfl (congrArg Value.bool (by simp)) ?_
        refine JO.pur rfl rfl rfl (Pur.move rfl) ?_
        refine JO.pur rfl rfl rfl (Pur.move rfl) ?_
        refine JO.pur rfl rfl rfl (Pur.move rfl) ?_
        refine JO.pur rfl rfl rfl (Pur.eqlI rfl rfl) ?_
        refine JO.setv (u' := .bool true) 87 rfl (congrArg Value.bool (by simp)) ?_
        refine JO.pur rfl rfl rfl (Pur.pickT rfl rfl) ?_
        refine JO.pur rfl rfl rfl (Pur.move rfl) ?_
        refine JO.effR rfl rfl rfl (Eff.call rfl (first_ok)) ?_
        refine JO.setv (u' := .bool true) 90 rfl (congrArg Value.bool (rfl)) ?_
        refine JO.pur rfl rfl rfl (Pur.pickT rfl rfl) ?_
        refine JO.pur rfl rfl rfl (Pur.assign rfl) ?_
        refine JO.nil ?_
        refine J.ret rfl rfl ?_
        exact ⟨_, _, ⟨rfl, rfl⟩, rfl, SubC.out⟩

end Go.Proofs.Ytgbckamaenapeaa

/- The text HCopy. -/
set_option linter.unusedVariables false
set_option linter.unusedSimpArgs false
set_option maxRecDepth 10000
namespace Go.Proofs.Ytgbckamaenapeaa
open Go Go.KK Hf

theorem Copy_nil {L : List Asn} {p : Nat} {F : Fl} (hop : F.opens = []) (hb : F.bytes.length ≤ 400) :
    CallS Try.prog 25 [.pointer (some ⟨p, 0, none⟩)].toArray (FA p F :: L) (fun v M => ∃ p2, v = .pointer (some ⟨p2, 0, none⟩) ∧ M = FA p2 F :: FA p F :: L) := by
  refine CallS.ent ?_
  refine CallS.enter Try.func25 rfl rfl rfl rfl rfl ?_
  refine J.seq rfl ?_
  refine FA_open fun ab cb mb rs hr => ?_
  have hrs : rs = [] := List.eq_nil_of_length_eq_zero (by rw [hr, hop]; rfl)
  refine J.region rfl ?_
  refine JO.pur rfl rfl rfl (Pur.assign rfl) ?_
  refine JO.nil ?_
  refine J.seq rfl ?_
  refine J.seq rfl ?_
  refine J.region rfl ?_
  refine JO.pur rfl rfl rfl (Pur.move rfl) ?_
  refine JO.effR rfl rfl rfl (Eff.call rfl (none_ok)) ?_
  refine JO.setv (u' := .bool false) 8 rfl (congrArg Value.bool (rfl)) ?_
  refine JO.nil ?_
  refine J.condF rfl rfl ?_
  refine J.skip rfl ?_
  refine J.seq rfl ?_
  refine J.fact (fun h s => SlH.nil (a := ab) (cap := cb) (E := byE) (xs := F.bytes) s) fun hnl => ?_
  have hnl2 : ab = none → F.bytes.length = 0 ∧ cb = 0 := fun e => by obtain ⟨e1, e2⟩ := hnl e; exact ⟨by rw [e1]; rfl, e2⟩
  refine J.mask0 (n := 13) [] rfl Try.mixed rfl (by kernel_rfl) ?_
  refine JM.take 0 (fun _ h => h) rfl (by kernel_rfl) rfl rfl rfl (m' := 1) rfl (Pur.move rfl) ?_
  refine JM.take 1 (fun _ h => h) rfl (by kernel_rfl) rfl rfl rfl (m' := 3) rfl (Pur.nilCheck rfl) ?_
  refine JM.take 2 (fun _ h => h) rfl (by kernel_rfl) rfl rfl rfl (m' := 7) rfl (Pur.fieldAddr rfl) ?_
  refine JM.take 3 (fun _ h => h) rfl (by kernel_rfl) rfl rfl rfl (m' := 15) rfl (Pur.load rfl (CellIn.blk rfl)) ?_
  refine JM.take 5 (fun _ h => h) rfl (by kernel_rfl) rfl rfl rfl (m' := 47) rfl (Pur.move rfl) ?_
  refine JM.take 6 (fun _ h => h) rfl (by kernel_rfl) rfl rfl rfl (m' := 111) rfl (Pur.nilCheck rfl) ?_
  refine JM.take 7 (fun _ h => h) rfl (by kernel_rfl) rfl rfl rfl (m' := 239) rfl (Pur.fieldAddr rfl) ?_
  refine JM.take 8 (fun _ h => h) rfl (by kernel_rfl) rfl rfl rfl (m' := 495) rfl (Pur.load rfl (CellIn.blk rfl)) ?_
  refine JM.setv (u' := .int .i64 F.next) 17 rfl rfl ?_
  refine JM.many (rs := [4, 9]) (by kernel_rfl) rfl (fun i hi => ?_)
  simp only [List.mem_cons, List.not_mem_nil, or_false] at hi
  rcases hi with rfl | rfl
  · skip
    refine JMi.eff rfl rfl rfl rfl (m' := 511) rfl (Eff.call rfl (cloneB (xs := F.bytes) rfl (by omega) hnl2)) ?_
    rintro _ _ ⟨a13, c13, ⟨rfl, -⟩, rfl⟩
    refine ⟨.inr (fun _ h => h.tail), ?_⟩
    refine JM.one (i := 9) (by kernel_rfl) ?_
    refine JMi.eff rfl rfl rfl rfl (m' := 1023) rfl (Eff.makeMap intK) ?_
    rintro _ _ ⟨b18, rfl, rfl⟩
    refine ⟨.inr (fun _ h => h.tail.tail), ?_⟩
    refine JM.take 10 (fun _ h => h.tail.tail) rfl (by kernel_rfl) rfl rfl rfl (m' := 2047) rfl (Pur.build (cs := [_, _, _, _]) rfl rfl) ?_
    refine JM.one (i := 11) (by kernel_rfl) ?_
    refine JMi.eff rfl rfl rfl rfl (m' := 4095) rfl (Eff.box (cs := [_, _, _, _]) rfl rfl) ?_
    rintro _ _ ⟨b20, rfl, rfl⟩
    refine ⟨.inr (fun _ h => h.tail.tail.tail), ?_⟩
    refine JM.take 12 (fun _ h => h.tail.tail.tail) rfl (by kernel_rfl) rfl rfl rfl (m' := 8191) rfl (Pur.assign rfl) ?_
    refine JM.done rfl ?_
    refine J.seq rfl ?_
    refine J.seq rfl ?_
    refine J.region rfl ?_
    refine JO.pur rfl rfl rfl (Pur.move rfl) ?_
    refine JO.pur rfl rfl rfl (Pur.nilCheck rfl) ?_
    refine JO.pur rfl rfl rfl (Pur.fieldAddr rfl) ?_
    refine JO.pur rfl rfl rfl (Pur.load rfl (CellIn.blk rfl)) ?_
    refine JO.eff rfl rfl rfl (Eff.range rfl) ?_
    rintro _ _ ⟨i25, rfl, rfl⟩
    refine JO.nil ?_
    refine J.block rfl ?_
    refine J.loopF (ι := Nat) (fun q => True) (fun q => []) [(3, _), (25, _)] (fun q => mpIt intK mb i25 (entsC rs F.opens) [] :: blk b20 (.cells #[.bool true, .slice a13 F.bytes.length c13, .int .i64 F.next, .map (some b18)] 62) :: mp intK b18 [] :: sl byE a13 c13 F.bytes :: blk p (.cells #[.bool true, .slice ab F.bytes.length cb, .int .i64 F.next, .map (some mb)] 62) :: sl byE ab cb F.bytes :: star (chL rs F.opens) :: L) (fun q => 0) 0 rfl (.cons rfl rfl (.cons rfl rfl .nil)) .nil (by first | exact fun _ h => h | exact SubC.out | (dsimp only; exact SubC.out)) trivial ?_
    rintro k - ih0
    try dsimp only
    refine J.seq rfl ?_
    refine J.region rfl ?_
    refine JO.eff rfl rfl rfl (Eff.next rfl) ?_
    rintro _ _ (⟨j, kk, vv, hmj, hjS, rfl, rfl⟩ | ⟨hall, rfl, rfl⟩)
    · skip
      exfalso
      obtain ⟨r, c, hrg, hch, rfl, rfl, hjl⟩ := ents_inv hr hmj
      rw [hop] at hjl
      simp at hjl
    · skip
      refine JO.pur rfl rfl rfl (Pur.extract rfl rfl) ?_
      refine JO.nil ?_
      refine J.seq rfl ?_
      refine J.condF rfl rfl ?_
      refine J.exit rfl rfl ?_
      refine J.seq rfl ?_
      refine J.pullC (A := mpIt intK mb i25 (entsC rs F.opens) []) inferInstance ?_
      refine J.imp (fun h s => s.cons_imp (B := mp intK mb (entsC rs F.opens)) (fun _ h => mpIt_done h) (fun _ h => h)) ?_
      refine J.region rfl ?_
      refine JO.pur rfl rfl rfl (Pur.move rfl) ?_
      refine JO.pur rfl rfl rfl (Pur.assign rfl) ?_
      refine JO.nil ?_
      refine J.ret rfl rfl ?_
      refine ⟨_, _, ⟨b20, rfl, rfl⟩, rfl, fun h s => ?_⟩
      have s2 := FA_mk (L := blk b20 (.cells #[.bool true, .slice a13 F.bytes.length c13, .int .i64 F.next, .map (some b18)] 62) :: mp intK b18 [] :: sl byE a13 c13 F.bytes :: L) (F := F) (p := p) (ab := ab) (cb := cb) (mb := mb) hr (SubC.out h s)
      refine FA_mk (F := F) (ab := a13) (cb := c13) (mb := b18) (rs := []) (by rw [hop]; rfl) ?_
      have s3 : Sat h (star (chL [] []) :: _) := star_nil s2
      rw [hop]
      show Sat h (blk b20 (.cells #[.bool true, .slice a13 F.bytes.length c13, .int .i64 F.next, .map (some b18)] 62) :: sl byE a13 c13 F.bytes :: mp intK b18 [] :: star (chL [] []) :: FA p F :: L)
      exact SubC.out h s3
  · skip
    refine JMi.eff rfl rfl rfl rfl (m' := 1007) rfl (Eff.makeMap intK) ?_
    rintro _ _ ⟨b18, rfl, rfl⟩
    refine ⟨.inr (fun _ h => h.tail), ?_⟩
    refine JM.one (i := 4) (by kernel_rfl) ?_
    refine JMi.eff rfl rfl rfl rfl (m' := 1023) rfl (Eff.call rfl (cloneB (xs := F.bytes) rfl (by omega) hnl2)) ?_
    rintro _ _ ⟨a13, c13, ⟨rfl, -⟩, rfl⟩
    refine ⟨.inr (fun _ h => h.tail.tail), ?_⟩
    refine JM.take 10 (fun _ h => h.tail.tail) rfl (by kernel_rfl) rfl rfl rfl (m' := 2047) rfl (Pur.build (cs := [_, _, _, _]) rfl rfl) ?_
    refine JM.one (i := 11) (by kernel_rfl) ?_
    refine JMi.eff rfl rfl rfl rfl (m' := 4095) rfl (Eff.box (cs := [_, _, _, _]) rfl rfl) ?_
    rintro _ _ ⟨b20, rfl, rfl⟩
    refine ⟨.inr (fun _ h => h.tail.tail.tail), ?_⟩
    refine JM.take 12 (fun _ h => h.tail.tail.tail) rfl (by kernel_rfl) rfl rfl rfl (m' := 8191) rfl (Pur.assign rfl) ?_
    refine JM.done rfl ?_
    refine J.seq rfl ?_
    refine J.seq rfl ?_
    refine J.region rfl ?_
    refine JO.pur rfl rfl rfl (Pur.move rfl) ?_
    refine JO.pur rfl rfl rfl (Pur.nilCheck rfl) ?_
    refine JO.pur rfl rfl rfl (Pur.fieldAddr rfl) ?_
    refine JO.pur rfl rfl rfl (Pur.load rfl (CellIn.blk rfl)) ?_
    refine JO.eff rfl rfl rfl (Eff.range rfl) ?_
    rintro _ _ ⟨i25, rfl, rfl⟩
    refine JO.nil ?_
    refine J.block rfl ?_
    refine J.loopF (ι := Nat) (fun q => True) (fun q => []) [(3, _), (25, _)] (fun q => mpIt intK mb i25 (entsC rs F.opens) [] :: blk b20 (.cells #[.bool true, .slice a13 F.bytes.length c13, .int .i64 F.next, .map (some b18)] 62) :: mp intK b18 [] :: sl byE a13 c13 F.bytes :: blk p (.cells #[.bool true, .slice ab F.bytes.length cb, .int .i64 F.next, .map (some mb)] 62) :: sl byE ab cb F.bytes :: star (chL rs F.opens) :: L) (fun q => 0) 0 rfl (.cons rfl rfl (.cons rfl rfl .nil)) .nil (by first | exact fun _ h => h | exact SubC.out | (dsimp only; exact SubC.out)) trivial ?_
    rintro k - ih1
    try dsimp only
    refine J.seq rfl ?_
    refine J.region rfl ?_
    refine JO.eff rfl rfl rfl (Eff.next rfl) ?_
    rintro _ _ (⟨j, kk, vv, hmj, hjS, rfl, rfl⟩ | ⟨hall, rfl, rfl⟩)
    · skip
      exfalso
      obtain ⟨r, c, hrg, hch, rfl, rfl, hjl⟩ := ents_inv hr hmj
      rw [hop] at hjl
      simp at hjl
    · skip
      refine JO.pur rfl rfl rfl (Pur.extract rfl rfl) ?_
      refine JO.nil ?_
      refine J.seq rfl ?_
      refine J.condF rfl rfl ?_
      refine J.exit rfl rfl ?_
      refine J.seq rfl ?_
      refine J.pullC (A := mpIt intK mb i25 (entsC rs F.opens) []) inferInstance ?_
      refine J.imp (fun h s => s.cons_imp (B := mp intK mb (entsC rs F.opens)) (fun _ h => mpIt_done h) (fun _ h => h)) ?_
      refine J.region rfl ?_
      refine JO.pur rfl rfl rfl (Pur.move rfl) ?_
      refine JO.pur rfl rfl rfl (Pur.assign rfl) ?_
      refine JO.nil ?_
      refine J.ret rfl rfl ?_
      refine ⟨_, _, ⟨b20, rfl, rfl⟩, rfl, fun h s => ?_⟩
      have s2 := FA_mk (L := blk b20 (.cells #[.bool true, .slice a13 F.bytes.length c13, .int .i64 F.next, .map (some b18)] 62) :: mp intK b18 [] :: sl byE a13 c13 F.bytes :: L) (F := F) (p := p) (ab := ab) (cb := cb) (mb := mb) hr (SubC.out h s)
      refine FA_mk (F := F) (ab := a13) (cb := c13) (mb := b18) (rs := []) (by rw [hop]; rfl) ?_
      have s3 : Sat h (star (chL [] []) :: _) := star_nil s2
      rw [hop]
      show Sat h (blk b20 (.cells #[.bool true, .slice a13 F.bytes.length c13, .int .i64 F.next, .map (some b18)] 62) :: sl byE a13 c13 F.bytes :: mp intK b18 [] :: star (chL [] []) :: FA p F :: L)
      exact SubC.out h s3

end Go.Proofs.Ytgbckamaenapeaa

/- The text HP2. -/
/-! The file through one run of ChannelReads. No program in sight. -/
set_option linter.unusedVariables false
set_option linter.unusedSimpArgs false
namespace Hf
open Go.KK
def wC (fr : Int) (pl : List UInt8) : Ch := ⟨1, fr, 400, fr + pl.length, true, fr, pl, []⟩
def rC (fr at' : Int) : Ch := ⟨2, 0, fr, at', false, 0, [], []⟩
def plR (fr : Int) (b : List UInt8) : List UInt8 := if 400 - fr < b.length then [] else b
def erR (fr : Int) (b : List UInt8) : Int := if 400 - fr < b.length then 230 else 0
def mnR (xs : List UInt8) (fr : Int) : Nat := (min fr xs.length).toNat
def BR (xs : List UInt8) (fr : Int) (b : List UInt8) : List UInt8 := putB xs (wC fr (plR fr b))
def R1 (xs : List UInt8) (fr : Int) : Fl := ⟨xs, 2, [wC fr []]⟩
def R2 (xs : List UInt8) (fr : Int) : Fl := ⟨xs, 3, [wC fr [], rC fr 0]⟩
def R3 (xs : List UInt8) (fr : Int) (b : List UInt8) : Fl := ⟨xs, 3, [wC fr (plR fr b), rC fr 0]⟩
def R4 (xs : List UInt8) (fr : Int) (b : List UInt8) : Fl := ⟨xs, 3, [wC fr (plR fr b), rC fr (mnR xs fr)]⟩
def R5 (xs : List UInt8) (fr : Int) (b : List UInt8) : Fl := ⟨BR xs fr b, 3, [putC (wC fr (plR fr b)), rC fr (mnR xs fr)]⟩
def R6 (xs : List UInt8) (fr : Int) (b : List UInt8) : Fl := ⟨BR xs fr b, 3, [rC fr (mnR xs fr)]⟩
def R7 (B : List UInt8) : Fl := ⟨B, 3, []⟩
def R8 (B : List UInt8) : Fl := ⟨B, 4, [⟨3, 0, 400, 0, false, 0, [], []⟩]⟩
def R9 (B : List UInt8) : Fl := ⟨B, 4, [⟨3, 0, 400, B.length, false, 0, [], []⟩]⟩
theorem w1 {xs : List UInt8} {fr : Int} (h0 : 0 ≤ fr) (h4 : fr ≤ 400) : beginF (newF xs) fr 400 true = (R1 xs fr, 1, 0) := by
  unfold beginF newF
  rw [if_neg (by omega), if_neg (by simp)]
  simp [R1, newC, wC]
theorem w2 {xs : List UInt8} {fr : Int} (h0 : 0 ≤ fr) (h4 : fr ≤ 400) : beginF (R1 xs fr) 0 fr false = (R2 xs fr, 2, 0) := by
  unfold beginF R1
  rw [if_neg (by omega), if_neg (by simp [busy, wC]; omega)]
  simp [R2, newC, wC, rC]
theorem w3 {xs : List UInt8} {fr : Int} {b : List UInt8} : writeF (R2 xs fr) 1 b = (R3 xs fr b, erR fr b) := by
  have hi : ix (R2 xs fr) 1 = some 0 := by simp [ix, R2, wC, List.findIdx?_cons]
  have hc : ch (R2 xs fr) 0 = wC fr [] := rfl
  unfold writeF
  rw [hi]; dsimp only
  rw [hc]
  by_cases hb : 400 - fr < b.length
  · rw [if_pos (.inr (by simp only [wC, List.length_nil]; omega))]
    unfold R3 plR erR; rw [if_pos hb, if_pos hb]; rfl
  · rw [if_neg (by rintro (h | h); cases h; simp only [wC, List.length_nil] at h; omega)]
    unfold R3 plR erR; rw [if_neg hb, if_neg hb]
    simp [upd, R2, wC]
theorem w4 {xs : List UInt8} {fr : Int} {b : List UInt8} (h0 : 0 ≤ fr) (hx : xs.length ≤ 400) : readF (R3 xs fr b) 2 400 = (R4 xs fr b, xs.take (mnR xs fr), 0) := by
  have hi : ix (R3 xs fr b) 2 = some 1 := by simp [ix, R3, wC, rC, List.findIdx?_cons]
  have hc : ch (R3 xs fr b) 1 = rC fr 0 := rfl
  unfold readF
  rw [hi]; dsimp only
  rw [hc, if_neg (by omega), if_neg (by simp [rC])]
  have hm : many (R3 xs fr b) (rC fr 0) 400 = mnR xs fr := by simp only [many, R3, rC, mnR]; omega
  rw [hm]
  simp [upd, R3, R4, rC]
theorem w5 {xs : List UInt8} {fr : Int} {b : List UInt8} : commitF (R4 xs fr b) 1 = (R5 xs fr b, 0) := by
  have hi : ix (R4 xs fr b) 1 = some 0 := by simp [ix, R4, wC, List.findIdx?_cons]
  have hc : ch (R4 xs fr b) 0 = wC fr (plR fr b) := rfl
  unfold commitF
  rw [hi]; dsimp only
  rw [hc, if_neg (by simp [wC])]
  rfl
theorem putP (c : Ch) : (putC c).pend = [] := by unfold putC; split <;> simp_all
theorem w6 {xs : List UInt8} {fr : Int} {b : List UInt8} : closeF (R5 xs fr b) 1 = (R6 xs fr b, 0) := by
  have hn := (put_num (wC fr (plR fr b))).1
  have hi : ix (R5 xs fr b) 1 = some 0 := by simp [ix, R5, List.findIdx?_cons, hn]; simp [wC]
  have hc : ch (R5 xs fr b) 0 = putC (wC fr (plR fr b)) := rfl
  unfold closeF
  rw [hi]; dsimp only
  rw [hc]
  unfold putB
  rw [if_pos (putP _)]
  rfl
theorem w7 {xs : List UInt8} {fr : Int} {b : List UInt8} : closeF (R6 xs fr b) 2 = (R7 (BR xs fr b), 0) := by
  have hi : ix (R6 xs fr b) 2 = some 0 := by simp [ix, R6, rC, List.findIdx?_cons]
  unfold closeF
  rw [hi]; rfl
theorem w8 {B : List UInt8} : beginF (R7 B) 0 400 false = (R8 B, 3, 0) := by
  unfold beginF R7
  rw [if_neg (by omega), if_neg (by simp)]
  simp [R8, newC]
theorem w9 {B : List UInt8} (hB : B.length ≤ 400) : readF (R8 B) 3 400 = (R9 B, B, 0) := by
  have hi : ix (R8 B) 3 = some 0 := by simp [ix, R8, List.findIdx?_cons]
  have hc : ch (R8 B) 0 = ⟨3, 0, 400, 0, false, 0, [], []⟩ := rfl
  unfold readF
  rw [hi]; dsimp only
  rw [hc, if_neg (by omega), if_neg (by simp)]
  have hm : many (R8 B) ⟨3, 0, 400, 0, false, 0, [], []⟩ 400 = B.length := by simp only [many, R8]; omega
  rw [hm]
  simp [upd, R8, R9]
theorem gr1 {xs : List UInt8} {fr : Int} (hx : xs.length ≤ 400) (h0 : 0 ≤ fr) (h4 : fr ≤ 400) : Good (R1 xs fr) 1 := by
  have h := good_begin (good_new hx) fr 400 true; rw [w1 h0 h4] at h; exact h
theorem gr2 {xs : List UInt8} {fr : Int} (hx : xs.length ≤ 400) (h0 : 0 ≤ fr) (h4 : fr ≤ 400) : Good (R2 xs fr) 2 := by
  have h := good_begin (gr1 hx h0 h4) 0 fr false; rw [w2 h0 h4] at h; exact h
theorem gr3 {xs : List UInt8} {fr : Int} {b : List UInt8} (hx : xs.length ≤ 400) (h0 : 0 ≤ fr) (h4 : fr ≤ 400) : Good (R3 xs fr b) 2 := by
  have h := good_write (gr2 hx h0 h4) 1 b; rw [w3] at h; exact h
theorem gr4 {xs : List UInt8} {fr : Int} {b : List UInt8} (hx : xs.length ≤ 400) (h0 : 0 ≤ fr) (h4 : fr ≤ 400) : Good (R4 xs fr b) 2 := by
  have h := good_read (gr3 (b := b) hx h0 h4) 2 400; rw [w4 h0 hx] at h; exact h
theorem gr5 {xs : List UInt8} {fr : Int} {b : List UInt8} (hx : xs.length ≤ 400) (h0 : 0 ≤ fr) (h4 : fr ≤ 400) : Good (R5 xs fr b) 2 := by
  have h := good_commit (gr4 (b := b) hx h0 h4) 1; rw [w5] at h; exact h
theorem gr6 {xs : List UInt8} {fr : Int} {b : List UInt8} (hx : xs.length ≤ 400) (h0 : 0 ≤ fr) (h4 : fr ≤ 400) : Good (R6 xs fr b) 2 := by
  have h := good_close (gr5 (b := b) hx h0 h4) 1; rw [w6] at h; exact h
theorem gr7 {xs : List UInt8} {fr : Int} {b : List UInt8} (hx : xs.length ≤ 400) (h0 : 0 ≤ fr) (h4 : fr ≤ 400) : Good (R7 (BR xs fr b)) 2 := by
  have h := good_close (gr6 (b := b) hx h0 h4) 2; rw [w7] at h; exact h
theorem gr8 {xs : List UInt8} {fr : Int} {b : List UInt8} (hx : xs.length ≤ 400) (h0 : 0 ≤ fr) (h4 : fr ≤ 400) : Good (R8 (BR xs fr b)) 3 := by
  have h := good_begin (gr7 (b := b) hx h0 h4) 0 400 false; rw [w8] at h; exact h
theorem br_same {xs : List UInt8} {fr : Int} {b : List UInt8} (h : ¬ erR fr b = 0 ∨ b.length = 0) : BR xs fr b = xs := by
  have hp : plR fr b = [] := by
    unfold plR; unfold erR at h
    split
    · rfl
    · rename_i hn
      rw [if_neg hn] at h
      rcases h with h | h
      · exact absurd rfl h
      · exact List.eq_nil_of_length_eq_zero h
  unfold BR putB
  rw [if_pos (by rw [hp]; rfl)]
theorem br_yes {xs : List UInt8} {fr : Int} {b : List UInt8} (h0 : 0 ≤ fr) (h : erR fr b = 0) (hb : ¬ b.length = 0) : fr + b.length ≤ (BR xs fr b).length ∧ ((BR xs fr b).drop fr.toNat).take b.length = b := by
  have hp : plR fr b = b := by
    unfold plR; unfold erR at h
    split
    · rename_i hn; rw [if_pos hn] at h; cases h
    · rfl
  have hne : ¬ b = [] := fun e => hb (by rw [e]; rfl)
  have e : BR xs fr b = spl (padTo xs (fr.toNat + b.length)) fr.toNat b := by
    unfold BR putB
    rw [if_neg (by rw [hp]; exact hne), hp]; rfl
  have hl := pad_len xs (fr.toNat + b.length)
  rw [e]
  refine ⟨by rw [spl_len (by omega), hl]; omega, ?_⟩
  unfold spl
  have hk : (List.take fr.toNat (padTo xs (fr.toNat + b.length))).length = fr.toNat := by rw [List.length_take]; omega
  rw [List.append_assoc, List.drop_append, hk, List.drop_of_length_le (by omega), Nat.sub_self, List.drop_zero, List.nil_append, List.take_append_of_le_length (Nat.le_refl _), List.take_length]
end Hf

/- The text HP3. -/
/-! The file through one run of ChannelReverts. No program in sight. -/
set_option linter.unusedVariables false
set_option linter.unusedSimpArgs false
namespace Hf
open Go.KK
def vC (fr to : Int) (pl : List UInt8) (mk : List Int) : Ch := ⟨1, fr, to, fr + pl.length, true, fr, pl, mk⟩
def V1 (xs : List UInt8) (fr to : Int) : Fl := ⟨xs, 2, [vC fr to [] []]⟩
def V2 (xs : List UInt8) (fr to : Int) (pl : List UInt8) : Fl := ⟨xs, 2, [vC fr to pl [fr]]⟩
def V3 (xs : List UInt8) (fr to : Int) (pl : List UInt8) : Fl := ⟨xs, 2, [vC fr to pl []]⟩
def V4 (xs : List UInt8) : Fl := ⟨xs, 2, []⟩
def badV (fr to : Int) : Prop := fr < 0 ∨ to < fr ∨ 400 < to
def accP (fr to : Int) (parts : List (List UInt8)) : Nat → List UInt8
  | 0 => []
  | q + 1 => if to - (fr + (accP fr to parts q).length) < (parts.getD q []).length then accP fr to parts q else accP fr to parts q ++ parts.getD q []
def BV (xs : List UInt8) (fr to : Int) (pl : List UInt8) : List UInt8 := putB xs (vC fr to pl [])
theorem v0 {xs : List UInt8} {fr to : Int} (h : badV fr to) : beginF (newF xs) fr to true = (newF xs, 0, 2) := by
  unfold badV at h; unfold beginF; rw [if_pos h]
theorem v1 {xs : List UInt8} {fr to : Int} (h : ¬ badV fr to) : beginF (newF xs) fr to true = (V1 xs fr to, 1, 0) := by
  unfold badV at h; unfold beginF newF
  rw [if_neg h, if_neg (by simp)]
  simp [V1, newC, vC]
theorem v2 {xs : List UInt8} {fr to : Int} : markF (V1 xs fr to) 1 = (V2 xs fr to [], 0) := by
  have hi : ix (V1 xs fr to) 1 = some 0 := by simp [ix, V1, vC, List.findIdx?_cons]
  have hc : ch (V1 xs fr to) 0 = vC fr to [] [] := rfl
  unfold markF
  rw [hi]; dsimp only
  rw [hc]
  simp [upd, V1, V2, vC]
theorem ixV2 {xs : List UInt8} {fr to : Int} {pl : List UInt8} : ix (V2 xs fr to pl) 1 = some 0 := by simp [ix, V2, vC, List.findIdx?_cons]
theorem v3a {xs : List UInt8} {fr to : Int} {pl b : List UInt8} (h : to - (fr + pl.length) < b.length) : writeF (V2 xs fr to pl) 1 b = (V2 xs fr to pl, 230) := by
  have hc : ch (V2 xs fr to pl) 0 = vC fr to pl [fr] := rfl
  unfold writeF
  rw [ixV2]; dsimp only
  rw [hc, if_pos (.inr h)]
theorem v3b {xs : List UInt8} {fr to : Int} {pl b : List UInt8} (h : ¬ to - (fr + pl.length) < b.length) : writeF (V2 xs fr to pl) 1 b = (V2 xs fr to (pl ++ b), 0) := by
  have hc : ch (V2 xs fr to pl) 0 = vC fr to pl [fr] := rfl
  unfold writeF
  rw [ixV2]; dsimp only
  rw [hc, if_neg (by rintro (h1 | h1); cases h1; exact h h1)]
  have e : fr + (pl.length : Int) + (b.length : Int) = fr + ((pl ++ b).length : Int) := by rw [List.length_append]; omega
  simp only [upd, V2, vC, List.set_cons_zero, e]
theorem v4 {xs : List UInt8} {fr to : Int} {pl : List UInt8} : revertF (V2 xs fr to pl) 1 = (V1 xs fr to, 0) := by
  have hc : ch (V2 xs fr to pl) 0 = vC fr to pl [fr] := rfl
  unfold revertF
  rw [ixV2]; dsimp only
  rw [hc, if_neg (by simp [vC])]
  simp [upd, V1, V2, vC, revC, popC, lastM]
theorem v5 {xs : List UInt8} {fr to : Int} : closeF (V1 xs fr to) 1 = (V4 xs, 0) := by
  have hi : ix (V1 xs fr to) 1 = some 0 := by simp [ix, V1, vC, List.findIdx?_cons]
  unfold closeF
  rw [hi]; rfl
theorem v6 {xs : List UInt8} {fr to : Int} {pl : List UInt8} : acceptF (V2 xs fr to pl) 1 = (V3 xs fr to pl, 0) := by
  have hc : ch (V2 xs fr to pl) 0 = vC fr to pl [fr] := rfl
  unfold acceptF
  rw [ixV2]; dsimp only
  rw [hc, if_neg (by simp [vC])]
  simp [upd, V2, V3, vC, popC]
theorem ixV3 {xs : List UInt8} {fr to : Int} {pl : List UInt8} : ix (V3 xs fr to pl) 1 = some 0 := by simp [ix, V3, vC, List.findIdx?_cons]
theorem v7 {xs : List UInt8} {fr to : Int} {pl : List UInt8} : placeF (V3 xs fr to pl) 1 = (fr + pl.length, 0) := by
  unfold placeF; rw [ixV3]; rfl
theorem v8 {xs : List UInt8} {fr to : Int} {pl : List UInt8} : closeF (V3 xs fr to pl) 1 = (V4 (BV xs fr to pl), 0) := by
  unfold closeF; rw [ixV3]; rfl
def erV (fr to : Int) (parts : List (List UInt8)) (q : Nat) : Int := if to - (fr + (accP fr to parts q).length) < (parts.getD q []).length then 230 else 0
theorem v3 {xs : List UInt8} {fr to : Int} {parts : List (List UInt8)} {q : Nat} : writeF (V2 xs fr to (accP fr to parts q)) 1 (parts.getD q []) = (V2 xs fr to (accP fr to parts (q + 1)), erV fr to parts q) := by
  unfold erV
  rw [accP]
  by_cases hf : to - (fr + (accP fr to parts q).length) < (parts.getD q []).length
  · rw [v3a hf, if_pos hf, if_pos hf]
  · rw [v3b hf, if_neg hf, if_neg hf]
theorem acc_yes {fr to : Int} {parts : List (List UInt8)} {q : Nat} (h : erV fr to parts q = 0) : (accP fr to parts (q + 1)).length = (accP fr to parts q).length + (parts.getD q []).length := by
  unfold erV at h
  split at h
  · cases h
  · rename_i hf; rw [accP, if_neg hf, List.length_append]
theorem acc_no {fr to : Int} {parts : List (List UInt8)} {q : Nat} (h : ¬ erV fr to parts q = 0) : (accP fr to parts (q + 1)).length = (accP fr to parts q).length := by
  unfold erV at h
  split at h
  · rename_i hf; rw [accP, if_pos hf]
  · exact absurd rfl h
theorem gv1 {xs : List UInt8} {fr to : Int} (hx : xs.length ≤ 400) (h : ¬ badV fr to) : Good (V1 xs fr to) 1 := by
  have g := good_begin (good_new hx) fr to true; rw [v1 h] at g; exact g
theorem gv2 {xs : List UInt8} {fr to : Int} {parts : List (List UInt8)} (hx : xs.length ≤ 400) (h : ¬ badV fr to) : ∀ q, Good (V2 xs fr to (accP fr to parts q)) 2
  | 0 => by have g := good_mark (gv1 hx h) 1; rw [v2] at g; exact g
  | q + 1 => by
    have g := good_write (gv2 (parts := parts) hx h q) 1 (parts.getD q [])
    rw [accP]
    by_cases hf : to - (fr + (accP fr to parts q).length) < (parts.getD q []).length
    · rw [v3a hf] at g; rw [if_pos hf]; exact g
    · rw [v3b hf] at g; rw [if_neg hf]; exact g
theorem acc_le {xs : List UInt8} {fr to : Int} {parts : List (List UInt8)} (hx : xs.length ≤ 400) (h : ¬ badV fr to) (q : Nat) : fr + (accP fr to parts q).length ≤ to := (gv2 (parts := parts) hx h q).gc (vC fr to (accP fr to parts q) [fr]) (by simp [V2]) |>.at4
theorem gv3 {xs : List UInt8} {fr to : Int} {parts : List (List UInt8)} (hx : xs.length ≤ 400) (h : ¬ badV fr to) (q : Nat) : Good (V3 xs fr to (accP fr to parts q)) 2 := by
  have g := good_accept (gv2 (parts := parts) hx h q) 1; rw [v6] at g; exact g
theorem gv4 {xs : List UInt8} {fr to : Int} {parts : List (List UInt8)} (hx : xs.length ≤ 400) (h : ¬ badV fr to) (q : Nat) : (BV xs fr to (accP fr to parts q)).length ≤ 400 := by
  have g := good_close (gv3 (parts := parts) hx h q) 1; rw [v8] at g; exact g.b4
theorem bv_len {xs : List UInt8} {fr to : Int} {pl : List UInt8} (h0 : 0 ≤ fr) : ((BV xs fr to pl).length : Int) = if pl.length = 0 then (xs.length : Int) else max (xs.length : Int) (fr + pl.length) := by
  unfold BV putB
  by_cases hp : pl = []
  · rw [if_pos (by rw [vC]; exact hp), if_pos (by rw [hp]; rfl)]
  · have hl := pad_len xs (fr.toNat + pl.length)
    have hne : ¬ pl.length = 0 := fun e => hp (List.eq_nil_of_length_eq_zero e)
    rw [if_neg (by rw [vC]; exact hp), if_neg hne]
    show ((spl (padTo xs (fr.toNat + pl.length)) fr.toNat pl).length : Int) = _
    rw [spl_len (by omega), hl]; omega
end Hf
