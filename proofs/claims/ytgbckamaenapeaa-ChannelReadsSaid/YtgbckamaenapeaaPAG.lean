/-
  A part of the proof of the claim that this folder bears.
-/
import Derived.Test.YtgbckamaenapeaaPAF
import Derived.Test.YtgbckamaenapeaaPAA
/- The text HLaw1. -/
set_option linter.unusedVariables false
set_option linter.unusedSimpArgs false
set_option maxRecDepth 10000
namespace Go.Proofs.Ytgbckamaenapeaa
open Go Go.KK Hf

theorem eqPair (x y : Int × Int) (w : World) : (Op.equal 29 (.agg (pairE.enc x).toArray) (.agg (pairE.enc y).toArray)).run Try.prog w = .ok (decide (x = y)) w := by
  have hu := run_underlying (P := Try.prog) Try.underlying29 w
  have hi : (sizeOf 3).run Try.prog w = .ok 1 w := run_sizeOf_of (by kernel_rfl)
  have hs := Scl.run (P := Try.prog) (t := 3) (w := w) (by kernel_rfl)
  have he := fun a b => run_equalIn_int (P := Try.prog) w 9998 3 .i64 .i64 a b Try.underlying3
  obtain ⟨a, b⟩ := x
  obtain ⟨c, d⟩ := y
  unfold Op.equal
  rw [show Op.maxDepth = 9999 + 1 from rfl, Op.equalIn.eq_def]
  simp only [pairE, Sem.run_bind, hu, hi, Result.andThen_ok]
  simp [Std.Legacy.Range.forIn_eq_forIn_range', List.range', part, hs, he]
  by_cases h1 : a = c <;> by_cases h2 : b = d <;> simp [h1, h2]
instance : EqE Try.prog 29 pairE := ⟨by kernel_rfl, eqPair⟩
theorem channelCuts_ok {L : List Asn} {a : Option Addr} {m cap : Nat} {hs : List Hdr} {parts : List (List UInt8)} [SlIn hbE L a hs] [RowsR byE L hs parts] (hm : m = hs.length) (size n : Int) :
    CallS Try.prog 3 [.int .i64 size, .int .i64 n, .slice a m cap].toArray L (fun v M => v = .bool true ∧ M = L) := by
  subst hm
  refine CallS.fact (fun h s => RowsR.len (E := byE) (hs := hs) (xss := parts) s) fun hnn => ?_
  have hhl : hs.length = parts.length := rows_len hnn
  refine CallS.ent ?_
  refine CallS.enter Try.func3 rfl rfl rfl rfl rfl ?_
  refine J.seq rfl ?_
  refine J.region rfl ?_
  refine JO.pur rfl rfl rfl (Pur.assign rfl) ?_
  refine JO.nil ?_
  refine J.seq rfl ?_
  refine J.seq rfl ?_
  refine J.region rfl ?_
  refine JO.pur rfl rfl rfl (Pur.move rfl) ?_
  refine JO.pur rfl rfl rfl (Pur.len rfl) ?_
  refine JO.pur rfl rfl rfl (Pur.gtr rfl rfl) ?_
  refine JO.nil ?_
  refine J.splitB 17 rfl (fun h17 => ?_) (fun h17 => ?_)
  · try simp only [decide_eq_true_eq, decide_eq_false_iff_not, Bool.not_eq_true', Bool.not_eq_false', Bool.and_eq_true, Bool.or_eq_true, Bool.and_eq_false_iff, Bool.or_eq_false_iff, Option.isNone_some, Option.isSome_some, Option.isNone_none, Option.isSome_none, Int.not_lt, Int.not_le, beq_iff_eq, beq_eq_false_iff_ne, bne_iff_ne, ne_eq, Bool.not_not, Decidable.not_not] at h17
    refine J.condT rfl rfl ?_
    refine J.seq rfl ?_
    refine J.region rfl ?_
    refine JO.effR rfl rfl rfl (Eff.call rfl (first_ok)) ?_
    refine JO.pur rfl rfl rfl (Pur.assign rfl) ?_
    refine JO.nil ?_
    refine J.ret rfl rfl ?_
    exact ⟨_, _, ⟨rfl, rfl⟩, rfl, SubC.out⟩
  · try simp only [decide_eq_true_eq, decide_eq_false_iff_not, Bool.not_eq_true', Bool.not_eq_false', Bool.and_eq_true, Bool.or_eq_true, Bool.and_eq_false_iff, Bool.or_eq_false_iff, Option.isNone_some, Option.isSome_some, Option.isNone_none, Option.isSome_none, Int.not_lt, Int.not_le, beq_iff_eq, beq_eq_false_iff_ne, bne_iff_ne, ne_eq, Bool.not_not, Decidable.not_not] at h17
    refine J.condF rfl rfl ?_
    refine J.skip rfl ?_
    refine J.seq rfl ?_
    refine J.seq rfl ?_
    refine J.region rfl ?_
    refine JO.pur rfl rfl rfl (Pur.assign rfl) ?_
    refine JO.nil ?_
    refine J.block rfl ?_
    refine J.loopF (ι := Nat) (fun q => q ≤ parts.length) (fun q => [(7, .int .i64 (q : Int))]) [(0, _), (1, _), (2, _)] (fun q => L) (fun q => parts.length - q) 0 rfl (.cons rfl rfl (.cons rfl rfl (.cons rfl rfl .nil))) (.cons rfl rfl .nil) (by first | exact fun _ h => h | exact SubC.out | (dsimp only; exact SubC.out)) (Nat.zero_le _) ?_
    rintro k hk ih0
    try dsimp only
    refine J.seq rfl ?_
    refine J.seq rfl ?_
    refine J.region rfl ?_
    refine JO.pur rfl rfl rfl (Pur.move rfl) ?_
    refine JO.pur rfl rfl rfl (Pur.move rfl) ?_
    refine JO.pur rfl rfl rfl (Pur.len rfl) ?_
    refine JO.pur rfl rfl rfl (Pur.lss rfl rfl) ?_
    refine JO.nil ?_
    refine J.splitB 22 rfl (fun h22 => ?_) (fun h22 => ?_)
    · try simp only [decide_eq_true_eq, decide_eq_false_iff_not, Bool.not_eq_true', Bool.not_eq_false', Bool.and_eq_true, Bool.or_eq_true, Bool.and_eq_false_iff, Bool.or_eq_false_iff, Option.isNone_some, Option.isSome_some, Option.isNone_none, Option.isSome_none, Int.not_lt, Int.not_le, beq_iff_eq, beq_eq_false_iff_ne, bne_iff_ne, ne_eq, Bool.not_not, Decidable.not_not] at h22
      have hkp : k < parts.length := by omega
      obtain ⟨hd, hH⟩ : ∃ hd, hs[k]? = some hd := ⟨_, List.getElem?_eq_getElem (by omega)⟩
      refine J.condT rfl rfl ?_
      refine J.skip rfl ?_
      refine J.seq rfl ?_
      refine J.block rfl ?_
      refine J.seq rfl ?_
      refine J.region rfl ?_
      refine JO.pur rfl rfl rfl (Pur.move rfl) ?_
      refine JO.pur rfl rfl rfl (Pur.move rfl) ?_
      refine JO.pur rfl rfl rfl (Pur.idx rfl rfl rfl (by first | rfl | (simp; done) | omega) rfl (by omega)) ?_
      refine JO.pur rfl rfl rfl (Pur.load rfl (CellIn.el0 rfl hH rfl)) ?_
      refine JO.pur rfl rfl rfl (Pur.len rfl) ?_
      refine JO.pur rfl rfl rfl (Pur.gtr rfl rfl) ?_
      refine JO.nil ?_
      refine J.splitB 30 rfl (fun h30 => ?_) (fun h30 => ?_)
      · try simp only [decide_eq_true_eq, decide_eq_false_iff_not, Bool.not_eq_true', Bool.not_eq_false', Bool.and_eq_true, Bool.or_eq_true, Bool.and_eq_false_iff, Bool.or_eq_false_iff, Option.isNone_some, Option.isSome_some, Option.isNone_none, Option.isSome_none, Int.not_lt, Int.not_le, beq_iff_eq, beq_eq_false_iff_ne, bne_iff_ne, ne_eq, Bool.not_not, Decidable.not_not] at h30
        refine J.condT rfl rfl ?_
        refine J.seq rfl ?_
        refine J.region rfl ?_
        refine JO.effR rfl rfl rfl (Eff.call rfl (first_ok)) ?_
        refine JO.pur rfl rfl rfl (Pur.assign rfl) ?_
        refine JO.nil ?_
        refine J.ret rfl rfl ?_
        exact ⟨_, _, ⟨rfl, rfl⟩, rfl, SubC.out⟩
      · try simp only [decide_eq_true_eq, decide_eq_false_iff_not, Bool.not_eq_true', Bool.not_eq_false', Bool.and_eq_true, Bool.or_eq_true, Bool.and_eq_false_iff, Bool.or_eq_false_iff, Option.isNone_some, Option.isSome_some, Option.isNone_none, Option.isSome_none, Int.not_lt, Int.not_le, beq_iff_eq, beq_eq_false_iff_ne, bne_iff_ne, ne_eq, Bool.not_not, Decidable.not_not] at h30
        refine J.condF rfl rfl ?_
        refine J.skip rfl ?_
        refine J.inBlock ?_
        refine J.region rfl ?_
        refine JO.pur rfl rfl rfl (Pur.move rfl) ?_
        refine JO.pur rfl rfl rfl (Pur.add rfl rfl (wr64 (by omega))) ?_
        refine JO.pur rfl rfl rfl (Pur.assign rfl) ?_
        refine JO.nil ?_
        exact J.weaken (.cons rfl (congrArg (Value.int .i64) (by first | rfl | (dsimp only; omega))) (.cons rfl rfl (.cons rfl rfl (.cons rfl rfl .nil)))) (by first | exact fun _ h => h | exact SubC.out | (dsimp only; exact SubC.out)) (ih0 (k + 1) (by omega) (by omega))
    · try simp only [decide_eq_true_eq, decide_eq_false_iff_not, Bool.not_eq_true', Bool.not_eq_false', Bool.and_eq_true, Bool.or_eq_true, Bool.and_eq_false_iff, Bool.or_eq_false_iff, Option.isNone_some, Option.isSome_some, Option.isNone_none, Option.isSome_none, Int.not_lt, Int.not_le, beq_iff_eq, beq_eq_false_iff_ne, bne_iff_ne, ne_eq, Bool.not_not, Decidable.not_not] at h22
      refine J.condF rfl rfl ?_
      refine J.exit rfl rfl ?_
      refine J.seq rfl ?_
      refine J.region rfl ?_
      refine JO.pur rfl rfl rfl (Pur.move rfl) ?_
      refine JO.pur rfl rfl rfl (Pur.move rfl) ?_
      refine JO.eff rfl rfl rfl (Eff.call rfl (Cuts_ok size n)) ?_
      rintro _ _ ⟨a8, c8, rfl, rfl⟩
      refine JO.pur rfl rfl rfl (Pur.move rfl) ?_
      refine JO.pur rfl rfl rfl (Pur.extract rfl rfl) ?_
      refine JO.pur rfl rfl rfl (Pur.extract rfl rfl) ?_
      refine JO.pur rfl rfl rfl (Pur.assign rfl) ?_
      refine JO.pur rfl rfl rfl (Pur.assign rfl) ?_
      refine JO.nil ?_
      refine J.seq rfl ?_
      refine J.region rfl ?_
      refine JO.pur rfl rfl rfl (Pur.move rfl) ?_
      refine JO.pur rfl rfl rfl (Pur.move rfl) ?_
      refine JO.eff rfl rfl rfl (Eff.call rfl (rCuts_ok size n)) ?_
      rintro _ _ ⟨a10, c10, rfl, rfl⟩
      refine JO.pur rfl rfl rfl (Pur.move rfl) ?_
      refine JO.pur rfl rfl rfl (Pur.extract rfl rfl) ?_
      refine JO.pur rfl rfl rfl (Pur.extract rfl rfl) ?_
      refine JO.pur rfl rfl rfl (Pur.assign rfl) ?_
      refine JO.pur rfl rfl rfl (Pur.assign rfl) ?_
      refine JO.nil ?_
      refine J.seq rfl ?_
      refine J.seq rfl ?_
      refine J.region rfl ?_
      refine JO.pur rfl rfl rfl (Pur.move rfl) ?_
      refine JO.pur rfl rfl rfl (Pur.len rfl) ?_
      refine JO.pur rfl rfl rfl (Pur.move rfl) ?_
      refine JO.pur rfl rfl rfl (Pur.len rfl) ?_
      refine JO.pur rfl rfl rfl (Pur.neqI rfl rfl) ?_
      refine JO.setv (u' := .bool false) 48 rfl (congrArg Value.bool (by simp)) ?_
      refine JO.pur rfl rfl rfl (Pur.move rfl) ?_
      refine JO.pur rfl rfl rfl (Pur.move rfl) ?_
      refine JO.pur rfl rfl rfl (Pur.move rfl) ?_
      refine JO.pur rfl rfl rfl (Pur.neqI rfl rfl) ?_
      refine JO.setv (u' := .bool false) 52 rfl (congrArg Value.bool (by simp)) ?_
      refine JO.pur rfl rfl rfl (Pur.pickF rfl rfl) ?_
      refine JO.nil ?_
      refine J.condF rfl rfl ?_
      refine J.skip rfl ?_
      refine J.seq rfl ?_
      refine J.seq rfl ?_
      refine J.region rfl ?_
      refine JO.pur rfl rfl rfl (Pur.assign rfl) ?_
      refine JO.nil ?_
      refine J.block rfl ?_
      refine J.loopF (ι := Nat) (fun q => q ≤ (cutsV size n).1.length) (fun q => [(12, .int .i64 (q : Int))]) [(0, _), (2, _), (8, _), (10, _)] (fun q => sl pairE a8 c8 (cutsV size n).1 :: sl pairE a10 c10 (cutsV size n).1 :: L) (fun q => (cutsV size n).1.length - q) 0 rfl (.cons rfl rfl (.cons rfl rfl (.cons rfl rfl (.cons rfl rfl .nil)))) (.cons rfl rfl .nil) (by first | exact fun _ h => h | exact SubC.out | (dsimp only; exact SubC.out)) (Nat.zero_le _) ?_
      rintro j hj ihj
      try dsimp only
      have hcl9 : (cutsV size n).1.length ≤ 16 := by
        by_cases hb : badC size n
        · rw [cut_bad hb]; simp
        · rw [cut_len hb]; have := cut_in hb; omega
      refine J.seq rfl ?_
      refine J.seq rfl ?_
      refine J.region rfl ?_
      refine JO.pur rfl rfl rfl (Pur.move rfl) ?_
      refine JO.pur rfl rfl rfl (Pur.move rfl) ?_
      refine JO.pur rfl rfl rfl (Pur.len rfl) ?_
      refine JO.pur rfl rfl rfl (Pur.lss rfl rfl) ?_
      refine JO.nil ?_
      refine J.splitB 57 rfl (fun h57 => ?_) (fun h57 => ?_)
      · try simp only [decide_eq_true_eq, decide_eq_false_iff_not, Bool.not_eq_true', Bool.not_eq_false', Bool.and_eq_true, Bool.or_eq_true, Bool.and_eq_false_iff, Bool.or_eq_false_iff, Option.isNone_some, Option.isSome_some, Option.isNone_none, Option.isSome_none, Int.not_lt, Int.not_le, beq_iff_eq, beq_eq_false_iff_ne, bne_iff_ne, ne_eq, Bool.not_not, Decidable.not_not] at h57
        have hjl : j < (cutsV size n).1.length := by omega
        have hx : (cutsV size n).1[j]? = some ((cutsV size n).1[j]) := List.getElem?_eq_getElem hjl
        refine J.condT rfl rfl ?_
        refine J.skip rfl ?_
        refine J.seq rfl ?_
        refine J.block rfl ?_
        refine J.seq rfl ?_
        refine J.quiet rfl Try.mixed (by kernel_rfl) ?_
        refine JQ.pur rfl rfl rfl (Pur.move rfl) ?_
        refine JQ.pur rfl rfl rfl (Pur.move rfl) ?_
        refine JQ.pur rfl rfl rfl (Pur.idx rfl rfl rfl (by first | rfl | (simp; done) | omega) rfl hjl) ?_
        refine JQ.pur rfl rfl rfl (Pur.loadA rfl rfl rfl (CellsIn.el rfl hx)) ?_
        refine JQ.pur rfl rfl rfl (Pur.move rfl) ?_
        refine JQ.pur rfl rfl rfl (Pur.move rfl) ?_
        refine JQ.pur rfl rfl rfl (Pur.idx rfl rfl rfl (by first | rfl | (simp; done) | omega) rfl hjl) ?_
        refine JQ.pur rfl rfl rfl (Pur.loadA rfl rfl rfl (CellsIn.el rfl hx)) ?_
        refine JQ.pur rfl rfl rfl (Pur.neqE rfl rfl) ?_
        refine JQ.setv (u' := .bool false) 68 rfl (congrArg Value.bool (by simp)) ?_
        refine JQ.nil ?_
        refine J.condF rfl rfl ?_
        refine J.skip rfl ?_
        refine J.inBlock ?_
        refine J.region rfl ?_
        refine JO.pur rfl rfl rfl (Pur.move rfl) ?_
        refine JO.pur rfl rfl rfl (Pur.add rfl rfl (wr64 (by omega))) ?_
        refine JO.pur rfl rfl rfl (Pur.assign rfl) ?_
        refine JO.nil ?_
        exact J.weaken (.cons rfl (congrArg (Value.int .i64) (by first | rfl | (dsimp only; omega))) (.cons rfl rfl (.cons rfl rfl (.cons rfl rfl (.cons rfl rfl .nil))))) (by first | exact fun _ h => h | exact SubC.out | (dsimp only; exact SubC.out)) (ihj (j + 1) (by omega) (by omega))
      · try simp only [decide_eq_true_eq, decide_eq_false_iff_not, Bool.not_eq_true', Bool.not_eq_false', Bool.and_eq_true, Bool.or_eq_true, Bool.and_eq_false_iff, Bool.or_eq_false_iff, Option.isNone_some, Option.isSome_some, Option.isNone_none, Option.isSome_none, Int.not_lt, Int.not_le, beq_iff_eq, beq_eq_false_iff_ne, bne_iff_ne, ne_eq, Bool.not_not, Decidable.not_not] at h57
        refine J.condF rfl rfl ?_
        refine J.exit rfl rfl ?_
        refine J.seq rfl ?_
        refine J.region rfl ?_
        refine JO.pur rfl rfl rfl (Pur.move rfl) ?_
        refine JO.pur rfl rfl rfl (Pur.move rfl) ?_
        refine JO.eff rfl rfl rfl (Eff.call rfl (Together_ok (parts := parts) rfl size)) ?_
        rintro _ _ ⟨a13, c13, rfl, rfl⟩
        refine JO.pur rfl rfl rfl (Pur.move rfl) ?_
        refine JO.pur rfl rfl rfl (Pur.extract rfl rfl) ?_
        refine JO.pur rfl rfl rfl (Pur.extract rfl rfl) ?_
        refine JO.pur rfl rfl rfl (Pur.assign rfl) ?_
        refine JO.pur rfl rfl rfl (Pur.assign rfl) ?_
        refine JO.nil ?_
        refine J.seq rfl ?_
        refine J.region rfl ?_
        refine JO.pur rfl rfl rfl (Pur.move rfl) ?_
        refine JO.pur rfl rfl rfl (Pur.move rfl) ?_
        refine JO.eff rfl rfl rfl (Eff.call rfl (rTogether_ok (parts := parts) rfl size)) ?_
        rintro _ _ ⟨a14, c14, rfl, rfl⟩
        refine JO.pur rfl rfl rfl (Pur.move rfl) ?_
        refine JO.pur rfl rfl rfl (Pur.extract rfl rfl) ?_
        refine JO.pur rfl rfl rfl (Pur.extract rfl rfl) ?_
        refine JO.pur rfl rfl rfl (Pur.assign rfl) ?_
        refine JO.pur rfl rfl rfl (Pur.assign rfl) ?_
        refine JO.nil ?_
        refine J.seq rfl ?_
        refine J.region rfl ?_
        refine JO.pur rfl rfl rfl (Pur.move rfl) ?_
        refine JO.pur rfl rfl rfl (Pur.move rfl) ?_
        refine JO.effR rfl rfl rfl (Eff.call rfl (same_ok (xs := (togV size parts).1) (ys := (togV size parts).1) rfl rfl)) ?_
        refine JO.setv (u' := .bool true) 83 rfl (congrArg Value.bool (by simp)) ?_
        refine JO.pur rfl rfl rfl (Pur.move rfl) ?_
        refine JO.pur rfl rfl rfl (Pur.move rfl) ?_
        refine JO.pur rfl rfl rfl (Pur.move rfl) ?_
        refine JO.pur rfl rfl rfl (Pur.eqlI rfl rfl) ?_
        refine JO.setv (u' := .bool true) 87 rfl (congrArg Value.bool (by simp)) ?_
        refine JO.pur rfl rfl rfl (Pur.pickT rfl rfl) ?_
        refine JO.pur rfl rfl rfl (Pur.move rfl) ?_
        refine JO.effR rfl rfl rfl (Eff.call rfl (first_ok)) ?_
        refine JO.setv (u' := .bool true) 90 rfl (congrArg Value.bool (rfl)) ?_
        refine JO.pur rfl rfl rfl (Pur.pickT rfl rfl) ?_
        refine JO.pur rfl rfl rfl (Pur.assign rfl) ?_
        refine JO.nil ?_
        refine J.ret rfl rfl ?_
        exact ⟨_, _, ⟨rfl, rfl⟩, rfl, SubC.out⟩

end Go.Proofs.Ytgbckamaenapeaa

/- The text HP2. -/
/-! The file through one run of ChannelReads. No program in sight. -/
set_option linter.unusedVariables false
set_option linter.unusedSimpArgs false
namespace Hf
open Go.KK
def wC (fr : Int) (pl : List UInt8) : Ch := ⟨1, fr, 400, fr + pl.length, true, fr, pl, []⟩
def rC (fr at' : Int) : Ch := ⟨2, 0, fr, at', false, 0, [], []⟩
def plR (fr : Int) (b : List UInt8) : List UInt8 := if 400 - fr < b.length then [] else b
def erR (fr : Int) (b : List UInt8) : Int := if 400 - fr < b.length then 230 else 0
def mnR (xs : List UInt8) (fr : Int) : Nat := (min fr xs.length).toNat
def BR (xs : List UInt8) (fr : Int) (b : List UInt8) : List UInt8 := putB xs (wC fr (plR fr b))
def R1 (xs : List UInt8) (fr : Int) : Fl := ⟨xs, 2, [wC fr []]⟩
def R2 (xs : List UInt8) (fr : Int) : Fl := ⟨xs, 3, [wC fr [], rC fr 0]⟩
def R3 (xs : List UInt8) (fr : Int) (b : List UInt8) : Fl := ⟨xs, 3, [wC fr (plR fr b), rC fr 0]⟩
def R4 (xs : List UInt8) (fr : Int) (b : List UInt8) : Fl := ⟨xs, 3, [wC fr (plR fr b), rC fr (mnR xs fr)]⟩
def R5 (xs : List UInt8) (fr : Int) (b : List UInt8) : Fl := ⟨BR xs fr b, 3, [putC (wC fr (plR fr b)), rC fr (mnR xs fr)]⟩
def R6 (xs : List UInt8) (fr : Int) (b : List UInt8) : Fl := ⟨BR xs fr b, 3, [rC fr (mnR xs fr)]⟩
def R7 (B : List UInt8) : Fl := ⟨B, 3, []⟩
def R8 (B : List UInt8) : Fl := ⟨B, 4, [⟨3, 0, 400, 0, false, 0, [], []⟩]⟩
def R9 (B : List UInt8) : Fl := ⟨B, 4, [⟨3, 0, 400, B.length, false, 0, [], []⟩]⟩
theorem w1 {xs : List UInt8} {fr : Int} (h0 : 0 ≤ fr) (h4 : fr ≤ 400) : beginF (newF xs) fr 400 true = (R1 xs fr, 1, 0) := by
  unfold beginF newF
  rw [if_neg (by omega), if_neg (by simp)]
  simp [R1, newC, wC]
theorem w2 {xs : List UInt8} {fr : Int} (h0 : 0 ≤ fr) (h4 : fr ≤ 400) : beginF (R1 xs fr) 0 fr false = (R2 xs fr, 2, 0) := by
  unfold beginF R1
  rw [if_neg (by omega), if_neg (by simp [busy, wC]; omega)]
  simp [R2, newC, wC, rC]
theorem w3 {xs : List UInt8} {fr : Int} {b : List UInt8} : writeF (R2 xs fr) 1 b = (R3 xs fr b, erR fr b) := by
  have hi : ix (R2 xs fr) 1 = some 0 := by simp [ix, R2, wC, List.findIdx?_cons]
  have hc : ch (R2 xs fr) 0 = wC fr [] := rfl
  unfold writeF
  rw [hi]; dsimp only
  rw [hc]
  by_cases hb : 400 - fr < b.length
  · rw [if_pos (.inr (by simp only [wC, List.length_nil]; omega))]
    unfold R3 plR erR; rw [if_pos hb, if_pos hb]; rfl
  · rw [if_neg (by rintro (h | h); cases h; simp only [wC, List.length_nil] at h; omega)]
    unfold R3 plR erR; rw [if_neg hb, if_neg hb]
    simp [upd, R2, wC]
theorem w4 {xs : List UInt8} {fr : Int} {b : List UInt8} (h0 : 0 ≤ fr) (hx : xs.length ≤ 400) : readF (R3 xs fr b) 2 400 = (R4 xs fr b, xs.take (mnR xs fr), 0) := by
  have hi : ix (R3 xs fr b) 2 = some 1 := by simp [ix, R3, wC, rC, List.findIdx?_cons]
  have hc : ch (R3 xs fr b) 1 = rC fr 0 := rfl
  unfold readF
  rw [hi]; dsimp only
  rw [hc, if_neg (by omega), if_neg (by simp [rC])]
  have hm : many (R3 xs fr b) (rC fr 0) 400 = mnR xs fr := by simp only [many, R3, rC, mnR]; omega
  rw [hm]
  simp [upd, R3, R4, rC]
theorem w5 {xs : List UInt8} {fr : Int} {b : List UInt8} : commitF (R4 xs fr b) 1 = (R5 xs fr b, 0) := by
  have hi : ix (R4 xs fr b) 1 = some 0 := by simp [ix, R4, wC, List.findIdx?_cons]
  have hc : ch (R4 xs fr b) 0 = wC fr (plR fr b) := rfl
  unfold commitF
  rw [hi]; dsimp only
  rw [hc, if_neg (by simp [wC])]
  rfl
theorem putP (c : Ch) : (putC c).pend = [] := by unfold putC; split <;> simp_all
theorem w6 {xs : List UInt8} {fr : Int} {b : List UInt8} : closeF (R5 xs fr b) 1 = (R6 xs fr b, 0) := by
  have hn := (put_num (wC fr (plR fr b))).1
  have hi : ix (R5 xs fr b) 1 = some 0 := by simp [ix, R5, List.findIdx?_cons, hn]; simp [wC]
  have hc : ch (R5 xs fr b) 0 = putC (wC fr (plR fr b)) := rfl
  unfold closeF
  rw [hi]; dsimp only
  rw [hc]
  unfold putB
  rw [if_pos (putP _)]
  rfl
theorem w7 {xs : List UInt8} {fr : Int} {b : List UInt8} : closeF (R6 xs fr b) 2 = (R7 (BR xs fr b), 0) := by
  have hi : ix (R6 xs fr b) 2 = some 0 := by simp [ix, R6, rC, List.findIdx?_cons]
  unfold closeF
  rw [hi]; rfl
theorem w8 {B : List UInt8} : beginF (R7 B) 0 400 false = (R8 B, 3, 0) := by
  unfold beginF R7
  rw [if_neg (by omega), if_neg (by simp)]
  simp [R8, newC]
theorem w9 {B : List UInt8} (hB : B.length ≤ 400) : readF (R8 B) 3 400 = (R9 B, B, 0) := by
  have hi : ix (R8 B) 3 = some 0 := by simp [ix, R8, List.findIdx?_cons]
  have hc : ch (R8 B) 0 = ⟨3, 0, 400, 0, false, 0, [], []⟩ := rfl
  unfold readF
  rw [hi]; dsimp only
  rw [hc, if_neg (by omega), if_neg (by simp)]
  have hm : many (R8 B) ⟨3, 0, 400, 0, false, 0, [], []⟩ 400 = B.length := by simp only [many, R8]; omega
  rw [hm]
  simp [upd, R8, R9]
theorem gr1 {xs : List UInt8} {fr : Int} (hx : xs.length ≤ 400) (h0 : 0 ≤ fr) (h4 : fr ≤ 400) : Good (R1 xs fr) 1 := by
  have h := good_begin (good_new hx) fr 400 true; rw [w1 h0 h4] at h; exact h
theorem gr2 {xs : List UInt8} {fr : Int} (hx : xs.length ≤ 400) (h0 : 0 ≤ fr) (h4 : fr ≤ 400) : Good (R2 xs fr) 2 := by
  have h := good_begin (gr1 hx h0 h4) 0 fr false; rw [w2 h0 h4] at h; exact h
theorem gr3 {xs : List UInt8} {fr : Int} {b : List UInt8} (hx : xs.length ≤ 400) (h0 : 0 ≤ fr) (h4 : fr ≤ 400) : Good (R3 xs fr b) 2 := by
  have h := good_write (gr2 hx h0 h4) 1 b; rw [w3] at h; exact h
theorem gr4 {xs : List UInt8} {fr : Int} {b : List UInt8} (hx : xs.length ≤ 400) (h0 : 0 ≤ fr) (h4 : fr ≤ 400) : Good (R4 xs fr b) 2 := by
  have h := good_read (gr3 (b := b) hx h0 h4) 2 400; rw [w4 h0 hx] at h; exact h
theorem gr5 {xs : List UInt8} {fr : Int} {b : List UInt8} (hx : xs.length ≤ 400) (h0 : 0 ≤ fr) (h4 : fr ≤ 400) : Good (R5 xs fr b) 2 := by
  have h := good_commit (gr4 (b := b) hx h0 h4) 1; rw [w5] at h; exact h
theorem gr6 {xs : List UInt8} {fr : Int} {b : List UInt8} (hx : xs.length ≤ 400) (h0 : 0 ≤ fr) (h4 : fr ≤ 400) : Good (R6 xs fr b) 2 := by
  have h := good_close (gr5 (b := b) hx h0 h4) 1; rw [w6] at h; exact h
theorem gr7 {xs : List UInt8} {fr : Int} {b : List UInt8} (hx : xs.length ≤ 400) (h0 : 0 ≤ fr) (h4 : fr ≤ 400) : Good (R7 (BR xs fr b)) 2 := by
  have h := good_close (gr6 (b := b) hx h0 h4) 2; rw [w7] at h; exact h
theorem gr8 {xs : List UInt8} {fr : Int} {b : List UInt8} (hx : xs.length ≤ 400) (h0 : 0 ≤ fr) (h4 : fr ≤ 400) : Good (R8 (BR xs fr b)) 3 := by
  have h := good_begin (gr7 (b := b) hx h0 h4) 0 400 false; rw [w8] at h; exact h
theorem br_same {xs : List UInt8} {fr : Int} {b : List UInt8} (h : ¬ erR fr b = 0 ∨ b.length = 0) : BR xs fr b = xs := by
  have hp : plR fr b = [] := by
    unfold plR; unfold erR at h
    split
    · rfl
    · rename_i hn
      rw [if_neg hn] at h
      rcases h with h | h
      · exact absurd rfl h
      · exact List.eq_nil_of_length_eq_zero h
  unfold BR putB
  rw [if_pos (by rw [hp]; rfl)]
theorem br_yes {xs : List UInt8} {fr : Int} {b : List UInt8} (h0 : 0 ≤ fr) (h : erR fr b = 0) (hb : ¬ b.length = 0) : fr + b.length ≤ (BR xs fr b).length ∧ ((BR xs fr b).drop fr.toNat).take b.length = b := by
  have hp : plR fr b = b := by
    unfold plR; unfold erR at h
    split
    · rename_i hn; rw [if_pos hn] at h; cases h
    · rfl
  have hne : ¬ b = [] := fun e => hb (by rw [e]; rfl)
  have e : BR xs fr b = spl (padTo xs (fr.toNat + b.length)) fr.toNat b := by
    unfold BR putB
    rw [if_neg (by rw [hp]; exact hne), hp]; rfl
  have hl := pad_len xs (fr.toNat + b.length)
  rw [e]
  refine ⟨by rw [spl_len (by omega), hl]; omega, ?_⟩
  unfold spl
  have hk : (List.take fr.toNat (padTo xs (fr.toNat + b.length))).length = fr.toNat := by rw [List.length_take]; omega
  rw [List.append_assoc, List.drop_append, hk, List.drop_of_length_le (by omega), Nat.sub_self, List.drop_zero, List.nil_append, List.take_append_of_le_length (Nat.le_refl _), List.take_length]
end Hf

/- The text HLaw2. -/
set_option linter.unusedVariables false
set_option linter.unusedSimpArgs false
set_option maxRecDepth 10000
namespace Go.Proofs.Ytgbckamaenapeaa
open Go Go.KK Hf

theorem channelReads_big {L : List Asn} {a b : Option Addr} {n cap m cq : Nat} {xs ys : List UInt8} [SlIn byE L a xs] [SlIn byE L b ys] (hn : n = xs.length) (hm : m = ys.length) (hys : ys.length ≤ 1000000000000000) (hxc : xs.length ≤ cap) (hnil : a = none → n = 0 ∧ cap = 0) (hnilb : b = none → m = 0 ∧ cq = 0) (fr : Int) (hbig : ¬ xs.length ≤ 400) :
    CallS Try.prog 5 [.slice a n cap, .slice b m cq, .int .i64 fr].toArray L (fun v M => v = .bool true ∧ M = L) := by
  subst hn
  subst hm
  refine CallS.ent ?_
  refine CallS.enter Try.func5 rfl rfl rfl rfl rfl ?_
  refine J.seq rfl ?_
  refine J.region rfl ?_
  refine JO.pur rfl rfl rfl (Pur.assign rfl) ?_
  refine JO.nil ?_
  refine J.seq rfl ?_
  refine J.region rfl ?_
  refine JO.pur rfl rfl rfl (Pur.move rfl) ?_
  refine JO.eff rfl rfl rfl (Eff.call rfl (New_big (ys := xs) rfl hbig)) ?_
  rintro _ _ ⟨rfl, rfl⟩
  refine JO.pur rfl rfl rfl (Pur.move rfl) ?_
  refine JO.pur rfl rfl rfl (Pur.extract rfl rfl) ?_
  refine JO.pur rfl rfl rfl (Pur.extract rfl rfl) ?_
  refine JO.pur rfl rfl rfl (Pur.assign rfl) ?_
  refine JO.pur rfl rfl rfl (Pur.assign rfl) ?_
  refine JO.nil ?_
  refine J.seq rfl ?_
  refine J.seq rfl ?_
  refine J.region rfl ?_
  refine JO.pur rfl rfl rfl (Pur.move rfl) ?_
  refine JO.pur rfl rfl rfl (Pur.neqI rfl rfl) ?_
  refine JO.setv (u' := .bool true) 22 rfl (congrArg Value.bool (rfl)) ?_
  refine JO.pur rfl rfl rfl (Pur.move rfl) ?_
  refine JO.no rfl rfl rfl ?_
  refine JO.no rfl rfl rfl ?_
  refine JO.pur rfl rfl rfl (Pur.pickT rfl rfl) ?_
  refine JO.pur rfl rfl rfl (Pur.move rfl) ?_
  refine JO.no rfl rfl rfl ?_
  refine JO.no rfl rfl rfl ?_
  refine JO.pur rfl rfl rfl (Pur.pickT rfl rfl) ?_
  refine JO.pur rfl rfl rfl (Pur.move rfl) ?_
  refine JO.no rfl rfl rfl ?_
  refine JO.no rfl rfl rfl ?_
  refine JO.pur rfl rfl rfl (Pur.pickT rfl rfl) ?_
  refine JO.nil ?_
  refine J.condT rfl rfl ?_
  refine J.seq rfl ?_
  refine J.region rfl ?_
  refine JO.effR rfl rfl rfl (Eff.call rfl (first_ok)) ?_
  refine JO.setv (u' := .bool true) 35 rfl (congrArg Value.bool (rfl)) ?_
  refine JO.pur rfl rfl rfl (Pur.assign rfl) ?_
  refine JO.nil ?_
  refine J.ret rfl rfl ?_
  exact ⟨_, _, ⟨rfl, rfl⟩, rfl, SubC.out⟩

theorem channelReads_fit {L : List Asn} {a b : Option Addr} {n cap m cq : Nat} {xs ys : List UInt8} [SlIn byE L a xs] [SlIn byE L b ys] (hn : n = xs.length) (hm : m = ys.length) (hys : ys.length ≤ 1000000000000000) (hxc : xs.length ≤ cap) (hnil : a = none → n = 0 ∧ cap = 0) (hnilb : b = none → m = 0 ∧ cq = 0) (fr : Int) (hx : xs.length ≤ 400) :
    CallS Try.prog 5 [.slice a n cap, .slice b m cq, .int .i64 fr].toArray L (fun v M => v = .bool true ∧ M = L) := by
  subst hn
  subst hm
  refine CallS.ent ?_
  refine CallS.enter Try.func5 rfl rfl rfl rfl rfl ?_
  refine J.seq rfl ?_
  refine J.region rfl ?_
  refine JO.pur rfl rfl rfl (Pur.assign rfl) ?_
  refine JO.nil ?_
  refine J.seq rfl ?_
  refine J.region rfl ?_
  refine JO.pur rfl rfl rfl (Pur.move rfl) ?_
  refine JO.eff rfl rfl rfl (Eff.call rfl (New_ok (ys := xs) rfl hx hnil)) ?_
  rintro _ _ ⟨p, rfl, rfl⟩
  refine JO.pur rfl rfl rfl (Pur.move rfl) ?_
  refine JO.pur rfl rfl rfl (Pur.extract rfl rfl) ?_
  refine JO.pur rfl rfl rfl (Pur.extract rfl rfl) ?_
  refine JO.pur rfl rfl rfl (Pur.assign rfl) ?_
  refine JO.pur rfl rfl rfl (Pur.assign rfl) ?_
  refine JO.nil ?_
  refine J.seq rfl ?_
  refine J.seq rfl ?_
  refine J.region rfl ?_
  refine JO.pur rfl rfl rfl (Pur.move rfl) ?_
  refine JO.pur rfl rfl rfl (Pur.neqI rfl rfl) ?_
  refine JO.setv (u' := .bool false) 22 rfl (congrArg Value.bool (rfl)) ?_
  refine JO.pur rfl rfl rfl (Pur.move rfl) ?_
  refine JO.pur rfl rfl rfl (Pur.move rfl) ?_
  refine JO.pur rfl rfl rfl (Pur.eqlPtrNil rfl) ?_
  refine JO.setv (u' := .bool false) 25 rfl (congrArg Value.bool (rfl)) ?_
  refine JO.pur rfl rfl rfl (Pur.pickF rfl rfl) ?_
  refine JO.pur rfl rfl rfl (Pur.move rfl) ?_
  refine JO.pur rfl rfl rfl (Pur.move rfl) ?_
  refine JO.pur rfl rfl rfl (Pur.lss rfl rfl) ?_
  refine JO.pur rfl rfl rfl (Pur.pickF rfl rfl) ?_
  refine JO.pur rfl rfl rfl (Pur.move rfl) ?_
  refine JO.splitB 31 rfl (fun h31 => ?_) (fun h31 => ?_)
  · try simp only [decide_eq_true_eq, decide_eq_false_iff_not, Bool.not_eq_true', Bool.not_eq_false', Bool.and_eq_true, Bool.or_eq_true, Bool.and_eq_false_iff, Bool.or_eq_false_iff, Option.isNone_some, Option.isSome_some, Option.isNone_none, Option.isSome_none, Int.not_lt, Int.not_le, beq_iff_eq, beq_eq_false_iff_ne, bne_iff_ne, ne_eq, Bool.not_not, Decidable.not_not] at h31
    refine JO.no rfl rfl rfl ?_
    refine JO.no rfl rfl rfl ?_
    refine JO.pur rfl rfl rfl (Pur.pickT rfl rfl) ?_
    refine JO.nil ?_
    refine J.condT rfl rfl ?_
    refine J.seq rfl ?_
    refine J.region rfl ?_
    refine JO.effR rfl rfl rfl (Eff.call rfl (first_ok)) ?_
    refine JO.setv (u' := .bool true) 35 rfl (congrArg Value.bool (rfl)) ?_
    refine JO.pur rfl rfl rfl (Pur.assign rfl) ?_
    refine JO.nil ?_
    refine J.ret rfl rfl ?_
    exact ⟨_, _, ⟨rfl, rfl⟩, rfl, SubC.out⟩
  · try simp only [decide_eq_true_eq, decide_eq_false_iff_not, Bool.not_eq_true', Bool.not_eq_false', Bool.and_eq_true, Bool.or_eq_true, Bool.and_eq_false_iff, Bool.or_eq_false_iff, Option.isNone_some, Option.isSome_some, Option.isNone_none, Option.isSome_none, Int.not_lt, Int.not_le, beq_iff_eq, beq_eq_false_iff_ne, bne_iff_ne, ne_eq, Bool.not_not, Decidable.not_not] at h31
    refine JO.pur rfl rfl rfl (Pur.move rfl) ?_
    refine JO.pur rfl rfl rfl (Pur.gtr rfl rfl) ?_
    refine JO.pur rfl rfl rfl (Pur.pickF rfl rfl) ?_
    refine JO.nil ?_
    refine J.splitB 34 rfl (fun h34 => ?_) (fun h34 => ?_)
    · try simp only [decide_eq_true_eq, decide_eq_false_iff_not, Bool.not_eq_true', Bool.not_eq_false', Bool.and_eq_true, Bool.or_eq_true, Bool.and_eq_false_iff, Bool.or_eq_false_iff, Option.isNone_some, Option.isSome_some, Option.isNone_none, Option.isSome_none, Int.not_lt, Int.not_le, beq_iff_eq, beq_eq_false_iff_ne, bne_iff_ne, ne_eq, Bool.not_not, Decidable.not_not] at h34
      refine J.condT rfl rfl ?_
      refine J.seq rfl ?_
      refine J.region rfl ?_
      refine JO.effR rfl rfl rfl (Eff.call rfl (first_ok)) ?_
      refine JO.setv (u' := .bool true) 35 rfl (congrArg Value.bool (rfl)) ?_
      refine JO.pur rfl rfl rfl (Pur.assign rfl) ?_
      refine JO.nil ?_
      refine J.ret rfl rfl ?_
      exact ⟨_, _, ⟨rfl, rfl⟩, rfl, SubC.out⟩
    · try simp only [decide_eq_true_eq, decide_eq_false_iff_not, Bool.not_eq_true', Bool.not_eq_false', Bool.and_eq_true, Bool.or_eq_true, Bool.and_eq_false_iff, Bool.or_eq_false_iff, Option.isNone_some, Option.isSome_some, Option.isNone_none, Option.isSome_none, Int.not_lt, Int.not_le, beq_iff_eq, beq_eq_false_iff_ne, bne_iff_ne, ne_eq, Bool.not_not, Decidable.not_not] at h34
      refine J.condF rfl rfl ?_
      refine J.skip rfl ?_
      refine J.seq rfl ?_
      have h0 : 0 ≤ fr := by omega
      have h4 : fr ≤ 400 := by omega
      refine J.region rfl ?_
      refine JO.pur rfl rfl rfl (Pur.move rfl) ?_
      refine JO.pur rfl rfl rfl (Pur.move rfl) ?_
      refine JO.eff rfl rfl rfl (Eff.call rfl (Writer_ok (F := newF xs) (fr := fr) (to := 400) (good_new hx) (by decide))) ?_
      rintro _ _ ⟨rfl, rfl⟩
      rw [w1 h0 h4]
      refine JO.pur rfl rfl rfl (Pur.move rfl) ?_
      refine JO.pur rfl rfl rfl (Pur.extract rfl rfl) ?_
      refine JO.pur rfl rfl rfl (Pur.extract rfl rfl) ?_
      refine JO.pur rfl rfl rfl (Pur.assign rfl) ?_
      refine JO.pur rfl rfl rfl (Pur.assign rfl) ?_
      refine JO.nil ?_
      refine J.seq rfl ?_
      refine J.region rfl ?_
      refine JO.pur rfl rfl rfl (Pur.move rfl) ?_
      refine JO.pur rfl rfl rfl (Pur.move rfl) ?_
      refine JO.eff rfl rfl rfl (Eff.call rfl (Reader_ok (F := R1 xs fr) (fr := 0) (to := fr) (gr1 hx h0 h4) (by decide))) ?_
      rintro _ _ ⟨rfl, rfl⟩
      rw [w2 h0 h4]
      refine JO.pur rfl rfl rfl (Pur.move rfl) ?_
      refine JO.pur rfl rfl rfl (Pur.extract rfl rfl) ?_
      refine JO.pur rfl rfl rfl (Pur.extract rfl rfl) ?_
      refine JO.pur rfl rfl rfl (Pur.assign rfl) ?_
      refine JO.pur rfl rfl rfl (Pur.assign rfl) ?_
      refine JO.nil ?_
      refine J.seq rfl ?_
      refine J.seq rfl ?_
      refine J.region rfl ?_
      refine JO.pur rfl rfl rfl (Pur.move rfl) ?_
      refine JO.pur rfl rfl rfl (Pur.neqI rfl rfl) ?_
      refine JO.setv (u' := .bool false) 49 rfl (congrArg Value.bool (rfl)) ?_
      refine JO.pur rfl rfl rfl (Pur.move rfl) ?_
      refine JO.pur rfl rfl rfl (Pur.move rfl) ?_
      refine JO.pur rfl rfl rfl (Pur.neqI rfl rfl) ?_
      refine JO.setv (u' := .bool false) 52 rfl (congrArg Value.bool (rfl)) ?_
      refine JO.pur rfl rfl rfl (Pur.pickF rfl rfl) ?_
      refine JO.nil ?_
      refine J.condF rfl rfl ?_
      refine J.skip rfl ?_
      refine J.seq rfl ?_
      refine J.region rfl ?_
      refine JO.pur rfl rfl rfl (Pur.move rfl) ?_
      refine JO.pur rfl rfl rfl (Pur.move rfl) ?_
      refine JO.pur rfl rfl rfl (Pur.move rfl) ?_
      refine JO.eff rfl rfl rfl (Eff.call rfl (Write_ok (F := R2 xs fr) (n := 1) (ys := ys) rfl hys hnilb (gr2 hx h0 h4) (by decide))) ?_
      rintro _ _ ⟨rfl, rfl⟩
      rw [w3]
      refine JO.pur rfl rfl rfl (Pur.assign rfl) ?_
      refine JO.nil ?_
      refine J.seq rfl ?_
      refine J.region rfl ?_
      refine JO.pur rfl rfl rfl (Pur.move rfl) ?_
      refine JO.pur rfl rfl rfl (Pur.move rfl) ?_
      refine JO.eff rfl rfl rfl (Eff.call rfl (Read_ok (F := R3 xs fr ys) (n := 2) (q := 400) (gr3 hx h0 h4) (by decide))) ?_
      rintro _ _ ⟨a61, c61, rfl, rfl⟩
      rw [w4 h0 hx]
      have hml : mnR xs fr ≤ xs.length := by unfold mnR; omega
      have htl : (xs.take (mnR xs fr)).length = mnR xs fr := by rw [List.length_take]; omega
      refine JO.pur rfl rfl rfl (Pur.move rfl) ?_
      refine JO.pur rfl rfl rfl (Pur.extract rfl rfl) ?_
      refine JO.pur rfl rfl rfl (Pur.extract rfl rfl) ?_
      refine JO.pur rfl rfl rfl (Pur.assign rfl) ?_
      refine JO.pur rfl rfl rfl (Pur.assign rfl) ?_
      refine JO.nil ?_
      refine J.seq rfl ?_
      refine J.seq rfl ?_
      refine J.region rfl ?_
      refine JO.pur rfl rfl rfl (Pur.move rfl) ?_
      refine JO.pur rfl rfl rfl (Pur.neqI rfl rfl) ?_
      refine JO.setv (u' := .bool false) 65 rfl (congrArg Value.bool (rfl)) ?_
      refine JO.pur rfl rfl rfl (Pur.move rfl) ?_
      refine JO.pur rfl rfl rfl (Pur.move rfl) ?_
      refine JO.pur rfl rfl rfl (Pur.move rfl) ?_
      refine JO.pur rfl rfl rfl (Pur.move rfl) ?_
      refine JO.pur rfl rfl rfl (Pur.move rfl) ?_
      refine JO.pur rfl rfl rfl (Pur.len rfl) ?_
      refine JO.pur rfl rfl rfl (Pur.min2 rfl rfl) ?_
      refine JO.setv (u' := .int .i64 ((mnR xs fr : Nat) : Int)) 72 rfl (congrArg (Value.int .i64) (show min fr (xs.length : Int) = ((mnR xs fr : Nat) : Int) by unfold mnR; omega)) ?_
      refine JO.pur rfl rfl rfl (Pur.slice0 rfl rfl rfl (by omega)) ?_
      refine JO.effR rfl rfl rfl (Eff.call rfl (@same_ok _ _ _ _ _ _ _ (xs.take (mnR xs fr)) (xs.take (mnR xs fr)) inferInstance (SlIn.takeN inferInstance (mnR xs fr)) rfl htl.symm)) ?_
      refine JO.setv (u' := .bool true) 74 rfl (congrArg Value.bool (by simp)) ?_
      refine JO.pur rfl rfl rfl (Pur.not rfl) ?_
      refine JO.pur rfl rfl rfl (Pur.pickF rfl rfl) ?_
      refine JO.pur rfl rfl rfl (Pur.move rfl) ?_
      refine JO.pur rfl rfl rfl (Pur.move rfl) ?_
      refine JO.imp (M := FA p (R4 xs fr ys) :: sl byE a61 c61 (xs.take (mnR xs fr)) :: L) (fun h s => SubC.out h s) ?_
      refine JO.eff rfl rfl rfl (Eff.call rfl (Bytes_ok (F := R4 xs fr ys) hx)) ?_
      rintro _ _ ⟨a79, c79, rfl, rfl⟩
      refine JO.pur rfl rfl rfl (Pur.move rfl) ?_
      refine JO.effR rfl rfl rfl (Eff.call rfl (same_ok (xs := xs) (ys := xs) rfl rfl)) ?_
      refine JO.setv (u' := .bool true) 81 rfl (congrArg Value.bool (by simp)) ?_
      refine JO.pur rfl rfl rfl (Pur.not rfl) ?_
      refine JO.pur rfl rfl rfl (Pur.pickF rfl rfl) ?_
      refine JO.nil ?_
      refine J.condF rfl rfl ?_
      refine J.skip rfl ?_
      refine J.seq rfl ?_
      refine J.seq rfl ?_
      refine J.region rfl ?_
      refine JO.pur rfl rfl rfl (Pur.move rfl) ?_
      refine JO.pur rfl rfl rfl (Pur.move rfl) ?_
      refine JO.imp (M := FA p (R4 xs fr ys) :: sl byE a79 c79 (R4 xs fr ys).bytes :: sl byE a61 c61 (xs.take (mnR xs fr)) :: L) (fun h s => SubC.out h s) ?_
      refine JO.eff rfl rfl rfl (Eff.call rfl (Commit_ok (F := R4 xs fr ys) (n := 1) (gr4 hx h0 h4) (by decide))) ?_
      rintro _ _ ⟨rfl, rfl⟩
      rw [w5]
      refine JO.pur rfl rfl rfl (Pur.neqI rfl rfl) ?_
      refine JO.setv (u' := .bool false) 87 rfl (congrArg Value.bool (rfl)) ?_
      refine JO.pur rfl rfl rfl (Pur.move rfl) ?_
      refine JO.pur rfl rfl rfl (Pur.move rfl) ?_
      refine JO.pur rfl rfl rfl (Pur.move rfl) ?_
      refine JO.eff rfl rfl rfl (Eff.call rfl (Close_ok (F := R5 xs fr ys) (n := 1) (gr5 hx h0 h4) (by decide))) ?_
      rintro _ _ ⟨rfl, rfl⟩
      rw [w6]
      refine JO.pur rfl rfl rfl (Pur.neqI rfl rfl) ?_
      refine JO.setv (u' := .bool false) 92 rfl (congrArg Value.bool (rfl)) ?_
      refine JO.pur rfl rfl rfl (Pur.pickF rfl rfl) ?_
      refine JO.pur rfl rfl rfl (Pur.move rfl) ?_
      refine JO.pur rfl rfl rfl (Pur.move rfl) ?_
      refine JO.pur rfl rfl rfl (Pur.move rfl) ?_
      refine JO.eff rfl rfl rfl (Eff.call rfl (Close_ok (F := R6 xs fr ys) (n := 2) (gr6 hx h0 h4) (by decide))) ?_
      rintro _ _ ⟨rfl, rfl⟩
      rw [w7]
      refine JO.pur rfl rfl rfl (Pur.neqI rfl rfl) ?_
      refine JO.setv (u' := .bool false) 98 rfl (congrArg Value.bool (rfl)) ?_
      refine JO.pur rfl rfl rfl (Pur.pickF rfl rfl) ?_
      refine JO.nil ?_
      refine J.condF rfl rfl ?_
      refine J.skip rfl ?_
      refine J.seq rfl ?_
      refine J.region rfl ?_
      refine JO.pur rfl rfl rfl (Pur.move rfl) ?_
      refine JO.eff rfl rfl rfl (Eff.call rfl (Reader_ok (F := R7 (BR xs fr ys)) (fr := 0) (to := 400) (gr7 hx h0 h4) (by decide))) ?_
      rintro _ _ ⟨rfl, rfl⟩
      rw [w8]
      have hB4 := (gr7 (b := ys) hx h0 h4).b4
      refine JO.pur rfl rfl rfl (Pur.move rfl) ?_
      refine JO.pur rfl rfl rfl (Pur.extract rfl rfl) ?_
      refine JO.pur rfl rfl rfl (Pur.extract rfl rfl) ?_
      refine JO.pur rfl rfl rfl (Pur.assign rfl) ?_
      refine JO.pur rfl rfl rfl (Pur.assign rfl) ?_
      refine JO.nil ?_
      refine J.seq rfl ?_
      refine J.seq rfl ?_
      refine J.region rfl ?_
      refine JO.pur rfl rfl rfl (Pur.move rfl) ?_
      refine JO.pur rfl rfl rfl (Pur.neqI rfl rfl) ?_
      refine JO.setv (u' := .bool false) 106 rfl (congrArg Value.bool (rfl)) ?_
      refine JO.nil ?_
      refine J.condF rfl rfl ?_
      refine J.skip rfl ?_
      refine J.seq rfl ?_
      refine J.region rfl ?_
      refine JO.pur rfl rfl rfl (Pur.move rfl) ?_
      refine JO.pur rfl rfl rfl (Pur.move rfl) ?_
      refine JO.eff rfl rfl rfl (Eff.call rfl (Read_ok (F := R8 (BR xs fr ys)) (n := 3) (q := 400) (gr8 hx h0 h4) (by decide))) ?_
      rintro _ _ ⟨a110, c110, rfl, rfl⟩
      rw [w9 (B := BR xs fr ys) hB4]
      refine JO.pur rfl rfl rfl (Pur.move rfl) ?_
      refine JO.pur rfl rfl rfl (Pur.extract rfl rfl) ?_
      refine JO.pur rfl rfl rfl (Pur.extract rfl rfl) ?_
      refine JO.pur rfl rfl rfl (Pur.assign rfl) ?_
      refine JO.pur rfl rfl rfl (Pur.assign rfl) ?_
      refine JO.nil ?_
      refine J.seq rfl ?_
      refine J.seq rfl ?_
      refine J.region rfl ?_
      refine JO.pur rfl rfl rfl (Pur.move rfl) ?_
      refine JO.pur rfl rfl rfl (Pur.neqI rfl rfl) ?_
      refine JO.setv (u' := .bool false) 114 rfl (congrArg Value.bool (rfl)) ?_
      refine JO.pur rfl rfl rfl (Pur.move rfl) ?_
      refine JO.pur rfl rfl rfl (Pur.move rfl) ?_
      refine JO.pur rfl rfl rfl (Pur.move rfl) ?_
      refine JO.imp (M := FA p (R9 (BR xs fr ys)) :: sl byE a110 c110 (BR xs fr ys) :: sl byE a79 c79 (R4 xs fr ys).bytes :: sl byE a61 c61 (xs.take (mnR xs fr)) :: L) (fun h s => SubC.out h s) ?_
      refine JO.eff rfl rfl rfl (Eff.call rfl (Bytes_ok (F := R9 (BR xs fr ys)) hB4)) ?_
      rintro _ _ ⟨a118, c118, rfl, rfl⟩
      refine JO.effR rfl rfl rfl (Eff.call rfl (same_ok (xs := (BR xs fr ys)) (ys := (BR xs fr ys)) rfl rfl)) ?_
      refine JO.setv (u' := .bool true) 119 rfl (congrArg Value.bool (by simp)) ?_
      refine JO.pur rfl rfl rfl (Pur.not rfl) ?_
      refine JO.pur rfl rfl rfl (Pur.pickF rfl rfl) ?_
      refine JO.nil ?_
      refine J.condF rfl rfl ?_
      refine J.skip rfl ?_
      refine J.seq rfl ?_
      refine J.seq rfl ?_
      refine J.region rfl ?_
      refine JO.pur rfl rfl rfl (Pur.move rfl) ?_
      refine JO.pur rfl rfl rfl (Pur.neqI rfl rfl) ?_
      refine JO.pur rfl rfl rfl (Pur.move rfl) ?_
      refine JO.splitB 124 rfl (fun h124 => ?_) (fun h124 => ?_)
      · try simp only [decide_eq_true_eq, decide_eq_false_iff_not, Bool.not_eq_true', Bool.not_eq_false', Bool.and_eq_true, Bool.or_eq_true, Bool.and_eq_false_iff, Bool.or_eq_false_iff, Option.isNone_some, Option.isSome_some, Option.isNone_none, Option.isSome_none, Int.not_lt, Int.not_le, beq_iff_eq, beq_eq_false_iff_ne, bne_iff_ne, ne_eq, Bool.not_not, Decidable.not_not] at h124
        have hbs := br_same (xs := xs) (fr := fr) (b := ys) (.inl (by omega))
        refine JO.no rfl rfl rfl ?_
        refine JO.no rfl rfl rfl ?_
        refine JO.no rfl rfl rfl ?_
        refine JO.pur rfl rfl rfl (Pur.pickT rfl rfl) ?_
        refine JO.nil ?_
        refine J.condT rfl rfl ?_
        refine J.seq rfl ?_
        refine J.region rfl ?_
        refine JO.pur rfl rfl rfl (Pur.move rfl) ?_
        refine JO.pur rfl rfl rfl (Pur.move rfl) ?_
        refine JO.effR rfl rfl rfl (Eff.call rfl (same_ok (xs := (BR xs fr ys)) (ys := xs) rfl rfl)) ?_
        refine JO.setv (u' := .bool true) 131 rfl (congrArg Value.bool (decide_eq_true hbs)) ?_
        refine JO.pur rfl rfl rfl (Pur.move rfl) ?_
        refine JO.effR rfl rfl rfl (Eff.call rfl (first_ok)) ?_
        refine JO.setv (u' := .bool true) 133 rfl (congrArg Value.bool (rfl)) ?_
        refine JO.pur rfl rfl rfl (Pur.pickT rfl rfl) ?_
        refine JO.pur rfl rfl rfl (Pur.assign rfl) ?_
        refine JO.nil ?_
        refine J.ret rfl rfl ?_
        exact ⟨_, _, ⟨rfl, rfl⟩, rfl, SubC.out⟩
      · try simp only [decide_eq_true_eq, decide_eq_false_iff_not, Bool.not_eq_true', Bool.not_eq_false', Bool.and_eq_true, Bool.or_eq_true, Bool.and_eq_false_iff, Bool.or_eq_false_iff, Option.isNone_some, Option.isSome_some, Option.isNone_none, Option.isSome_none, Int.not_lt, Int.not_le, beq_iff_eq, beq_eq_false_iff_ne, bne_iff_ne, ne_eq, Bool.not_not, Decidable.not_not] at h124
        refine JO.pur rfl rfl rfl (Pur.move rfl) ?_
        refine JO.pur rfl rfl rfl (Pur.len rfl) ?_
        refine JO.pur rfl rfl rfl (Pur.eqlI rfl rfl) ?_
        refine JO.pur rfl rfl rfl (Pur.pickF rfl rfl) ?_
        refine JO.nil ?_
        refine J.splitB 128 rfl (fun h128 => ?_) (fun h128 => ?_)
        · try simp only [decide_eq_true_eq, decide_eq_false_iff_not, Bool.not_eq_true', Bool.not_eq_false', Bool.and_eq_true, Bool.or_eq_true, Bool.and_eq_false_iff, Bool.or_eq_false_iff, Option.isNone_some, Option.isSome_some, Option.isNone_none, Option.isSome_none, Int.not_lt, Int.not_le, beq_iff_eq, beq_eq_false_iff_ne, bne_iff_ne, ne_eq, Bool.not_not, Decidable.not_not] at h128
          have hbs := br_same (xs := xs) (fr := fr) (b := ys) (.inr (by omega))
          refine J.condT rfl rfl ?_
          refine J.seq rfl ?_
          refine J.region rfl ?_
          refine JO.pur rfl rfl rfl (Pur.move rfl) ?_
          refine JO.pur rfl rfl rfl (Pur.move rfl) ?_
          refine JO.effR rfl rfl rfl (Eff.call rfl (same_ok (xs := (BR xs fr ys)) (ys := xs) rfl rfl)) ?_
          refine JO.setv (u' := .bool true) 131 rfl (congrArg Value.bool (decide_eq_true hbs)) ?_
          refine JO.pur rfl rfl rfl (Pur.move rfl) ?_
          refine JO.effR rfl rfl rfl (Eff.call rfl (first_ok)) ?_
          refine JO.setv (u' := .bool true) 133 rfl (congrArg Value.bool (rfl)) ?_
          refine JO.pur rfl rfl rfl (Pur.pickT rfl rfl) ?_
          refine JO.pur rfl rfl rfl (Pur.assign rfl) ?_
          refine JO.nil ?_
          refine J.ret rfl rfl ?_
          exact ⟨_, _, ⟨rfl, rfl⟩, rfl, SubC.out⟩
        · try simp only [decide_eq_true_eq, decide_eq_false_iff_not, Bool.not_eq_true', Bool.not_eq_false', Bool.and_eq_true, Bool.or_eq_true, Bool.and_eq_false_iff, Bool.or_eq_false_iff, Option.isNone_some, Option.isSome_some, Option.isNone_none, Option.isSome_none, Int.not_lt, Int.not_le, beq_iff_eq, beq_eq_false_iff_ne, bne_iff_ne, ne_eq, Bool.not_not, Decidable.not_not] at h128
          refine J.condF rfl rfl ?_
          refine J.skip rfl ?_
          refine J.seq rfl ?_
          have hby := br_yes (xs := xs) (fr := fr) (b := ys) h0 (by omega) (by omega)
          obtain ⟨hbl, hbt⟩ := hby
          refine J.fact (fun h s => SlH.le (a := a110) (cap := c110) (E := byE) (xs := BR xs fr ys) s) fun hcp => ?_
          refine J.fact (fun h s => SlH.nil (a := a110) (cap := c110) (E := byE) (xs := BR xs fr ys) s) fun hnl => ?_
          refine J.region rfl ?_
          refine JO.pur rfl rfl rfl (Pur.move rfl) ?_
          refine JO.pur rfl rfl rfl (Pur.len rfl) ?_
          refine JO.pur rfl rfl rfl (Pur.move rfl) ?_
          refine JO.pur rfl rfl rfl (Pur.move rfl) ?_
          refine JO.pur rfl rfl rfl (Pur.len rfl) ?_
          refine JO.pur rfl rfl rfl (Pur.add rfl rfl (wr64 (by omega))) ?_
          refine JO.pur rfl rfl rfl (Pur.geq rfl rfl) ?_
          refine JO.setv (u' := .bool true) 141 rfl (congrArg Value.bool (decide_eq_true (by omega))) ?_
          refine JO.pur rfl rfl rfl (Pur.move rfl) ?_
          refine JO.pur rfl rfl rfl (Pur.move rfl) ?_
          refine JO.pur rfl rfl rfl (Pur.move rfl) ?_
          refine JO.pur rfl rfl rfl (Pur.move rfl) ?_
          refine JO.pur rfl rfl rfl (Pur.move rfl) ?_
          refine JO.pur rfl rfl rfl (Pur.len rfl) ?_
          refine JO.pur rfl rfl rfl (Pur.add rfl rfl (wr64 (by omega))) ?_
          refine JO.pur rfl rfl rfl (Pur.slice2 rfl rfl rfl (Int.toNat_of_nonneg (by omega)).symm (show fr + (ys.length : Int) = ((fr.toNat + ys.length : Nat) : Int) by omega) (by omega) (by omega)) ?_
          refine JO.pur rfl rfl rfl (Pur.move rfl) ?_
          refine JO.effR rfl rfl rfl (Eff.call rfl (@same_ok _ _ _ _ _ _ _ (((BR xs fr ys).drop fr.toNat).take ys.length) ys (SlIn.takeN (SlIn.dropN (cap := c110) inferInstance rfl fr.toNat (fun e => by omega)) ys.length) inferInstance (by rw [hbt]; omega) rfl)) ?_
          refine JO.setv (u' := .bool true) 151 rfl (congrArg Value.bool (decide_eq_true hbt)) ?_
          refine JO.pur rfl rfl rfl (Pur.pickT rfl rfl) ?_
          refine JO.pur rfl rfl rfl (Pur.move rfl) ?_
          refine JO.effR rfl rfl rfl (Eff.call rfl (first_ok)) ?_
          refine JO.setv (u' := .bool true) 154 rfl (congrArg Value.bool (rfl)) ?_
          refine JO.pur rfl rfl rfl (Pur.pickT rfl rfl) ?_
          refine JO.pur rfl rfl rfl (Pur.assign rfl) ?_
          refine JO.nil ?_
          refine J.ret rfl rfl ?_
          exact ⟨_, _, ⟨rfl, rfl⟩, rfl, SubC.out⟩

theorem channelReads_ok {L : List Asn} {a b : Option Addr} {n cap m cq : Nat} {xs ys : List UInt8} [SlIn byE L a xs] [SlIn byE L b ys] (hn : n = xs.length) (hm : m = ys.length) (hys : ys.length ≤ 1000000000000000) (hxc : xs.length ≤ cap) (hnil : a = none → n = 0 ∧ cap = 0) (hnilb : b = none → m = 0 ∧ cq = 0) (fr : Int) : CallS Try.prog 5 [.slice a n cap, .slice b m cq, .int .i64 fr].toArray L (fun v M => v = .bool true ∧ M = L) := by
  by_cases hx : xs.length ≤ 400
  · exact channelReads_fit hn hm hys hxc hnil hnilb fr hx
  · exact channelReads_big hn hm hys hxc hnil hnilb fr hx
end Go.Proofs.Ytgbckamaenapeaa
