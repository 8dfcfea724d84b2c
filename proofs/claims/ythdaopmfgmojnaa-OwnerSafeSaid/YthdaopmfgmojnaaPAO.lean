/-
  A part of the proof of the claim that this folder bears.
-/
import Derived.Test.YthdaopmfgmojnaaPAN
/- The text OSkip. -/
set_option linter.unusedVariables false
set_option linter.unusedSimpArgs false
namespace Go.Proofs.Ythdaopmfgmojnaa
open Go Go.KK Ow

theorem plain_src {d : Deed} (h : PlainD d) (hf : fromB d.act = false) : isVarB d.src = false := by
  have h1 := h.ok
  unfold deedOk need at h1
  split at h1
  · cases h1
  · rename_i v f hn
    split at hn
    · cases hn
      simp only [nameOk, Bool.and_eq_true, Bool.false_eq_true, if_false, decide_eq_true_eq] at h1
      rw [h1.2]; decide
    · split at hn
      · rename_i ha
        exfalso
        rcases ha with h | h | h <;> (rw [h] at hf; revert hf; decide)
      · split at hn
        · rename_i ha
          rcases ha with h2 | h2 | h2
          · exact absurd h2 h.e1
          · exact absurd h2 h.e2
          · exact absurd h2 h.e3
        · cases hn
theorem rwrong_ok {L : List Asn} {b : Nat} {aa ac af : Option Addr} {ca cc cf : Nat} {σ : Sx} {d : Deed} (g : Ow.Good σ) (hd : PlainD d) : CallS Try.prog 50 [.pointer (some ⟨b, 0, none⟩), .agg #[.string d.act, .string d.var, .string d.src]].toArray (blk b (arr hE (hs σ.vars) [.slice aa σ.alive.tail.length ca, .slice ac (rc σ).length cc, .slice af (fz σ.freed).length cf] 71) :: sl boolE aa ca σ.alive.tail :: sl intE ac cc (rc σ) :: sl intE af cf (fz σ.freed) :: L) (fun x M => x = .string (wrongS σ d) ∧ M = blk b (arr hE (hs σ.vars) [.slice aa σ.alive.tail.length ca, .slice ac (rc σ).length cc, .slice af (fz σ.freed).length cf] 71) :: sl boolE aa ca σ.alive.tail :: sl intE ac cc (rc σ) :: sl intE af cf (fz σ.freed) :: L) := by
  obtain ⟨h1, h2, h3⟩ := plain_nine hd
  have h4 := plain_src hd
  obtain ⟨act, var, src⟩ := d
  dsimp only at h1 h2 h3 h4
  rcases h1 with h | h | h | h | h | h | h | h | h <;> subst h
  · exact rwrong_sNew g h2 (h4 (by decide))
  · exact rwrong_sShare g h2 (h4 (by decide))
  · exact rwrong_sRaw g h2 (h4 (by decide))
  · exact rwrong_sUse g h2 (h4 (by decide))
  · exact rwrong_sFree g h2 (h4 (by decide))
  · exact rwrong_sDrop g h2 (h4 (by decide))
  · exact rwrong_sMove g h2 (h3 (by decide))
  · exact rwrong_sCopy g h2 (h3 (by decide))
  · exact rwrong_sBorrow g h2 (h3 (by decide))
theorem rdoes_ok {L : List Asn} {b : Nat} {aa ac af : Option Addr} {ca cc cf : Nat} {σ : Sx} {d : Deed} (g : Ow.Good σ) (hr : wrongS σ d = sNone) (hd : PlainD d) : CallS Try.prog 51 [.pointer (some ⟨b, 0, none⟩), .agg #[.string d.act, .string d.var, .string d.src]].toArray (blk b (arr hE (hs σ.vars) [.slice aa σ.alive.tail.length ca, .slice ac (rc σ).length cc, .slice af (fz σ.freed).length cf] 71) :: sl boolE aa ca σ.alive.tail :: sl intE ac cc (rc σ) :: sl intE af cf (fz σ.freed) :: L) (fun x M => ∃ aa' ca' ac' cc' af' cf', x = .tuple #[] ∧ M = blk b (arr hE (hs (doS σ d).vars) [.slice aa' (doS σ d).alive.tail.length ca', .slice ac' (rc (doS σ d)).length cc', .slice af' (fz (doS σ d).freed).length cf'] 71) :: sl boolE aa' ca' (doS σ d).alive.tail :: sl intE ac' cc' (rc (doS σ d)) :: sl intE af' cf' (fz (doS σ d).freed) :: L) := by
  obtain ⟨h1, h2, h3⟩ := plain_nine hd
  have h4 := plain_src hd
  obtain ⟨act, var, src⟩ := d
  dsimp only at h1 h2 h3 h4
  rcases h1 with h | h | h | h | h | h | h | h | h <;> subst h
  · exact rdoes_sNew g hr h2 (h4 (by decide))
  · exact rdoes_sShare g hr h2 (h4 (by decide))
  · exact rdoes_sRaw g hr h2 (h4 (by decide))
  · exact rdoes_sUse g hr h2 (h4 (by decide))
  · exact rdoes_sFree g hr h2 (h4 (by decide))
  · exact rdoes_sDrop g hr h2 (h4 (by decide))
  · exact rdoes_sMove g hr h2 (h3 (by decide))
  · exact rdoes_sCopy g hr h2 (h3 (by decide))
  · exact rdoes_sBorrow g hr h2 (h3 (by decide))
def wantS (b : Bool) : Str := if b = true then sOr else sEnd
theorem skip_succ {l : List Deed} {w : Bool} {at' deep : Nat} (h : at' < l.length) : skipF l w (l.length - at') at' deep = (if (dd l at').act = sEither then skipF l w (l.length - (at' + 1)) (at' + 1) (deep + 1)
    else if (dd l at').act = sOr then (if deep = 0 ∧ w = true then at' + 1 else skipF l w (l.length - (at' + 1)) (at' + 1) deep)
    else if (dd l at').act = sEnd then (if deep = 0 then at' + 1 else skipF l w (l.length - (at' + 1)) (at' + 1) (deep - 1))
    else skipF l w (l.length - (at' + 1)) (at' + 1) deep) := by
  rw [show l.length - at' = (l.length - (at' + 1)) + 1 by omega, skipF]
set_option maxRecDepth 10000 in
theorem skip_ok {L : List Asn} {a : Option Addr} {n cp at' : Nat} {xs : List Deed} {want : Bool} [SlIn deedE L a xs] (hn : n = xs.length) (hb : xs.length ≤ 1000000) (ha : at' ≤ xs.length) :
    CallS Try.prog 54 [.slice a n cp, .int .i64 (at' : Int), .string (wantS want)].toArray L (fun v M => v = .int .i64 (skipV xs at' want : Int) ∧ M = L) := by
  subst hn
  refine CallS.enter Try.func54 rfl rfl rfl rfl rfl ?_
  refine J.seq rfl ?_
  refine J.region rfl ?_
  refine JO.pur rfl rfl rfl (Pur.assign rfl) ?_
  refine JO.nil ?_
  refine J.seq rfl ?_
  refine J.region rfl ?_
  refine JO.pur rfl rfl rfl (Pur.assign rfl) ?_
  refine JO.nil ?_
  refine J.seq rfl ?_
  refine J.block rfl ?_
  refine J.loopF (ι := Nat × Nat) (fun q => q.1 ≤ xs.length ∧ q.2 ≤ q.1 ∧ skipF xs want (xs.length - q.1) q.1 q.2 = skipV xs at' want) (fun q => [(1, .int .i64 (q.1 : Int)), (7, .int .i64 (q.2 : Int))]) [(0, _), (2, _)] (fun q => L) (fun q => xs.length - q.1) (at', 0) rfl (.cons rfl rfl (.cons rfl rfl .nil)) (.cons rfl rfl (.cons rfl rfl .nil)) (by first | exact fun _ h => h | exact SubC.out | (dsimp only; exact SubC.out)) ⟨ha, Nat.zero_le _, rfl⟩ ?_
  rintro ⟨i, dp⟩ ⟨hi, hd, hsk⟩ ih0
  try dsimp only
  dsimp only at hi hd hsk
  refine J.seq rfl ?_
  refine J.seq rfl ?_
  refine J.region rfl ?_
  refine JO.pur rfl rfl rfl (Pur.move rfl) ?_
  refine JO.pur rfl rfl rfl (Pur.move rfl) ?_
  refine JO.pur rfl rfl rfl (Pur.len rfl) ?_
  refine JO.pur rfl rfl rfl (Pur.lss rfl rfl) ?_
  refine JO.nil ?_
  refine J.splitB 11 rfl (fun h11 => ?_) (fun h11 => ?_)
  · try simp only [decide_eq_true_eq, decide_eq_false_iff_not, Bool.not_eq_true', Bool.not_eq_false', Bool.and_eq_true, Bool.or_eq_true, Bool.and_eq_false_iff, Bool.or_eq_false_iff, Option.isNone_some, Option.isSome_some, Option.isNone_none, Option.isSome_none, Int.not_lt, Int.not_le, beq_iff_eq, beq_eq_false_iff_ne, bne_iff_ne, ne_eq, Bool.not_not, Decidable.not_not] at h11
    have hil : i < xs.length := by omega
    refine J.condT rfl rfl ?_
    refine J.skip rfl ?_
    refine J.seq rfl ?_
    refine J.block rfl ?_
    refine J.seq rfl ?_
    refine J.region rfl ?_
    refine JO.pur rfl rfl rfl (Pur.move rfl) ?_
    refine JO.pur rfl rfl rfl (Pur.move rfl) ?_
    refine JO.pur rfl rfl rfl (Pur.idx rfl rfl rfl (by first | rfl | (simp; done) | omega) rfl hil) ?_
    refine JO.pur rfl rfl rfl (Pur.fieldAddr rfl) ?_
    refine JO.pur rfl rfl rfl (Pur.load rfl (CellIn.el rfl (dd_get hil) rfl)) ?_
    refine JO.nil ?_
    refine J.block rfl ?_
    refine J.seq rfl ?_
    refine J.region rfl ?_
    refine JO.pur rfl rfl rfl (Pur.eqlT rfl rfl) ?_
    refine JO.pur rfl rfl rfl (Pur.assign rfl) ?_
    refine JO.nil ?_
    refine J.splitB 19 rfl (fun h19 => ?_) (fun h19 => ?_)
    · try simp only [decide_eq_true_eq, decide_eq_false_iff_not, Bool.not_eq_true', Bool.not_eq_false', Bool.and_eq_true, Bool.or_eq_true, Bool.and_eq_false_iff, Bool.or_eq_false_iff, Option.isNone_some, Option.isSome_some, Option.isNone_none, Option.isSome_none, Int.not_lt, Int.not_le, beq_iff_eq, beq_eq_false_iff_ne, bne_iff_ne, ne_eq, Bool.not_not, Decidable.not_not] at h19
      refine J.condT rfl rfl ?_
      refine J.region rfl ?_
      refine JO.pur rfl rfl rfl (Pur.move rfl) ?_
      refine JO.pur rfl rfl rfl (Pur.add rfl rfl (wr64 (by omega))) ?_
      refine JO.pur rfl rfl rfl (Pur.assign rfl) ?_
      refine JO.nil ?_
      refine J.inBlock ?_
      refine J.inBlock ?_
      refine J.region rfl ?_
      refine JO.pur rfl rfl rfl (Pur.move rfl) ?_
      refine JO.pur rfl rfl rfl (Pur.add rfl rfl (wr64 (by omega))) ?_
      refine JO.pur rfl rfl rfl (Pur.assign rfl) ?_
      refine JO.nil ?_
      exact J.weaken (.cons rfl (congrArg (Value.int .i64) (by first | rfl | (dsimp only; omega))) (.cons rfl (congrArg (Value.int .i64) (by first | rfl | (dsimp only; omega))) (.cons rfl rfl (.cons rfl rfl .nil)))) (by first | exact fun _ h => h | exact SubC.out | (dsimp only; exact SubC.out)) (ih0 (i + 1, dp + 1) ⟨(by dsimp only; omega), (by dsimp only; omega), (by dsimp only; rw [← hsk, skip_succ hil, if_pos (show (dd xs i).act = sEither from h19)])⟩ (by dsimp only; omega))
    · try simp only [decide_eq_true_eq, decide_eq_false_iff_not, Bool.not_eq_true', Bool.not_eq_false', Bool.and_eq_true, Bool.or_eq_true, Bool.and_eq_false_iff, Bool.or_eq_false_iff, Option.isNone_some, Option.isSome_some, Option.isNone_none, Option.isSome_none, Int.not_lt, Int.not_le, beq_iff_eq, beq_eq_false_iff_ne, bne_iff_ne, ne_eq, Bool.not_not, Decidable.not_not] at h19
      refine J.condF rfl rfl ?_
      refine J.seq rfl ?_
      refine J.region rfl ?_
      refine JO.pur rfl rfl rfl (Pur.eqlT rfl rfl) ?_
      refine JO.pur rfl rfl rfl (Pur.assign rfl) ?_
      refine JO.nil ?_
      refine J.splitB 23 rfl (fun h23 => ?_) (fun h23 => ?_)
      · try simp only [decide_eq_true_eq, decide_eq_false_iff_not, Bool.not_eq_true', Bool.not_eq_false', Bool.and_eq_true, Bool.or_eq_true, Bool.and_eq_false_iff, Bool.or_eq_false_iff, Option.isNone_some, Option.isSome_some, Option.isNone_none, Option.isSome_none, Int.not_lt, Int.not_le, beq_iff_eq, beq_eq_false_iff_ne, bne_iff_ne, ne_eq, Bool.not_not, Decidable.not_not] at h23
        refine J.condT rfl rfl ?_
        refine J.seq rfl ?_
        refine J.region rfl ?_
        refine JO.pur rfl rfl rfl (Pur.move rfl) ?_
        refine JO.pur rfl rfl rfl (Pur.eqlI rfl rfl) ?_
        refine JO.pur rfl rfl rfl (Pur.move rfl) ?_
        refine JO.splitB 27 rfl (fun h27 => ?_) (fun h27 => ?_)
        · try simp only [decide_eq_true_eq, decide_eq_false_iff_not, Bool.not_eq_true', Bool.not_eq_false', Bool.and_eq_true, Bool.or_eq_true, Bool.and_eq_false_iff, Bool.or_eq_false_iff, Option.isNone_some, Option.isSome_some, Option.isNone_none, Option.isSome_none, Int.not_lt, Int.not_le, beq_iff_eq, beq_eq_false_iff_ne, bne_iff_ne, ne_eq, Bool.not_not, Decidable.not_not] at h27
          have hz : dp = 0 := by omega
          refine JO.pur rfl rfl rfl (Pur.move rfl) ?_
          refine JO.pur rfl rfl rfl (Pur.eqlT rfl rfl) ?_
          refine JO.pur rfl rfl rfl (Pur.pickT rfl rfl) ?_
          refine JO.nil ?_
          refine J.splitB 30 rfl (fun h30 => ?_) (fun h30 => ?_)
          · try simp only [decide_eq_true_eq, decide_eq_false_iff_not, Bool.not_eq_true', Bool.not_eq_false', Bool.and_eq_true, Bool.or_eq_true, Bool.and_eq_false_iff, Bool.or_eq_false_iff, Option.isNone_some, Option.isSome_some, Option.isNone_none, Option.isSome_none, Int.not_lt, Int.not_le, beq_iff_eq, beq_eq_false_iff_ne, bne_iff_ne, ne_eq, Bool.not_not, Decidable.not_not] at h30
            have hw : want = true := by cases want with | true => rfl | false => exact absurd h30 (by decide)
            refine J.condT rfl rfl ?_
            refine J.seq rfl ?_
            refine J.region rfl ?_
            refine JO.pur rfl rfl rfl (Pur.move rfl) ?_
            refine JO.pur rfl rfl rfl (Pur.add rfl rfl (wr64 (by omega))) ?_
            refine JO.pur rfl rfl rfl (Pur.assign rfl) ?_
            refine JO.nil ?_
            refine J.ret rfl rfl ?_
            exact ⟨congrArg (Value.int .i64) (by rw [← hsk, skip_succ hil, if_neg (show ¬ (dd xs i).act = sEither from h19), if_pos (show (dd xs i).act = sOr from h23), if_pos ⟨hz, hw⟩]; omega), rfl⟩
          · try simp only [decide_eq_true_eq, decide_eq_false_iff_not, Bool.not_eq_true', Bool.not_eq_false', Bool.and_eq_true, Bool.or_eq_true, Bool.and_eq_false_iff, Bool.or_eq_false_iff, Option.isNone_some, Option.isSome_some, Option.isNone_none, Option.isSome_none, Int.not_lt, Int.not_le, beq_iff_eq, beq_eq_false_iff_ne, bne_iff_ne, ne_eq, Bool.not_not, Decidable.not_not] at h30
            have hno : ¬ (dp = 0 ∧ want = true) := fun h => h30 (by rw [h.2]; rfl)
            refine J.condF rfl rfl ?_
            refine J.skip rfl ?_
            refine J.inBlock ?_
            refine J.inBlock ?_
            refine J.region rfl ?_
            refine JO.pur rfl rfl rfl (Pur.move rfl) ?_
            refine JO.pur rfl rfl rfl (Pur.add rfl rfl (wr64 (by omega))) ?_
            refine JO.pur rfl rfl rfl (Pur.assign rfl) ?_
            refine JO.nil ?_
            exact J.weaken (.cons rfl (congrArg (Value.int .i64) (by first | rfl | (dsimp only; omega))) (.cons rfl (congrArg (Value.int .i64) (by first | rfl | (dsimp only; omega))) (.cons rfl rfl (.cons rfl rfl .nil)))) (by first | exact fun _ h => h | exact SubC.out | (dsimp only; exact SubC.out)) (ih0 (i + 1, dp) ⟨(by dsimp only; omega), (by dsimp only; omega), (by dsimp only; rw [← hsk, skip_succ hil, if_neg (show ¬ (dd xs i).act = sEither from h19), if_pos (show (dd xs i).act = sOr from h23), if_neg hno])⟩ (by dsimp only; omega))
        · try simp only [decide_eq_true_eq, decide_eq_false_iff_not, Bool.not_eq_true', Bool.not_eq_false', Bool.and_eq_true, Bool.or_eq_true, Bool.and_eq_false_iff, Bool.or_eq_false_iff, Option.isNone_some, Option.isSome_some, Option.isNone_none, Option.isSome_none, Int.not_lt, Int.not_le, beq_iff_eq, beq_eq_false_iff_ne, bne_iff_ne, ne_eq, Bool.not_not, Decidable.not_not] at h27
          have hz : ¬ dp = 0 := by omega
          have hno : ¬ (dp = 0 ∧ want = true) := fun h => hz h.1
          refine JO.no rfl rfl rfl ?_
          refine JO.no rfl rfl rfl ?_
          refine JO.pur rfl rfl rfl (Pur.pickF rfl rfl) ?_
          refine JO.nil ?_
          refine J.condF rfl rfl ?_
          refine J.skip rfl ?_
          refine J.inBlock ?_
          refine J.inBlock ?_
          refine J.region rfl ?_
          refine JO.pur rfl rfl rfl (Pur.move rfl) ?_
          refine JO.pur rfl rfl rfl (Pur.add rfl rfl (wr64 (by omega))) ?_
          refine JO.pur rfl rfl rfl (Pur.assign rfl) ?_
          refine JO.nil ?_
          exact J.weaken (.cons rfl (congrArg (Value.int .i64) (by first | rfl | (dsimp only; omega))) (.cons rfl (congrArg (Value.int .i64) (by first | rfl | (dsimp only; omega))) (.cons rfl rfl (.cons rfl rfl .nil)))) (by first | exact fun _ h => h | exact SubC.out | (dsimp only; exact SubC.out)) (ih0 (i + 1, dp) ⟨(by dsimp only; omega), (by dsimp only; omega), (by dsimp only; rw [← hsk, skip_succ hil, if_neg (show ¬ (dd xs i).act = sEither from h19), if_pos (show (dd xs i).act = sOr from h23), if_neg hno])⟩ (by dsimp only; omega))
      · try simp only [decide_eq_true_eq, decide_eq_false_iff_not, Bool.not_eq_true', Bool.not_eq_false', Bool.and_eq_true, Bool.or_eq_true, Bool.and_eq_false_iff, Bool.or_eq_false_iff, Option.isNone_some, Option.isSome_some, Option.isNone_none, Option.isSome_none, Int.not_lt, Int.not_le, beq_iff_eq, beq_eq_false_iff_ne, bne_iff_ne, ne_eq, Bool.not_not, Decidable.not_not] at h23
        refine J.condF rfl rfl ?_
        refine J.seq rfl ?_
        refine J.region rfl ?_
        refine JO.pur rfl rfl rfl (Pur.eqlT rfl rfl) ?_
        refine JO.pur rfl rfl rfl (Pur.assign rfl) ?_
        refine JO.nil ?_
        refine J.splitB 33 rfl (fun h33 => ?_) (fun h33 => ?_)
        · try simp only [decide_eq_true_eq, decide_eq_false_iff_not, Bool.not_eq_true', Bool.not_eq_false', Bool.and_eq_true, Bool.or_eq_true, Bool.and_eq_false_iff, Bool.or_eq_false_iff, Option.isNone_some, Option.isSome_some, Option.isNone_none, Option.isSome_none, Int.not_lt, Int.not_le, beq_iff_eq, beq_eq_false_iff_ne, bne_iff_ne, ne_eq, Bool.not_not, Decidable.not_not] at h33
          refine J.condT rfl rfl ?_
          refine J.seq rfl ?_
          refine J.seq rfl ?_
          refine J.region rfl ?_
          refine JO.pur rfl rfl rfl (Pur.move rfl) ?_
          refine JO.pur rfl rfl rfl (Pur.eqlI rfl rfl) ?_
          refine JO.nil ?_
          refine J.splitB 36 rfl (fun h36 => ?_) (fun h36 => ?_)
          · try simp only [decide_eq_true_eq, decide_eq_false_iff_not, Bool.not_eq_true', Bool.not_eq_false', Bool.and_eq_true, Bool.or_eq_true, Bool.and_eq_false_iff, Bool.or_eq_false_iff, Option.isNone_some, Option.isSome_some, Option.isNone_none, Option.isSome_none, Int.not_lt, Int.not_le, beq_iff_eq, beq_eq_false_iff_ne, bne_iff_ne, ne_eq, Bool.not_not, Decidable.not_not] at h36
            have hz : dp = 0 := by omega
            refine J.condT rfl rfl ?_
            refine J.seq rfl ?_
            refine J.region rfl ?_
            refine JO.pur rfl rfl rfl (Pur.move rfl) ?_
            refine JO.pur rfl rfl rfl (Pur.add rfl rfl (wr64 (by omega))) ?_
            refine JO.pur rfl rfl rfl (Pur.assign rfl) ?_
            refine JO.nil ?_
            refine J.ret rfl rfl ?_
            exact ⟨congrArg (Value.int .i64) (by rw [← hsk, skip_succ hil, if_neg (show ¬ (dd xs i).act = sEither from h19), if_neg (show ¬ (dd xs i).act = sOr from h23), if_pos (show (dd xs i).act = sEnd from h33), if_pos hz]; omega), rfl⟩
          · try simp only [decide_eq_true_eq, decide_eq_false_iff_not, Bool.not_eq_true', Bool.not_eq_false', Bool.and_eq_true, Bool.or_eq_true, Bool.and_eq_false_iff, Bool.or_eq_false_iff, Option.isNone_some, Option.isSome_some, Option.isNone_none, Option.isSome_none, Int.not_lt, Int.not_le, beq_iff_eq, beq_eq_false_iff_ne, bne_iff_ne, ne_eq, Bool.not_not, Decidable.not_not] at h36
            have hz : ¬ dp = 0 := by omega
            refine J.condF rfl rfl ?_
            refine J.skip rfl ?_
            refine J.region rfl ?_
            refine JO.pur rfl rfl rfl (Pur.move rfl) ?_
            refine JO.pur rfl rfl rfl (Pur.sub rfl rfl (wr64 (by omega))) ?_
            refine JO.pur rfl rfl rfl (Pur.assign rfl) ?_
            refine JO.nil ?_
            refine J.inBlock ?_
            refine J.inBlock ?_
            refine J.region rfl ?_
            refine JO.pur rfl rfl rfl (Pur.move rfl) ?_
            refine JO.pur rfl rfl rfl (Pur.add rfl rfl (wr64 (by omega))) ?_
            refine JO.pur rfl rfl rfl (Pur.assign rfl) ?_
            refine JO.nil ?_
            exact J.weaken (.cons rfl (congrArg (Value.int .i64) (by first | rfl | (dsimp only; omega))) (.cons rfl (congrArg (Value.int .i64) (by first | rfl | (dsimp only; omega))) (.cons rfl rfl (.cons rfl rfl .nil)))) (by first | exact fun _ h => h | exact SubC.out | (dsimp only; exact SubC.out)) (ih0 (i + 1, dp - 1) ⟨(by dsimp only; omega), (by dsimp only; omega), (by dsimp only; rw [← hsk, skip_succ hil, if_neg (show ¬ (dd xs i).act = sEither from h19), if_neg (show ¬ (dd xs i).act = sOr from h23), if_pos (show (dd xs i).act = sEnd from h33), if_neg hz])⟩ (by dsimp only; omega))
        · try simp only [decide_eq_true_eq, decide_eq_false_iff_not, Bool.not_eq_true', Bool.not_eq_false', Bool.and_eq_true, Bool.or_eq_true, Bool.and_eq_false_iff, Bool.or_eq_false_iff, Option.isNone_some, Option.isSome_some, Option.isNone_none, Option.isSome_none, Int.not_lt, Int.not_le, beq_iff_eq, beq_eq_false_iff_ne, bne_iff_ne, ne_eq, Bool.not_not, Decidable.not_not] at h33
          refine J.condF rfl rfl ?_
          refine J.skip rfl ?_
          refine J.inBlock ?_
          refine J.inBlock ?_
          refine J.region rfl ?_
          refine JO.pur rfl rfl rfl (Pur.move rfl) ?_
          refine JO.pur rfl rfl rfl (Pur.add rfl rfl (wr64 (by omega))) ?_
          refine JO.pur rfl rfl rfl (Pur.assign rfl) ?_
          refine JO.nil ?_
          exact J.weaken (.cons rfl (congrArg (Value.int .i64) (by first | rfl | (dsimp only; omega))) (.cons rfl (congrArg (Value.int .i64) (by first | rfl | (dsimp only; omega))) (.cons rfl rfl (.cons rfl rfl .nil)))) (by first | exact fun _ h => h | exact SubC.out | (dsimp only; exact SubC.out)) (ih0 (i + 1, dp) ⟨(by dsimp only; omega), (by dsimp only; omega), (by dsimp only; rw [← hsk, skip_succ hil, if_neg (show ¬ (dd xs i).act = sEither from h19), if_neg (show ¬ (dd xs i).act = sOr from h23), if_neg (show ¬ (dd xs i).act = sEnd from h33)])⟩ (by dsimp only; omega))
  · try simp only [decide_eq_true_eq, decide_eq_false_iff_not, Bool.not_eq_true', Bool.not_eq_false', Bool.and_eq_true, Bool.or_eq_true, Bool.and_eq_false_iff, Bool.or_eq_false_iff, Option.isNone_some, Option.isSome_some, Option.isNone_none, Option.isSome_none, Int.not_lt, Int.not_le, beq_iff_eq, beq_eq_false_iff_ne, bne_iff_ne, ne_eq, Bool.not_not, Decidable.not_not] at h11
    refine J.condF rfl rfl ?_
    refine J.exit rfl rfl ?_
    refine J.seq rfl ?_
    refine J.region rfl ?_
    refine JO.pur rfl rfl rfl (Pur.move rfl) ?_
    refine JO.pur rfl rfl rfl (Pur.assign rfl) ?_
    refine JO.nil ?_
    refine J.ret rfl rfl ?_
    obtain rfl : i = xs.length := by omega
    exact ⟨congrArg (Value.int .i64) (by rw [← hsk, Nat.sub_self]; rfl), rfl⟩

end Go.Proofs.Ythdaopmfgmojnaa

/- The text OCome. -/
/-!
  The document's way: from one deed that is done to the next.
-/
set_option linter.unusedVariables false
set_option linter.unusedSimpArgs false
namespace Go.Proofs.Ythdaopmfgmojnaa
open Go Go.KK Ow
theorem act_iff {W : Ow.Way} : W.active = true ↔ W.skipped = 0 ∧ ∀ b ∈ W.inside, b = true := by
  unfold Way.active
  simp only [Bool.and_eq_true, decide_eq_true_eq, List.all_eq_true, id]
theorem valid_nil {l : List Deed} (h : validB l = true) : vfold l l.length = some [] := by unfold validB at h; simp at h; exact h.1.1
section
variable {l : List Deed} {c : List Bool} {i : Nat}
theorem come_ei1 (hi : i < l.length) (ha : (wfold l c i).active = true) (he : (dd l i).act = sEither) (hf : c.getD (wfold l c i).met.length true = true) :
    (wfold l c (i + 1)).active = true ∧ (wfold l c (i + 1)).steps = (wfold l c i).steps ∧ (wfold l c (i + 1)).met = (wfold l c i).met ++ [i] := by
  rw [wfold_succ hi, w_ei1 he ha, hf]
  obtain ⟨h1, h2⟩ := act_iff.1 ha
  refine ⟨act_iff.2 ⟨h1, fun b hb => ?_⟩, rfl, rfl⟩
  rcases List.mem_cons.1 hb with h | h
  · exact h
  · exact h2 b h
theorem come_ei0 (hv : validB l = true) (hi : i < l.length) (ha : (wfold l c i).active = true) (he : (dd l i).act = sEither) (hf : c.getD (wfold l c i).met.length true = false) :
    skipV l (i + 1) true ≤ l.length ∧ i + 1 < skipV l (i + 1) true ∧ (wfold l c (skipV l (i + 1) true)).active = true ∧ (wfold l c (skipV l (i + 1) true)).steps = (wfold l c i).steps ∧ (wfold l c (skipV l (i + 1) true)).met = (wfold l c i).met ++ [i] := by
  obtain ⟨h1, h2⟩ := act_iff.1 ha
  obtain ⟨o, ho⟩ := vfold_pre (m := i + 1) (by omega) (Nat.le_refl _) (valid_nil hv)
  obtain ⟨o0, h3, h4⟩ := vfold_some hi ho
  have hw : wfold l c (i + 1) = ⟨false :: (wfold l c i).inside, 0, (wfold l c i).steps, (wfold l c i).met ++ [i]⟩ := by
    rw [wfold_succ hi, w_ei1 he ha, hf, h1]
  have hoo : o[0]? = some (!true) := by
    unfold vstep at h4
    split at h4
    · cases h4
    · cases h4; rfl
  obtain ⟨q, q1, q2, q3, q4, q5⟩ := skip_way (c := c) (want := true) (l.length - (i + 1)) (i + 1) 0 o _ _ _ (by omega) ho ⟨_, valid_nil hv, rfl⟩ hw h2 hoo
  rw [if_pos rfl] at q5
  have e : skipV l (i + 1) true = q := q1
  rw [e, q5]
  refine ⟨q2, q3, act_iff.2 ⟨rfl, fun b hb => ?_⟩, rfl, rfl⟩
  rcases List.mem_cons.1 hb with h | h
  · exact h
  · exact h2 b h
theorem come_or (hv : validB l = true) (hi : i < l.length) (ha : (wfold l c i).active = true) (he : (dd l i).act = sOr) :
    skipV l (i + 1) false ≤ l.length ∧ i + 1 < skipV l (i + 1) false ∧ (wfold l c (skipV l (i + 1) false)).active = true ∧ (wfold l c (skipV l (i + 1) false)).steps = (wfold l c i).steps ∧ (wfold l c (skipV l (i + 1) false)).met = (wfold l c i).met := by
  obtain ⟨h1, h2⟩ := act_iff.1 ha
  have hne : ¬ (dd l i).act = sEither := by rw [he]; exact act_ne.1
  obtain ⟨b, r, hbr⟩ := open_ex hi (valid_open hv) (.inl he) h1
  obtain ⟨o, ho⟩ := vfold_pre (m := i + 1) (by omega) (Nat.le_refl _) (valid_nil hv)
  obtain ⟨o0, h3, h4⟩ := vfold_some hi ho
  have hb : b = true := h2 b (by rw [hbr]; simp)
  subst hb
  have hw : wfold l c (i + 1) = ⟨false :: r, 0, (wfold l c i).steps, (wfold l c i).met⟩ := by
    rw [wfold_succ hi, w_or1 he hne h1 hbr, h1]; rfl
  have hoo : o[0]? = some (!false) := by
    unfold vstep at h4
    split at h4
    · cases h4
    · split at h4
      · cases h4; rfl
      · cases h4
  have hr : ∀ b ∈ r, b = true := fun b hb => h2 b (by rw [hbr]; simp [hb])
  obtain ⟨q, q1, q2, q3, q4, q5⟩ := skip_way (c := c) (want := false) (l.length - (i + 1)) (i + 1) 0 o _ _ _ (by omega) ho ⟨_, valid_nil hv, rfl⟩ hw hr hoo
  rw [if_neg (by simp)] at q5
  have e : skipV l (i + 1) false = q := q1
  rw [e, q5]
  exact ⟨q2, q3, act_iff.2 ⟨rfl, hr⟩, rfl, rfl⟩
theorem come_end (hv : validB l = true) (hi : i < l.length) (ha : (wfold l c i).active = true) (he : (dd l i).act = sEnd) :
    (wfold l c (i + 1)).active = true ∧ (wfold l c (i + 1)).steps = (wfold l c i).steps ∧ (wfold l c (i + 1)).met = (wfold l c i).met := by
  obtain ⟨h1, h2⟩ := act_iff.1 ha
  have hne : ¬ (dd l i).act = sEither := by rw [he]; exact act_ne.2.1
  have hno : ¬ (dd l i).act = sOr := by rw [he]; exact act_ne.2.2
  obtain ⟨b, r, hbr⟩ := open_ex hi (valid_open hv) (.inr he) h1
  rw [wfold_succ hi, w_en1 he hne hno h1 hbr]
  exact ⟨act_iff.2 ⟨h1, fun b hb => h2 b (by rw [hbr]; simp [hb])⟩, rfl, rfl⟩
theorem come_do (hi : i < l.length) (ha : (wfold l c i).active = true) (h1 : ¬ (dd l i).act = sEither) (h2 : ¬ (dd l i).act = sOr) (h3 : ¬ (dd l i).act = sEnd) :
    (wfold l c (i + 1)).active = true ∧ (wfold l c (i + 1)).steps = (wfold l c i).steps ++ [i] ∧ (wfold l c (i + 1)).met = (wfold l c i).met := by
  rw [wfold_succ hi, w_do1 h3 h1 h2 ha]
  exact ⟨act_iff.2 (act_iff.1 ha), rfl, rfl⟩
end
end Go.Proofs.Ythdaopmfgmojnaa

/- The text OComeW. -/
set_option linter.unusedVariables false
set_option linter.unusedSimpArgs false
namespace Go.Proofs.Ythdaopmfgmojnaa
open Go Go.KK Ow

set_option maxRecDepth 10000 in
theorem come_ok {L : List Asn} {a b : Option Addr} {n cp m cq : Nat} {xs : List Deed} {cs : List Bool} [SlIn deedE L a xs] [SlIn boolE L b cs] (hn : n = xs.length) (hm : m = cs.length) (hvb : validB xs = true) :
    CallS Try.prog 48 [.slice a n cp, .slice b m cq].toArray L (fun v M => ∃ a4 c4 a5 c5 md, md.length = (wayV xs cs).met.length ∧ v = .tuple #[.slice a4 (wayV xs cs).steps.length c4, .slice a5 (wayV xs cs).met.length c5] ∧ M = sl intE a4 c4 (fz (wayV xs cs).steps) :: sl boolE a5 c5 md :: L) := by
  subst hn
  subst hm
  have hb := valid_len hvb
  refine CallS.ent ?_
  refine CallS.enter Try.func48 rfl rfl rfl rfl rfl ?_
  refine J.seq rfl ?_
  refine J.region rfl ?_
  refine JO.pur rfl rfl rfl (Pur.assign rfl) ?_
  refine JO.pur rfl rfl rfl (Pur.assign rfl) ?_
  refine JO.nil ?_
  refine J.seq rfl ?_
  refine J.region rfl ?_
  refine JO.pur rfl rfl rfl (Pur.assign rfl) ?_
  refine JO.nil ?_
  refine J.seq rfl ?_
  refine J.region rfl ?_
  refine JO.pur rfl rfl rfl (Pur.assign rfl) ?_
  refine JO.nil ?_
  refine J.seq rfl ?_
  refine J.seq rfl ?_
  refine J.region rfl ?_
  refine JO.pur rfl rfl rfl (Pur.assign rfl) ?_
  refine JO.nil ?_
  refine J.block rfl ?_
  refine J.loopF (ι := Nat × Option Addr × Nat × Option Addr × Nat × List Bool) (fun q => q.1 ≤ xs.length ∧ (wfold xs cs q.1).active = true ∧ q.2.2.2.2.2.length = (wfold xs cs q.1).met.length) (fun q => [(6, .slice q.2.1 (wfold xs cs q.1).steps.length q.2.2.1), (7, .slice q.2.2.2.1 q.2.2.2.2.2.length q.2.2.2.2.1), (8, .int .i64 (q.1 : Int))]) [(0, _), (1, _)] (fun q => sl intE q.2.1 q.2.2.1 (fz (wfold xs cs q.1).steps) :: sl boolE q.2.2.2.1 q.2.2.2.2.1 q.2.2.2.2.2 :: L) (fun q => xs.length - q.1) (0, none, 0, none, 0, []) rfl (.cons rfl rfl (.cons rfl rfl .nil)) (.cons rfl rfl (.cons rfl rfl (.cons rfl rfl .nil))) (fun h s => by dsimp only; exact sl_nil_new (E := intE) (sl_nil_new (E := boolE) s)) ⟨Nat.zero_le _, rfl, rfl⟩ ?_
  rintro ⟨i, a6, c6, a7, c7, md⟩ ⟨hi, hac, hml⟩ ih0
  try dsimp only
  dsimp only at hi hac hml
  have hfzl := fz_len (wfold xs cs i).steps
  obtain ⟨hw1, hw2, -, -⟩ := wlen (l := xs) (c := cs) hi
  refine J.seq rfl ?_
  refine J.seq rfl ?_
  refine J.region rfl ?_
  refine JO.pur rfl rfl rfl (Pur.move rfl) ?_
  refine JO.pur rfl rfl rfl (Pur.move rfl) ?_
  refine JO.pur rfl rfl rfl (Pur.len rfl) ?_
  refine JO.pur rfl rfl rfl (Pur.lss rfl rfl) ?_
  refine JO.nil ?_
  refine J.splitB 13 rfl (fun h13 => ?_) (fun h13 => ?_)
  · try simp only [decide_eq_true_eq, decide_eq_false_iff_not, Bool.not_eq_true', Bool.not_eq_false', Bool.and_eq_true, Bool.or_eq_true, Bool.and_eq_false_iff, Bool.or_eq_false_iff, Option.isNone_some, Option.isSome_some, Option.isNone_none, Option.isSome_none, Int.not_lt, Int.not_le, beq_iff_eq, beq_eq_false_iff_ne, bne_iff_ne, ne_eq, Bool.not_not, Decidable.not_not] at h13
    have hil : i < xs.length := by omega
    refine J.condT rfl rfl ?_
    refine J.skip rfl ?_
    refine J.block rfl ?_
    refine J.seq rfl ?_
    refine J.region rfl ?_
    refine JO.pur rfl rfl rfl (Pur.move rfl) ?_
    refine JO.pur rfl rfl rfl (Pur.move rfl) ?_
    refine JO.pur rfl rfl rfl (Pur.idx rfl rfl rfl (by first | rfl | (simp; done) | omega) rfl hil) ?_
    refine JO.pur rfl rfl rfl (Pur.fieldAddr rfl) ?_
    refine JO.pur rfl rfl rfl (Pur.load rfl (CellIn.el rfl (dd_get hil) rfl)) ?_
    refine JO.nil ?_
    refine J.block rfl ?_
    refine J.seq rfl ?_
    refine J.region rfl ?_
    refine JO.pur rfl rfl rfl (Pur.eqlT rfl rfl) ?_
    refine JO.pur rfl rfl rfl (Pur.assign rfl) ?_
    refine JO.nil ?_
    refine J.splitB 25 rfl (fun h25 => ?_) (fun h25 => ?_)
    · try simp only [decide_eq_true_eq, decide_eq_false_iff_not, Bool.not_eq_true', Bool.not_eq_false', Bool.and_eq_true, Bool.or_eq_true, Bool.and_eq_false_iff, Bool.or_eq_false_iff, Option.isNone_some, Option.isSome_some, Option.isNone_none, Option.isSome_none, Int.not_lt, Int.not_le, beq_iff_eq, beq_eq_false_iff_ne, bne_iff_ne, ne_eq, Bool.not_not, Decidable.not_not] at h25
      refine J.condT rfl rfl ?_
      refine J.seq rfl ?_
      refine J.region rfl ?_
      refine JO.pur rfl rfl rfl (Pur.move rfl) ?_
      refine JO.pur rfl rfl rfl (Pur.len rfl) ?_
      refine JO.pur rfl rfl rfl (Pur.move rfl) ?_
      refine JO.pur rfl rfl rfl (Pur.len rfl) ?_
      refine JO.pur rfl rfl rfl (Pur.geq rfl rfl) ?_
      refine JO.pur rfl rfl rfl (Pur.move rfl) ?_
      refine JO.splitB 32 rfl (fun h32 => ?_) (fun h32 => ?_)
      · try simp only [decide_eq_true_eq, decide_eq_false_iff_not, Bool.not_eq_true', Bool.not_eq_false', Bool.and_eq_true, Bool.or_eq_true, Bool.and_eq_false_iff, Bool.or_eq_false_iff, Option.isNone_some, Option.isSome_some, Option.isNone_none, Option.isSome_none, Int.not_lt, Int.not_le, beq_iff_eq, beq_eq_false_iff_ne, bne_iff_ne, ne_eq, Bool.not_not, Decidable.not_not] at h32
        have hg1 : cs.getD (wfold xs cs i).met.length true = true := by rw [← hml, List.getD_eq_getElem?_getD, List.getElem?_eq_none (by omega)]; rfl
        have hst := come_ei1 hil hac (show (dd xs i).act = sEither from h25) hg1
        refine JO.no rfl rfl rfl ?_
        refine JO.no rfl rfl rfl ?_
        refine JO.no rfl rfl rfl ?_
        refine JO.no rfl rfl rfl ?_
        refine JO.no rfl rfl rfl ?_
        refine JO.pur rfl rfl rfl (Pur.pickT rfl rfl) ?_
        refine JO.pur rfl rfl rfl (Pur.assign rfl) ?_
        refine JO.nil ?_
        refine J.seq rfl ?_
        refine J.region rfl ?_
        refine JO.pur rfl rfl rfl (Pur.move rfl) ?_
        refine JO.pur rfl rfl rfl (Pur.move rfl) ?_
        refine JO.eff rfl rfl rfl (Eff.buildSlice boolE [_] rfl rfl rfl rfl rfl rfl rfl) ?_
        rintro _ _ ⟨b41, rfl, -, rfl⟩
        refine JO.eff rfl rfl rfl (Eff.append rfl rfl rfl rfl (by first | rfl | omega | (simp; done) | (simp; omega)) (by first | rfl | omega | (simp; done) | (simp; omega)) (by decide) (by first | omega | (simp only [List.length_cons, List.length_nil]; omega) | (simp; omega)) (by first | omega | (simp only [List.length_cons, List.length_nil]; omega) | (simp; omega)) (fun h => by cases h)) ?_
        rintro _ _ ⟨a42, c42, rfl, rfl⟩
        refine JO.pur rfl rfl rfl (Pur.assign rfl) ?_
        refine JO.nil ?_
        refine J.seq rfl ?_
        refine J.region rfl ?_
        refine JO.pur rfl rfl rfl (Pur.move rfl) ?_
        refine JO.pur rfl rfl rfl (Pur.add rfl rfl (wr64 (by omega))) ?_
        refine JO.pur rfl rfl rfl (Pur.assign rfl) ?_
        refine JO.nil ?_
        refine J.seq rfl ?_
        refine J.region rfl ?_
        refine JO.pur rfl rfl rfl (Pur.move rfl) ?_
        refine JO.pur rfl rfl rfl (Pur.not rfl) ?_
        refine JO.nil ?_
        refine J.condF rfl rfl ?_
        refine J.skip rfl ?_
        refine J.inBlock ?_
        refine J.inBlock ?_
        exact J.weaken (.cons rfl (by dsimp only; rw [hst.2.1]) (.cons rfl (by dsimp only; rw [List.length_append]) (.cons rfl (congrArg (Value.int .i64) (by first | rfl | (dsimp only; omega))) (.cons rfl rfl (.cons rfl rfl .nil))))) (fun h s => by dsimp only; rw [hst.2.1]; exact SubC.out h s) (ih0 (i + 1, a6, c6, a42, c42, md ++ [true]) ⟨(by dsimp only; omega), hst.1, (by dsimp only; rw [hst.2.2]; simp [hml])⟩ (by dsimp only; omega))
      · try simp only [decide_eq_true_eq, decide_eq_false_iff_not, Bool.not_eq_true', Bool.not_eq_false', Bool.and_eq_true, Bool.or_eq_true, Bool.and_eq_false_iff, Bool.or_eq_false_iff, Option.isNone_some, Option.isSome_some, Option.isNone_none, Option.isSome_none, Int.not_lt, Int.not_le, beq_iff_eq, beq_eq_false_iff_ne, bne_iff_ne, ne_eq, Bool.not_not, Decidable.not_not] at h32
        refine JO.pur rfl rfl rfl (Pur.move rfl) ?_
        refine JO.pur rfl rfl rfl (Pur.move rfl) ?_
        refine JO.pur rfl rfl rfl (Pur.len rfl) ?_
        refine JO.pur rfl rfl rfl (Pur.idx rfl rfl rfl (by first | rfl | (simp; done) | omega) rfl (by omega)) ?_
        refine JO.pur rfl rfl rfl (Pur.load rfl (CellIn.el0 rfl (getD_get (d := true) (by omega)) rfl)) ?_
        refine JO.pur rfl rfl rfl (Pur.pickF rfl rfl) ?_
        refine JO.pur rfl rfl rfl (Pur.assign rfl) ?_
        refine JO.nil ?_
        refine J.seq rfl ?_
        refine J.region rfl ?_
        refine JO.pur rfl rfl rfl (Pur.move rfl) ?_
        refine JO.pur rfl rfl rfl (Pur.move rfl) ?_
        refine JO.eff rfl rfl rfl (Eff.buildSlice boolE [_] rfl rfl rfl rfl rfl rfl rfl) ?_
        rintro _ _ ⟨b41, rfl, -, rfl⟩
        refine JO.eff rfl rfl rfl (Eff.append rfl rfl rfl rfl (by first | rfl | omega | (simp; done) | (simp; omega)) (by first | rfl | omega | (simp; done) | (simp; omega)) (by decide) (by first | omega | (simp only [List.length_cons, List.length_nil]; omega) | (simp; omega)) (by first | omega | (simp only [List.length_cons, List.length_nil]; omega) | (simp; omega)) (fun h => by cases h)) ?_
        rintro _ _ ⟨a42, c42, rfl, rfl⟩
        refine JO.pur rfl rfl rfl (Pur.assign rfl) ?_
        refine JO.nil ?_
        refine J.seq rfl ?_
        refine J.region rfl ?_
        refine JO.pur rfl rfl rfl (Pur.move rfl) ?_
        refine JO.pur rfl rfl rfl (Pur.add rfl rfl (wr64 (by omega))) ?_
        refine JO.pur rfl rfl rfl (Pur.assign rfl) ?_
        refine JO.nil ?_
        refine J.seq rfl ?_
        refine J.region rfl ?_
        refine JO.pur rfl rfl rfl (Pur.move rfl) ?_
        refine JO.pur rfl rfl rfl (Pur.not rfl) ?_
        refine JO.nil ?_
        refine J.splitB 46 rfl (fun h46 => ?_) (fun h46 => ?_)
        · try simp only [decide_eq_true_eq, decide_eq_false_iff_not, Bool.not_eq_true', Bool.not_eq_false', Bool.and_eq_true, Bool.or_eq_true, Bool.and_eq_false_iff, Bool.or_eq_false_iff, Option.isNone_some, Option.isSome_some, Option.isNone_none, Option.isSome_none, Int.not_lt, Int.not_le, beq_iff_eq, beq_eq_false_iff_ne, bne_iff_ne, ne_eq, Bool.not_not, Decidable.not_not] at h46
          have hg0 : cs.getD (wfold xs cs i).met.length true = false := by rw [← hml]; simpa using h46
          obtain ⟨hq1, hq2, hst⟩ := come_ei0 hvb hil hac (show (dd xs i).act = sEither from h25) hg0
          refine J.condT rfl rfl ?_
          refine J.region rfl ?_
          refine JO.pur rfl rfl rfl (Pur.move rfl) ?_
          refine JO.pur rfl rfl rfl (Pur.move rfl) ?_
          refine JO.effR rfl rfl rfl (Eff.call rfl (CallS.args (skip_ok (xs := xs) (at' := i + 1) (want := true) rfl (by omega) (by omega)) (by rfl))) ?_
          refine JO.pur rfl rfl rfl (Pur.assign rfl) ?_
          refine JO.nil ?_
          refine J.inBlock ?_
          refine J.inBlock ?_
          exact J.weaken (.cons rfl (by dsimp only; rw [hst.2.1]) (.cons rfl (by dsimp only; rw [List.length_append]) (.cons rfl (congrArg (Value.int .i64) (by first | rfl | (dsimp only; omega))) (.cons rfl rfl (.cons rfl rfl .nil))))) (fun h s => by dsimp only; rw [hst.2.1]; exact SubC.out h s) (ih0 (skipV xs (i + 1) true, a6, c6, a42, c42, md ++ [(cs.getD md.length true)]) ⟨(by dsimp only; omega), hst.1, (by dsimp only; rw [hst.2.2]; simp [hml])⟩ (by dsimp only; omega))
        · try simp only [decide_eq_true_eq, decide_eq_false_iff_not, Bool.not_eq_true', Bool.not_eq_false', Bool.and_eq_true, Bool.or_eq_true, Bool.and_eq_false_iff, Bool.or_eq_false_iff, Option.isNone_some, Option.isSome_some, Option.isNone_none, Option.isSome_none, Int.not_lt, Int.not_le, beq_iff_eq, beq_eq_false_iff_ne, bne_iff_ne, ne_eq, Bool.not_not, Decidable.not_not] at h46
          have hg1 : cs.getD (wfold xs cs i).met.length true = true := by rw [← hml]; simpa using h46
          have hst := come_ei1 hil hac (show (dd xs i).act = sEither from h25) hg1
          refine J.condF rfl rfl ?_
          refine J.skip rfl ?_
          refine J.inBlock ?_
          refine J.inBlock ?_
          exact J.weaken (.cons rfl (by dsimp only; rw [hst.2.1]) (.cons rfl (by dsimp only; rw [List.length_append]) (.cons rfl (congrArg (Value.int .i64) (by first | rfl | (dsimp only; omega))) (.cons rfl rfl (.cons rfl rfl .nil))))) (fun h s => by dsimp only; rw [hst.2.1]; exact SubC.out h s) (ih0 (i + 1, a6, c6, a42, c42, md ++ [(cs.getD md.length true)]) ⟨(by dsimp only; omega), hst.1, (by dsimp only; rw [hst.2.2]; simp [hml])⟩ (by dsimp only; omega))
    · try simp only [decide_eq_true_eq, decide_eq_false_iff_not, Bool.not_eq_true', Bool.not_eq_false', Bool.and_eq_true, Bool.or_eq_true, Bool.and_eq_false_iff, Bool.or_eq_false_iff, Option.isNone_some, Option.isSome_some, Option.isNone_none, Option.isSome_none, Int.not_lt, Int.not_le, beq_iff_eq, beq_eq_false_iff_ne, bne_iff_ne, ne_eq, Bool.not_not, Decidable.not_not] at h25
      refine J.condF rfl rfl ?_
      refine J.seq rfl ?_
      refine J.region rfl ?_
      refine JO.pur rfl rfl rfl (Pur.eqlT rfl rfl) ?_
      refine JO.pur rfl rfl rfl (Pur.assign rfl) ?_
      refine JO.nil ?_
      refine J.splitB 50 rfl (fun h50 => ?_) (fun h50 => ?_)
      · try simp only [decide_eq_true_eq, decide_eq_false_iff_not, Bool.not_eq_true', Bool.not_eq_false', Bool.and_eq_true, Bool.or_eq_true, Bool.and_eq_false_iff, Bool.or_eq_false_iff, Option.isNone_some, Option.isSome_some, Option.isNone_none, Option.isSome_none, Int.not_lt, Int.not_le, beq_iff_eq, beq_eq_false_iff_ne, bne_iff_ne, ne_eq, Bool.not_not, Decidable.not_not] at h50
        obtain ⟨hq1, hq2, hst⟩ := come_or (c := cs) hvb hil hac (show (dd xs i).act = sOr from h50)
        refine J.condT rfl rfl ?_
        refine J.region rfl ?_
        refine JO.pur rfl rfl rfl (Pur.move rfl) ?_
        refine JO.pur rfl rfl rfl (Pur.move rfl) ?_
        refine JO.pur rfl rfl rfl (Pur.add rfl rfl (wr64 (by omega))) ?_
        refine JO.effR rfl rfl rfl (Eff.call rfl (CallS.args (skip_ok (xs := xs) (at' := i + 1) (want := false) rfl (by omega) (by omega)) (by rfl))) ?_
        refine JO.pur rfl rfl rfl (Pur.assign rfl) ?_
        refine JO.nil ?_
        refine J.inBlock ?_
        refine J.inBlock ?_
        exact J.weaken (.cons rfl (by dsimp only; rw [hst.2.1]) (.cons rfl rfl (.cons rfl (congrArg (Value.int .i64) (by first | rfl | (dsimp only; omega))) (.cons rfl rfl (.cons rfl rfl .nil))))) (fun h s => by dsimp only; rw [hst.2.1]; exact SubC.out h s) (ih0 (skipV xs (i + 1) false, a6, c6, a7, c7, md) ⟨(by dsimp only; omega), hst.1, (by dsimp only; rw [hst.2.2]; simp [hml])⟩ (by dsimp only; omega))
      · try simp only [decide_eq_true_eq, decide_eq_false_iff_not, Bool.not_eq_true', Bool.not_eq_false', Bool.and_eq_true, Bool.or_eq_true, Bool.and_eq_false_iff, Bool.or_eq_false_iff, Option.isNone_some, Option.isSome_some, Option.isNone_none, Option.isSome_none, Int.not_lt, Int.not_le, beq_iff_eq, beq_eq_false_iff_ne, bne_iff_ne, ne_eq, Bool.not_not, Decidable.not_not] at h50
        refine J.condF rfl rfl ?_
        refine J.seq rfl ?_
        refine J.region rfl ?_
        refine JO.pur rfl rfl rfl (Pur.eqlT rfl rfl) ?_
        refine JO.pur rfl rfl rfl (Pur.assign rfl) ?_
        refine JO.nil ?_
        refine J.splitB 56 rfl (fun h56 => ?_) (fun h56 => ?_)
        · try simp only [decide_eq_true_eq, decide_eq_false_iff_not, Bool.not_eq_true', Bool.not_eq_false', Bool.and_eq_true, Bool.or_eq_true, Bool.and_eq_false_iff, Bool.or_eq_false_iff, Option.isNone_some, Option.isSome_some, Option.isNone_none, Option.isSome_none, Int.not_lt, Int.not_le, beq_iff_eq, beq_eq_false_iff_ne, bne_iff_ne, ne_eq, Bool.not_not, Decidable.not_not] at h56
          have hst := come_end (c := cs) hvb hil hac (show (dd xs i).act = sEnd from h56)
          refine J.condT rfl rfl ?_
          refine J.region rfl ?_
          refine JO.pur rfl rfl rfl (Pur.move rfl) ?_
          refine JO.pur rfl rfl rfl (Pur.add rfl rfl (wr64 (by omega))) ?_
          refine JO.pur rfl rfl rfl (Pur.assign rfl) ?_
          refine JO.nil ?_
          refine J.inBlock ?_
          refine J.inBlock ?_
          exact J.weaken (.cons rfl (by dsimp only; rw [hst.2.1]) (.cons rfl rfl (.cons rfl (congrArg (Value.int .i64) (by first | rfl | (dsimp only; omega))) (.cons rfl rfl (.cons rfl rfl .nil))))) (fun h s => by dsimp only; rw [hst.2.1]; exact SubC.out h s) (ih0 (i + 1, a6, c6, a7, c7, md) ⟨(by dsimp only; omega), hst.1, (by dsimp only; rw [hst.2.2]; simp [hml])⟩ (by dsimp only; omega))
        · try simp only [decide_eq_true_eq, decide_eq_false_iff_not, Bool.not_eq_true', Bool.not_eq_false', Bool.and_eq_true, Bool.or_eq_true, Bool.and_eq_false_iff, Bool.or_eq_false_iff, Option.isNone_some, Option.isSome_some, Option.isNone_none, Option.isSome_none, Int.not_lt, Int.not_le, beq_iff_eq, beq_eq_false_iff_ne, bne_iff_ne, ne_eq, Bool.not_not, Decidable.not_not] at h56
          have hst := come_do (c := cs) hil hac (show ¬ (dd xs i).act = sEither from h25) (show ¬ (dd xs i).act = sOr from h50) (show ¬ (dd xs i).act = sEnd from h56)
          refine J.condF rfl rfl ?_
          refine J.seq rfl ?_
          refine J.region rfl ?_
          refine JO.pur rfl rfl rfl (Pur.move rfl) ?_
          refine JO.pur rfl rfl rfl (Pur.move rfl) ?_
          refine JO.eff rfl rfl rfl (Eff.buildSlice intE [(i : Int)] rfl rfl rfl rfl rfl rfl rfl) ?_
          rintro _ _ ⟨b21, rfl, -, rfl⟩
          refine JO.eff rfl rfl rfl (Eff.append rfl rfl rfl rfl (by first | rfl | omega | (simp; done) | (simp; omega)) (by first | rfl | omega | (simp; done) | (simp; omega)) (by decide) (by first | omega | (simp only [List.length_cons, List.length_nil]; omega) | (simp; omega)) (by first | omega | (simp only [List.length_cons, List.length_nil]; omega) | (simp; omega)) (fun h => by cases h)) ?_
          rintro _ _ ⟨a22, c22, rfl, rfl⟩
          refine JO.pur rfl rfl rfl (Pur.assign rfl) ?_
          refine JO.nil ?_
          refine J.region rfl ?_
          refine JO.pur rfl rfl rfl (Pur.move rfl) ?_
          refine JO.pur rfl rfl rfl (Pur.add rfl rfl (wr64 (by omega))) ?_
          refine JO.pur rfl rfl rfl (Pur.assign rfl) ?_
          refine JO.nil ?_
          refine J.inBlock ?_
          refine J.inBlock ?_
          exact J.weaken (.cons rfl (by dsimp only; rw [hst.2.1, hfzl, List.length_append]; rfl) (.cons rfl rfl (.cons rfl (congrArg (Value.int .i64) (by first | rfl | (dsimp only; omega))) (.cons rfl rfl (.cons rfl rfl .nil))))) (fun h s => by dsimp only; rw [hst.2.1, ← fz_snoc]; exact SubC.out h s) (ih0 (i + 1, a22, c22, a7, c7, md) ⟨(by dsimp only; omega), hst.1, (by dsimp only; rw [hst.2.2]; simp [hml])⟩ (by dsimp only; omega))
  · try simp only [decide_eq_true_eq, decide_eq_false_iff_not, Bool.not_eq_true', Bool.not_eq_false', Bool.and_eq_true, Bool.or_eq_true, Bool.and_eq_false_iff, Bool.or_eq_false_iff, Option.isNone_some, Option.isSome_some, Option.isNone_none, Option.isSome_none, Int.not_lt, Int.not_le, beq_iff_eq, beq_eq_false_iff_ne, bne_iff_ne, ne_eq, Bool.not_not, Decidable.not_not] at h13
    refine J.condF rfl rfl ?_
    refine J.exit rfl rfl ?_
    refine J.seq rfl ?_
    refine J.region rfl ?_
    refine JO.pur rfl rfl rfl (Pur.move rfl) ?_
    refine JO.pur rfl rfl rfl (Pur.move rfl) ?_
    refine JO.pur rfl rfl rfl (Pur.assign rfl) ?_
    refine JO.pur rfl rfl rfl (Pur.assign rfl) ?_
    refine JO.nil ?_
    refine J.ret rfl rfl ?_
    obtain rfl : i = xs.length := by omega
    exact ⟨_, _, ⟨a6, c6, a7, c7, md, hml, by rw [hml]; rfl, rfl⟩, rfl, fun h s => by unfold wayV; exact SubC.out h s⟩

end Go.Proofs.Ythdaopmfgmojnaa

/- The text OPlay. -/
set_option linter.unusedVariables false
set_option linter.unusedSimpArgs false
namespace Go.Proofs.Ythdaopmfgmojnaa
open Go Go.KK Ow

set_option maxRecDepth 10000 in
theorem play_ok {L : List Asn} {a b : Option Addr} {n cp m cq : Nat} {xs : List Deed} {cs : List Bool} [SlIn deedE L a xs] [SlIn boolE L b cs] (hn : n = xs.length) (hm : m = cs.length) (hvb : validB xs = true) :
    CallS Try.prog 35 [.slice a n cp, .slice b m cq].toArray L (fun v M => ∃ p aa' ca' ac' cc' af' cf', v = .tuple #[.pointer (some ⟨p, 0, none⟩), .string (runV xs cs).2.1, .int .i64 (runV xs cs).2.2] ∧ M = blk p (arr hE (hs (runV xs cs).1.vars) [.slice aa' (runV xs cs).1.alive.tail.length ca', .slice ac' (rc (runV xs cs).1).length cc', .slice af' (fz (runV xs cs).1.freed).length cf'] 71) :: sl boolE aa' ca' (runV xs cs).1.alive.tail :: sl intE ac' cc' (rc (runV xs cs).1) :: sl intE af' cf' (fz (runV xs cs).1.freed) :: L) := by
  subst hn
  subst hm
  have hb := valid_len hvb
  have hv := valid_open hvb
  refine CallS.ent ?_
  refine CallS.enter Try.func35 rfl rfl rfl rfl rfl ?_
  refine J.seq rfl ?_
  refine J.region rfl ?_
  refine JO.pur rfl rfl rfl (Pur.assign rfl) ?_
  refine JO.pur rfl rfl rfl (Pur.assign rfl) ?_
  refine JO.pur rfl rfl rfl (Pur.assign rfl) ?_
  refine JO.nil ?_
  refine J.seq rfl ?_
  refine J.region rfl ?_
  refine JO.pur rfl rfl rfl (Pur.build (cs := [_, _, _, _, _, _, _, _, _, _, _, _, _, _, _, _, _, _, _]) rfl rfl) ?_
  refine JO.eff rfl rfl rfl (Eff.box (cs := [_, _, _, _, _, _, _, _, _, _, _, _, _, _, _, _, _, _, _]) rfl rfl) ?_
  rintro _ _ ⟨b14, rfl, rfl⟩
  refine JO.pur rfl rfl rfl (Pur.assign rfl) ?_
  refine JO.nil ?_
  refine J.seq rfl ?_
  refine J.imp (M := blk b14 (arr hE (hs Ow.start.vars) [.slice none Ow.start.alive.tail.length 0, .slice none (rc Ow.start).length 0, .slice none (fz Ow.start.freed).length 0] 71) :: sl boolE none 0 Ow.start.alive.tail :: sl intE none 0 (rc Ow.start) :: sl intE none 0 (fz Ow.start.freed) :: L) (fun h s => ?_) ?_
  · have s2 : Sat h (blk b14 (arr hE (hs Ow.start.vars) [.slice none Ow.start.alive.tail.length 0, .slice none (rc Ow.start).length 0, .slice none (fz Ow.start.freed).length 0] 71) :: L) := s
    rw [show fz Ow.start.freed = [] from rfl, show rc Ow.start = [] from rfl, show Ow.start.alive.tail = [] from rfl] at s2 ⊢
    exact SubC.out h (sl_nil_new (E := boolE) (sl_nil_new (E := intE) (sl_nil_new (E := intE) s2)))
  refine J.region rfl ?_
  refine JO.pur rfl rfl rfl (Pur.move rfl) ?_
  refine JO.pur rfl rfl rfl (Pur.move rfl) ?_
  refine JO.eff rfl rfl rfl (Eff.call rfl (come_ok (xs := xs) (cs := cs) rfl rfl hvb)) ?_
  rintro _ _ ⟨a8, c8, a9, c9, md, hml, rfl, rfl⟩
  refine JO.pur rfl rfl rfl (Pur.move rfl) ?_
  refine JO.pur rfl rfl rfl (Pur.extract rfl rfl) ?_
  refine JO.pur rfl rfl rfl (Pur.extract rfl rfl) ?_
  refine JO.pur rfl rfl rfl (Pur.assign rfl) ?_
  refine JO.pur rfl rfl rfl (Pur.assign rfl) ?_
  refine JO.nil ?_
  refine J.seq rfl ?_
  refine J.seq rfl ?_
  obtain ⟨S, hS⟩ : ∃ S, S = (wayV xs cs).steps := ⟨_, rfl⟩
  rw [← hS]
  have hSl := fz_len S
  have hpl : ∀ i ∈ S, i < xs.length ∧ PlainD (dd xs i) := by rw [hS]; exact way_plain hv (Nat.le_refl _)
  have hS60 : S.length ≤ 60 := by rw [hS]; exact Nat.le_trans (wlen (Nat.le_refl _)).1 hb
  refine J.region rfl ?_
  refine JO.pur rfl rfl rfl (Pur.assign rfl) ?_
  refine JO.nil ?_
  refine J.block rfl ?_
  refine J.loopF (ι := Nat × Sx × Option Addr × Nat × Option Addr × Nat × Option Addr × Nat) (fun q => q.1 ≤ S.length ∧ Ow.Good q.2.1 ∧ rfold xs (S.drop q.1) q.2.1 = runV xs cs) (fun q => [(10, .int .i64 (q.1 : Int))]) [(0, _), (7, _), (8, _)] (fun q => blk b14 (arr hE (hs q.2.1.vars) [.slice q.2.2.1 q.2.1.alive.tail.length q.2.2.2.1, .slice q.2.2.2.2.1 (rc q.2.1).length q.2.2.2.2.2.1, .slice q.2.2.2.2.2.2.1 (fz q.2.1.freed).length q.2.2.2.2.2.2.2] 71) :: sl boolE q.2.2.1 q.2.2.2.1 q.2.1.alive.tail :: sl intE q.2.2.2.2.1 q.2.2.2.2.2.1 (rc q.2.1) :: sl intE q.2.2.2.2.2.2.1 q.2.2.2.2.2.2.2 (fz q.2.1.freed) :: sl intE a8 c8 (fz S) :: sl boolE a9 c9 md :: L) (fun q => S.length - q.1) (0, Ow.start, none, 0, none, 0, none, 0) rfl (.cons rfl rfl (.cons rfl rfl (.cons rfl rfl .nil))) (.cons rfl rfl .nil) (fun h s => by dsimp only; exact SubC.out h s) ⟨Nat.zero_le _, good_start, by unfold runV; rw [hS]; rfl⟩ ?_
  rintro ⟨k, σ, aa, ca, ac, cc, af, cf⟩ ⟨hk, g, hrf⟩ ih0
  try dsimp only
  dsimp only at hk g hrf
  refine J.seq rfl ?_
  refine J.seq rfl ?_
  refine J.region rfl ?_
  refine JO.pur rfl rfl rfl (Pur.move rfl) ?_
  refine JO.pur rfl rfl rfl (Pur.move rfl) ?_
  refine JO.pur rfl rfl rfl (Pur.len rfl) ?_
  refine JO.pur rfl rfl rfl (Pur.lss rfl rfl) ?_
  refine JO.nil ?_
  refine J.splitB 24 rfl (fun h24 => ?_) (fun h24 => ?_)
  · try simp only [decide_eq_true_eq, decide_eq_false_iff_not, Bool.not_eq_true', Bool.not_eq_false', Bool.and_eq_true, Bool.or_eq_true, Bool.and_eq_false_iff, Bool.or_eq_false_iff, Option.isNone_some, Option.isSome_some, Option.isNone_none, Option.isSome_none, Int.not_lt, Int.not_le, beq_iff_eq, beq_eq_false_iff_ne, bne_iff_ne, ne_eq, Bool.not_not, Decidable.not_not] at h24
    have hkl : k < S.length := by omega
    obtain ⟨j, hj⟩ : ∃ j, S[k]? = some j := ⟨_, List.getElem?_eq_getElem hkl⟩
    have hjm : j ∈ S := List.mem_of_getElem? hj
    obtain ⟨hjl, hpj⟩ := hpl j hjm
    have hx : (fz S)[k]? = some (j : Int) := by unfold fz; rw [List.getElem?_map, hj]; rfl
    have hdr : S.drop k = j :: S.drop (k + 1) := by rw [List.drop_eq_getElem_cons hkl]; congr 1; rw [List.getElem?_eq_getElem hkl] at hj; exact Option.some.inj hj
    refine J.condT rfl rfl ?_
    refine J.skip rfl ?_
    refine J.seq rfl ?_
    refine J.block rfl ?_
    refine J.seq rfl ?_
    refine J.region rfl ?_
    refine JO.pur rfl rfl rfl (Pur.move rfl) ?_
    refine JO.pur rfl rfl rfl (Pur.move rfl) ?_
    refine JO.pur rfl rfl rfl (Pur.move rfl) ?_
    refine JO.pur rfl rfl rfl (Pur.idx rfl rfl rfl (by first | rfl | (simp; done) | omega) rfl (by omega)) ?_
    refine JO.pur rfl rfl rfl (Pur.load rfl (CellIn.el0 rfl hx rfl)) ?_
    refine JO.pur rfl rfl rfl (Pur.idx rfl rfl rfl (by first | rfl | (simp; done) | omega) rfl hjl) ?_
    refine JO.pur rfl rfl rfl (Pur.loadA rfl rfl rfl (CellsIn.el rfl (dd_get hjl))) ?_
    refine JO.eff rfl rfl rfl (Eff.alloc (cs := [_, _, _]) rfl) ?_
    rintro _ _ ⟨b11, rfl, rfl⟩
    refine JO.effN rfl rfl (Eff.storeBA (cs' := [_, _, _]) rfl rfl (by rfl) (by rfl) (by rfl)) ?_
    rintro _ _ ⟨rfl, rfl⟩
    refine JO.nil ?_
    refine J.seq rfl ?_
    refine J.seq rfl ?_
    refine J.region rfl ?_
    refine JO.pur rfl rfl rfl (Pur.move rfl) ?_
    refine JO.pur rfl rfl rfl (Pur.loadA rfl rfl rfl CellsIn.blk) ?_
    refine JO.eff rfl rfl rfl (Eff.call rfl (CallS.pre (rwrong_ok (b := b14) (aa := aa) (ca := ca) (ac := ac) (cc := cc) (af := af) (cf := cf) (σ := σ) (d := dd xs j) (L := blk b11 (.cells #[.string (dd xs j).act, .string (dd xs j).var, .string (dd xs j).src] 46) :: sl intE a8 c8 (fz S) :: sl boolE a9 c9 md :: L) g hpj) SubC.out)) ?_
    rintro _ _ ⟨rfl, rfl⟩
    refine JO.pur rfl rfl rfl (Pur.assign rfl) ?_
    refine JO.nil ?_
    refine J.seq rfl ?_
    refine J.region rfl ?_
    refine JO.pur rfl rfl rfl (Pur.move rfl) ?_
    refine JO.pur rfl rfl rfl (Pur.neqT rfl rfl) ?_
    refine JO.nil ?_
    refine J.splitB 38 rfl (fun h38 => ?_) (fun h38 => ?_)
    · try simp only [decide_eq_true_eq, decide_eq_false_iff_not, Bool.not_eq_true', Bool.not_eq_false', Bool.and_eq_true, Bool.or_eq_true, Bool.and_eq_false_iff, Bool.or_eq_false_iff, Option.isNone_some, Option.isSome_some, Option.isNone_none, Option.isSome_none, Int.not_lt, Int.not_le, beq_iff_eq, beq_eq_false_iff_ne, bne_iff_ne, ne_eq, Bool.not_not, Decidable.not_not] at h38
      have hr : ¬ wrongS σ (dd xs j) = sNone := h38
      refine J.condT rfl rfl ?_
      refine J.seq rfl ?_
      refine J.quiet rfl Try.mixed (by kernel_rfl) ?_
      refine JQ.pur rfl rfl rfl (Pur.move rfl) ?_
      refine JQ.pur rfl rfl rfl (Pur.move rfl) ?_
      refine JQ.pur rfl rfl rfl (Pur.move rfl) ?_
      refine JQ.pur rfl rfl rfl (Pur.move rfl) ?_
      refine JQ.pur rfl rfl rfl (Pur.idx rfl rfl rfl (by first | rfl | (simp; done) | omega) rfl (by omega)) ?_
      refine JQ.pur rfl rfl rfl (Pur.load rfl (CellIn.el0 rfl hx rfl)) ?_
      refine JQ.pur rfl rfl rfl (Pur.assign rfl) ?_
      refine JQ.pur rfl rfl rfl (Pur.assign rfl) ?_
      refine JQ.pur rfl rfl rfl (Pur.assign rfl) ?_
      refine JQ.nil ?_
      refine J.ret rfl rfl ?_
      have hrv : runV xs cs = (σ, wrongS σ (dd xs j), (j : Int)) := by rw [← hrf, hdr, rfold_no hr]
      exact ⟨_, _, ⟨b14, aa, ca, ac, cc, af, cf, by rw [hrv]; rfl, rfl⟩, rfl, fun h s => by rw [hrv]; exact SubC.out h s⟩
    · try simp only [decide_eq_true_eq, decide_eq_false_iff_not, Bool.not_eq_true', Bool.not_eq_false', Bool.and_eq_true, Bool.or_eq_true, Bool.and_eq_false_iff, Bool.or_eq_false_iff, Option.isNone_some, Option.isSome_some, Option.isNone_none, Option.isSome_none, Int.not_lt, Int.not_le, beq_iff_eq, beq_eq_false_iff_ne, bne_iff_ne, ne_eq, Bool.not_not, Decidable.not_not] at h38
      have hr : wrongS σ (dd xs j) = sNone := h38
      refine J.condF rfl rfl ?_
      refine J.skip rfl ?_
      refine J.region rfl ?_
      refine JO.pur rfl rfl rfl (Pur.move rfl) ?_
      refine JO.pur rfl rfl rfl (Pur.loadA rfl rfl rfl CellsIn.blk) ?_
      refine JO.eff rfl rfl rfl (Eff.call rfl (CallS.pre (rdoes_ok (b := b14) (aa := aa) (ca := ca) (ac := ac) (cc := cc) (af := af) (cf := cf) (σ := σ) (d := dd xs j) (L := blk b11 (.cells #[.string (dd xs j).act, .string (dd xs j).var, .string (dd xs j).src] 46) :: sl intE a8 c8 (fz S) :: sl boolE a9 c9 md :: L) g hr hpj) SubC.out)) ?_
      rintro _ _ ⟨aa1, ca1, ac1, cc1, af1, cf1, rfl, rfl⟩
      refine JO.nil ?_
      refine J.inBlock ?_
      refine J.region rfl ?_
      refine JO.pur rfl rfl rfl (Pur.move rfl) ?_
      refine JO.pur rfl rfl rfl (Pur.add rfl rfl (wr64 (by omega))) ?_
      refine JO.pur rfl rfl rfl (Pur.assign rfl) ?_
      refine JO.nil ?_
      exact J.weaken (.cons rfl (congrArg (Value.int .i64) (by dsimp only; omega)) (.cons rfl rfl (.cons rfl rfl (.cons rfl rfl .nil)))) (fun h s => by dsimp only; exact SubC.out h s) (ih0 (k + 1, doS σ (dd xs j), aa1, ca1, ac1, cc1, af1, cf1) ⟨(by dsimp only; omega), good_plain g hpj hr, (by dsimp only; rw [← hrf, hdr, rfold_yes hr])⟩ (by dsimp only; omega))
  · try simp only [decide_eq_true_eq, decide_eq_false_iff_not, Bool.not_eq_true', Bool.not_eq_false', Bool.and_eq_true, Bool.or_eq_true, Bool.and_eq_false_iff, Bool.or_eq_false_iff, Option.isNone_some, Option.isSome_some, Option.isNone_none, Option.isSome_none, Int.not_lt, Int.not_le, beq_iff_eq, beq_eq_false_iff_ne, bne_iff_ne, ne_eq, Bool.not_not, Decidable.not_not] at h24
    refine J.condF rfl rfl ?_
    refine J.exit rfl rfl ?_
    refine J.seq rfl ?_
    refine J.region rfl ?_
    refine JO.pur rfl rfl rfl (Pur.move rfl) ?_
    refine JO.pur rfl rfl rfl (Pur.assign rfl) ?_
    refine JO.pur rfl rfl rfl (Pur.assign rfl) ?_
    refine JO.pur rfl rfl rfl (Pur.assign rfl) ?_
    refine JO.nil ?_
    refine J.ret rfl rfl ?_
    have hrv : runV xs cs = (σ, sNone, -1) := by rw [← hrf, List.drop_of_length_le (by omega)]; rfl
    exact ⟨_, _, ⟨b14, aa, ca, ac, cc, af, cf, by rw [hrv]; rfl, rfl⟩, rfl, fun h s => by rw [hrv]; exact SubC.out h s⟩

end Go.Proofs.Ythdaopmfgmojnaa
