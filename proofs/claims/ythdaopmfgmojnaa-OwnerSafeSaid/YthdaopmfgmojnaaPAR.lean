/-
  A part of the proof of the claim that this folder bears.
-/
import Derived.Test.YthdaopmfgmojnaaPAQ
/- The text ORRef. -/
set_option linter.unusedVariables false
set_option linter.unusedSimpArgs false
namespace Go.Proofs.Ythdaopmfgmojnaa
open Go Go.KK Ow

theorem eqDeed (x y : Deed) (w : World) : (Op.equal 46 (.agg (deedE.enc x).toArray) (.agg (deedE.enc y).toArray)).run Try.prog w = .ok (decide (x = y)) w := by
  have hu := run_underlying (P := Try.prog) Try.underlying46 w
  have hi : (sizeOf 9).run Try.prog w = .ok 1 w := run_sizeOf_of (by kernel_rfl)
  have hs := Scl.run (P := Try.prog) (t := 9) (w := w) (by kernel_rfl)
  have he := fun a b => run_equalIn_string (P := Try.prog) w 9998 9 a b Try.underlying9
  obtain ⟨a, b, c⟩ := x
  obtain ⟨a', b', c'⟩ := y
  unfold Op.equal
  rw [show Op.maxDepth = 9999 + 1 from rfl, Op.equalIn.eq_def]
  simp only [deedE, Sem.run_bind, hu, hi, Result.andThen_ok]
  simp [Std.Legacy.Range.forIn_eq_forIn_range', List.range', part, hs, he, str_eq]
  by_cases h1 : a = a' <;> by_cases h2 : b = b' <;> by_cases h3 : c = c' <;> simp [h1, h2, h3]
instance : EqE Try.prog 46 deedE := ⟨by kernel_rfl, eqDeed⟩
theorem T_leafs (l : List Deed) : ∀ (f : Nat) (c0 : List Bool), (∀ c, mt l c ≤ 8) → 8 ≤ f + c0.length → ∀ c ∈ T l f c0, mt l c ≤ c.length
  | 0, c0, h8, h, c, hc => by rw [T, List.mem_singleton] at hc; subst hc; have := h8 c; omega
  | f + 1, c0, h8, h, c, hc => by
    rw [T] at hc
    split at hc
    · rw [List.mem_singleton] at hc; subst hc; assumption
    · rcases List.mem_append.1 hc with hc | hc
      · exact T_leafs l f _ h8 (by simp; omega) c hc
      · exact T_leafs l f _ h8 (by simp; omega) c hc
theorem Fut_leaf {l : List Deed} (hv : validB l = true) {c : List Bool} (h : c ∈ Fut l []) : mt l c ≤ c.length := by
  rw [Fut_nil] at h
  exact T_leafs l 8 [] (mt_le hv) (by simp) c h
theorem rfold_at {xs : List Deed} : ∀ {l : List Nat} {σ : Sx}, ¬ (rfold xs l σ).2.1 = sNone → ∃ j ∈ l, (rfold xs l σ).2.2 = (j : Int)
  | [], σ, h => absurd rfl h
  | i :: r, σ, h => by
    rw [rfold] at h ⊢
    split
    · rename_i hw
      rw [if_pos hw] at h
      obtain ⟨j, h1, h2⟩ := rfold_at h
      exact ⟨j, List.mem_cons_of_mem _ h1, h2⟩
    · exact ⟨i, by simp, rfl⟩
theorem rf_yes {xs : List Deed} {i : Option (List Bool)} {c : List Bool} (h : (runV xs c).2.1 = sNone) : rf xs i c = (i, true) := by rw [rf, if_pos h]
theorem rf_no {xs : List Deed} {i : Option (List Bool)} {c : List Bool} (h : ¬ (runV xs c).2.1 = sNone) : rf xs i c = (some (c.take (lead (wayV xs c).met (runV xs c).2.2)), false) := by rw [rf, if_neg h]
theorem lead_le (ms : List Nat) (x : Int) : lead ms x ≤ ms.length := by unfold lead; exact List.Sublist.length_le (List.takeWhile_sublist _)
theorem bools_ok {L : List Asn} {a b : Option Addr} {n m cap cap2 : Nat} {xs ys : List Bool} [SlIn boolE L a xs] [SlIn boolE L b ys] (hn : n = xs.length) (hm : m = ys.length) (hb : xs.length ≤ 1000000) :
    CallS Try.prog 20 [.slice a n cap, .slice b m cap2].toArray L (fun v M => v = .bool (decide (xs = ys)) ∧ M = L) := by
  subst hn
  subst hm
  refine CallS.enter Try.func20 rfl rfl rfl rfl rfl ?_
  refine J.seq rfl ?_
  refine J.region rfl ?_
  refine JO.pur rfl rfl rfl (Pur.assign rfl) ?_
  refine JO.nil ?_
  refine J.seq rfl ?_
  refine J.seq rfl ?_
  refine J.region rfl ?_
  refine JO.pur rfl rfl rfl (Pur.move rfl) ?_
  refine JO.pur rfl rfl rfl (Pur.len rfl) ?_
  refine JO.pur rfl rfl rfl (Pur.move rfl) ?_
  refine JO.pur rfl rfl rfl (Pur.len rfl) ?_
  refine JO.pur rfl rfl rfl (Pur.neqI rfl rfl) ?_
  refine JO.nil ?_
  refine J.splitB 10 rfl (fun h10 => ?_) (fun h10 => ?_)
  · try simp only [decide_eq_true_eq, decide_eq_false_iff_not, Bool.not_eq_true', Bool.not_eq_false', Bool.and_eq_true, Bool.or_eq_true, Bool.and_eq_false_iff, Bool.or_eq_false_iff, Option.isNone_some, Option.isSome_some, Option.isNone_none, Option.isSome_none, Int.not_lt, Int.not_le, beq_iff_eq, beq_eq_false_iff_ne, bne_iff_ne, ne_eq, Bool.not_not, Decidable.not_not] at h10
    refine J.condT rfl rfl ?_
    refine J.seq rfl ?_
    refine J.region rfl ?_
    refine JO.pur rfl rfl rfl (Pur.assign rfl) ?_
    refine JO.nil ?_
    refine J.ret rfl rfl ?_
    exact ⟨congrArg Value.bool (decide_eq_false (fun e => by rw [e] at h10; omega)).symm, rfl⟩
  · try simp only [decide_eq_true_eq, decide_eq_false_iff_not, Bool.not_eq_true', Bool.not_eq_false', Bool.and_eq_true, Bool.or_eq_true, Bool.and_eq_false_iff, Bool.or_eq_false_iff, Option.isNone_some, Option.isSome_some, Option.isNone_none, Option.isSome_none, Int.not_lt, Int.not_le, beq_iff_eq, beq_eq_false_iff_ne, bne_iff_ne, ne_eq, Bool.not_not, Decidable.not_not] at h10
    refine J.condF rfl rfl ?_
    refine J.skip rfl ?_
    refine J.seq rfl ?_
    refine J.seq rfl ?_
    refine J.region rfl ?_
    refine JO.pur rfl rfl rfl (Pur.assign rfl) ?_
    refine JO.nil ?_
    refine J.block rfl ?_
    refine J.loopF (ι := Nat) (fun i => i ≤ xs.length ∧ xs.take i = ys.take i) (fun i => [(5, .int .i64 (i : Int))]) [(0, _), (1, _)] (fun i => L) (fun i => xs.length - i) 0 rfl (.cons rfl rfl (.cons rfl rfl .nil)) (.cons rfl rfl .nil) (by first | exact fun _ h => h | exact SubC.out | (dsimp only; exact SubC.out)) ⟨Nat.zero_le _, rfl⟩ ?_
    rintro i ⟨hi1, hi2⟩ ih0
    try dsimp only
    refine J.seq rfl ?_
    refine J.seq rfl ?_
    refine J.region rfl ?_
    refine JO.pur rfl rfl rfl (Pur.move rfl) ?_
    refine JO.pur rfl rfl rfl (Pur.move rfl) ?_
    refine JO.pur rfl rfl rfl (Pur.len rfl) ?_
    refine JO.pur rfl rfl rfl (Pur.lss rfl rfl) ?_
    refine JO.nil ?_
    refine J.splitB 14 rfl (fun h14 => ?_) (fun h14 => ?_)
    · try simp only [decide_eq_true_eq, decide_eq_false_iff_not, Bool.not_eq_true', Bool.not_eq_false', Bool.and_eq_true, Bool.or_eq_true, Bool.and_eq_false_iff, Bool.or_eq_false_iff, Option.isNone_some, Option.isSome_some, Option.isNone_none, Option.isSome_none, Int.not_lt, Int.not_le, beq_iff_eq, beq_eq_false_iff_ne, bne_iff_ne, ne_eq, Bool.not_not, Decidable.not_not] at h14
      refine J.condT rfl rfl ?_
      refine J.skip rfl ?_
      refine J.seq rfl ?_
      refine J.block rfl ?_
      refine J.seq rfl ?_
      refine J.quiet rfl Try.mixed (by kernel_rfl) ?_
      refine JQ.pur rfl rfl rfl (Pur.move rfl) ?_
      refine JQ.pur rfl rfl rfl (Pur.move rfl) ?_
      refine JQ.pur rfl rfl rfl (Pur.idx rfl rfl rfl (by first | rfl | (simp; done) | omega) rfl (by omega)) ?_
      refine JQ.pur rfl rfl rfl (Pur.load rfl (CellIn.el0 rfl (List.getElem?_eq_getElem (by omega)) rfl)) ?_
      refine JQ.pur rfl rfl rfl (Pur.move rfl) ?_
      refine JQ.pur rfl rfl rfl (Pur.move rfl) ?_
      refine JQ.pur rfl rfl rfl (Pur.idx rfl rfl rfl (by first | rfl | (simp; done) | omega) rfl (by omega)) ?_
      refine JQ.pur rfl rfl rfl (Pur.load rfl (CellIn.el0 rfl (List.getElem?_eq_getElem (by omega)) rfl)) ?_
      refine JQ.pur rfl rfl rfl (Pur.neqB rfl rfl) ?_
      refine JQ.nil ?_
      refine J.splitB 25 rfl (fun h25 => ?_) (fun h25 => ?_)
      · try simp only [decide_eq_true_eq, decide_eq_false_iff_not, Bool.not_eq_true', Bool.not_eq_false', Bool.and_eq_true, Bool.or_eq_true, Bool.and_eq_false_iff, Bool.or_eq_false_iff, Option.isNone_some, Option.isSome_some, Option.isNone_none, Option.isSome_none, Int.not_lt, Int.not_le, beq_iff_eq, beq_eq_false_iff_ne, bne_iff_ne, ne_eq, Bool.not_not, Decidable.not_not] at h25
        refine J.condT rfl rfl ?_
        refine J.seq rfl ?_
        refine J.region rfl ?_
        refine JO.pur rfl rfl rfl (Pur.assign rfl) ?_
        refine JO.nil ?_
        refine J.ret rfl rfl ?_
        exact ⟨congrArg Value.bool (decide_eq_false (fun e => by subst e; simp at h25)).symm, rfl⟩
      · try simp only [decide_eq_true_eq, decide_eq_false_iff_not, Bool.not_eq_true', Bool.not_eq_false', Bool.and_eq_true, Bool.or_eq_true, Bool.and_eq_false_iff, Bool.or_eq_false_iff, Option.isNone_some, Option.isSome_some, Option.isNone_none, Option.isSome_none, Int.not_lt, Int.not_le, beq_iff_eq, beq_eq_false_iff_ne, bne_iff_ne, ne_eq, Bool.not_not, Decidable.not_not] at h25
        refine J.condF rfl rfl ?_
        refine J.skip rfl ?_
        refine J.inBlock ?_
        refine J.region rfl ?_
        refine JO.pur rfl rfl rfl (Pur.move rfl) ?_
        refine JO.pur rfl rfl rfl (Pur.add rfl rfl (wr64 (by omega))) ?_
        refine JO.pur rfl rfl rfl (Pur.assign rfl) ?_
        refine JO.nil ?_
        exact J.weaken (.cons rfl (congrArg (Value.int .i64) (by omega)) (.cons rfl rfl (.cons rfl rfl .nil))) (by first | exact fun _ h => h | exact SubC.out | (dsimp only; exact SubC.out)) (ih0 (i + 1) ⟨by omega, take_succ_eq hi2 (by omega) (by omega) (by simpa using h25)⟩ (by omega))
    · try simp only [decide_eq_true_eq, decide_eq_false_iff_not, Bool.not_eq_true', Bool.not_eq_false', Bool.and_eq_true, Bool.or_eq_true, Bool.and_eq_false_iff, Bool.or_eq_false_iff, Option.isNone_some, Option.isSome_some, Option.isNone_none, Option.isSome_none, Int.not_lt, Int.not_le, beq_iff_eq, beq_eq_false_iff_ne, bne_iff_ne, ne_eq, Bool.not_not, Decidable.not_not] at h14
      refine J.condF rfl rfl ?_
      refine J.exit rfl rfl ?_
      refine J.seq rfl ?_
      refine J.region rfl ?_
      refine JO.pur rfl rfl rfl (Pur.assign rfl) ?_
      refine JO.nil ?_
      refine J.ret rfl rfl ?_
      exact ⟨congrArg Value.bool (decide_eq_true (take_all_eq hi2 (by omega) (by omega))).symm, rfl⟩

theorem sameInts_ok {L : List Asn} {a b : Option Addr} {n m cap cap2 : Nat} {xs ys : List Int} [SlIn intE L a xs] [SlIn intE L b ys] (hn : n = xs.length) (hm : m = ys.length) (hb : xs.length ≤ 1000000) :
    CallS Try.prog 27 [.slice a n cap, .slice b m cap2].toArray L (fun v M => v = .bool (decide (xs = ys)) ∧ M = L) := by
  subst hn
  subst hm
  refine CallS.enter Try.func27 rfl rfl rfl rfl rfl ?_
  refine J.seq rfl ?_
  refine J.region rfl ?_
  refine JO.pur rfl rfl rfl (Pur.assign rfl) ?_
  refine JO.nil ?_
  refine J.seq rfl ?_
  refine J.seq rfl ?_
  refine J.region rfl ?_
  refine JO.pur rfl rfl rfl (Pur.move rfl) ?_
  refine JO.pur rfl rfl rfl (Pur.len rfl) ?_
  refine JO.pur rfl rfl rfl (Pur.move rfl) ?_
  refine JO.pur rfl rfl rfl (Pur.len rfl) ?_
  refine JO.pur rfl rfl rfl (Pur.neqI rfl rfl) ?_
  refine JO.nil ?_
  refine J.splitB 10 rfl (fun h10 => ?_) (fun h10 => ?_)
  · try simp only [decide_eq_true_eq, decide_eq_false_iff_not, Bool.not_eq_true', Bool.not_eq_false', Bool.and_eq_true, Bool.or_eq_true, Bool.and_eq_false_iff, Bool.or_eq_false_iff, Option.isNone_some, Option.isSome_some, Option.isNone_none, Option.isSome_none, Int.not_lt, Int.not_le, beq_iff_eq, beq_eq_false_iff_ne, bne_iff_ne, ne_eq, Bool.not_not, Decidable.not_not] at h10
    refine J.condT rfl rfl ?_
    refine J.seq rfl ?_
    refine J.region rfl ?_
    refine JO.pur rfl rfl rfl (Pur.assign rfl) ?_
    refine JO.nil ?_
    refine J.ret rfl rfl ?_
    exact ⟨congrArg Value.bool (decide_eq_false (fun e => by rw [e] at h10; omega)).symm, rfl⟩
  · try simp only [decide_eq_true_eq, decide_eq_false_iff_not, Bool.not_eq_true', Bool.not_eq_false', Bool.and_eq_true, Bool.or_eq_true, Bool.and_eq_false_iff, Bool.or_eq_false_iff, Option.isNone_some, Option.isSome_some, Option.isNone_none, Option.isSome_none, Int.not_lt, Int.not_le, beq_iff_eq, beq_eq_false_iff_ne, bne_iff_ne, ne_eq, Bool.not_not, Decidable.not_not] at h10
    refine J.condF rfl rfl ?_
    refine J.skip rfl ?_
    refine J.seq rfl ?_
    refine J.seq rfl ?_
    refine J.region rfl ?_
    refine JO.pur rfl rfl rfl (Pur.assign rfl) ?_
    refine JO.nil ?_
    refine J.block rfl ?_
    refine J.loopF (ι := Nat) (fun i => i ≤ xs.length ∧ xs.take i = ys.take i) (fun i => [(5, .int .i64 (i : Int))]) [(0, _), (1, _)] (fun i => L) (fun i => xs.length - i) 0 rfl (.cons rfl rfl (.cons rfl rfl .nil)) (.cons rfl rfl .nil) (by first | exact fun _ h => h | exact SubC.out | (dsimp only; exact SubC.out)) ⟨Nat.zero_le _, rfl⟩ ?_
    rintro i ⟨hi1, hi2⟩ ih0
    try dsimp only
    refine J.seq rfl ?_
    refine J.seq rfl ?_
    refine J.region rfl ?_
    refine JO.pur rfl rfl rfl (Pur.move rfl) ?_
    refine JO.pur rfl rfl rfl (Pur.move rfl) ?_
    refine JO.pur rfl rfl rfl (Pur.len rfl) ?_
    refine JO.pur rfl rfl rfl (Pur.lss rfl rfl) ?_
    refine JO.nil ?_
    refine J.splitB 14 rfl (fun h14 => ?_) (fun h14 => ?_)
    · try simp only [decide_eq_true_eq, decide_eq_false_iff_not, Bool.not_eq_true', Bool.not_eq_false', Bool.and_eq_true, Bool.or_eq_true, Bool.and_eq_false_iff, Bool.or_eq_false_iff, Option.isNone_some, Option.isSome_some, Option.isNone_none, Option.isSome_none, Int.not_lt, Int.not_le, beq_iff_eq, beq_eq_false_iff_ne, bne_iff_ne, ne_eq, Bool.not_not, Decidable.not_not] at h14
      refine J.condT rfl rfl ?_
      refine J.skip rfl ?_
      refine J.seq rfl ?_
      refine J.block rfl ?_
      refine J.seq rfl ?_
      refine J.quiet rfl Try.mixed (by kernel_rfl) ?_
      refine JQ.pur rfl rfl rfl (Pur.move rfl) ?_
      refine JQ.pur rfl rfl rfl (Pur.move rfl) ?_
      refine JQ.pur rfl rfl rfl (Pur.idx rfl rfl rfl (by first | rfl | (simp; done) | omega) rfl (by omega)) ?_
      refine JQ.pur rfl rfl rfl (Pur.load rfl (CellIn.el0 rfl (List.getElem?_eq_getElem (by omega)) rfl)) ?_
      refine JQ.pur rfl rfl rfl (Pur.move rfl) ?_
      refine JQ.pur rfl rfl rfl (Pur.move rfl) ?_
      refine JQ.pur rfl rfl rfl (Pur.idx rfl rfl rfl (by first | rfl | (simp; done) | omega) rfl (by omega)) ?_
      refine JQ.pur rfl rfl rfl (Pur.load rfl (CellIn.el0 rfl (List.getElem?_eq_getElem (by omega)) rfl)) ?_
      refine JQ.pur rfl rfl rfl (Pur.neqI rfl rfl) ?_
      refine JQ.nil ?_
      refine J.splitB 25 rfl (fun h25 => ?_) (fun h25 => ?_)
      · try simp only [decide_eq_true_eq, decide_eq_false_iff_not, Bool.not_eq_true', Bool.not_eq_false', Bool.and_eq_true, Bool.or_eq_true, Bool.and_eq_false_iff, Bool.or_eq_false_iff, Option.isNone_some, Option.isSome_some, Option.isNone_none, Option.isSome_none, Int.not_lt, Int.not_le, beq_iff_eq, beq_eq_false_iff_ne, bne_iff_ne, ne_eq, Bool.not_not, Decidable.not_not] at h25
        refine J.condT rfl rfl ?_
        refine J.seq rfl ?_
        refine J.region rfl ?_
        refine JO.pur rfl rfl rfl (Pur.assign rfl) ?_
        refine JO.nil ?_
        refine J.ret rfl rfl ?_
        exact ⟨congrArg Value.bool (decide_eq_false (fun e => h25 (by simp [e]))).symm, rfl⟩
      · try simp only [decide_eq_true_eq, decide_eq_false_iff_not, Bool.not_eq_true', Bool.not_eq_false', Bool.and_eq_true, Bool.or_eq_true, Bool.and_eq_false_iff, Bool.or_eq_false_iff, Option.isNone_some, Option.isSome_some, Option.isNone_none, Option.isSome_none, Int.not_lt, Int.not_le, beq_iff_eq, beq_eq_false_iff_ne, bne_iff_ne, ne_eq, Bool.not_not, Decidable.not_not] at h25
        refine J.condF rfl rfl ?_
        refine J.skip rfl ?_
        refine J.inBlock ?_
        refine J.region rfl ?_
        refine JO.pur rfl rfl rfl (Pur.move rfl) ?_
        refine JO.pur rfl rfl rfl (Pur.add rfl rfl (wr64 (by omega))) ?_
        refine JO.pur rfl rfl rfl (Pur.assign rfl) ?_
        refine JO.nil ?_
        exact J.weaken (.cons rfl (congrArg (Value.int .i64) (by omega)) (.cons rfl rfl (.cons rfl rfl .nil))) (by first | exact fun _ h => h | exact SubC.out | (dsimp only; exact SubC.out)) (ih0 (i + 1) ⟨by omega, take_succ_eq hi2 (by omega) (by omega) h25⟩ (by omega))
    · try simp only [decide_eq_true_eq, decide_eq_false_iff_not, Bool.not_eq_true', Bool.not_eq_false', Bool.and_eq_true, Bool.or_eq_true, Bool.and_eq_false_iff, Bool.or_eq_false_iff, Option.isNone_some, Option.isSome_some, Option.isNone_none, Option.isSome_none, Int.not_lt, Int.not_le, beq_iff_eq, beq_eq_false_iff_ne, bne_iff_ne, ne_eq, Bool.not_not, Decidable.not_not] at h14
      refine J.condF rfl rfl ?_
      refine J.exit rfl rfl ?_
      refine J.seq rfl ?_
      refine J.region rfl ?_
      refine JO.pur rfl rfl rfl (Pur.assign rfl) ?_
      refine JO.nil ?_
      refine J.ret rfl rfl ?_
      exact ⟨congrArg Value.bool (decide_eq_true (take_all_eq hi2 (by omega) (by omega))).symm, rfl⟩

theorem rPaths_ok {L : List Asn} {a : Option Addr} {n cp : Nat} {xs : List Deed} [SlIn deedE L a xs] (hn : n = xs.length) :
    CallS Try.prog 31 [.slice a n cp].toArray L (fun v M => v = .tuple #[.int .i64 (paV xs).1, .int .i64 (paV xs).2] ∧ M = L) := by
  subst hn
  refine CallS.ent ?_
  refine CallS.enter Try.func31 rfl rfl rfl rfl rfl ?_
  refine J.seq rfl ?_
  refine J.region rfl ?_
  refine JO.pur rfl rfl rfl (Pur.assign rfl) ?_
  refine JO.pur rfl rfl rfl (Pur.assign rfl) ?_
  refine JO.nil ?_
  refine J.seq rfl ?_
  refine J.seq rfl ?_
  refine J.region rfl ?_
  refine JO.pur rfl rfl rfl (Pur.move rfl) ?_
  refine JO.effR rfl rfl rfl (Eff.call rfl (rvalid_ok (xs := xs) rfl)) ?_
  refine JO.pur rfl rfl rfl (Pur.not rfl) ?_
  refine JO.nil ?_
  refine J.splitB 6 rfl (fun h6 => ?_) (fun h6 => ?_)
  · try simp only [decide_eq_true_eq, decide_eq_false_iff_not, Bool.not_eq_true', Bool.not_eq_false', Bool.and_eq_true, Bool.or_eq_true, Bool.and_eq_false_iff, Bool.or_eq_false_iff, Option.isNone_some, Option.isSome_some, Option.isNone_none, Option.isSome_none, Int.not_lt, Int.not_le, beq_iff_eq, beq_eq_false_iff_ne, bne_iff_ne, ne_eq, Bool.not_not, Decidable.not_not] at h6
    have hvb : ¬ validB xs = true := by simpa using h6
    refine J.condT rfl rfl ?_
    refine J.seq rfl ?_
    refine J.region rfl ?_
    refine JO.pur rfl rfl rfl (Pur.assign rfl) ?_
    refine JO.pur rfl rfl rfl (Pur.assign rfl) ?_
    refine JO.nil ?_
    refine J.ret rfl rfl ?_
    exact ⟨_, _, ⟨by unfold paV; rw [if_neg hvb]; rfl, rfl⟩, rfl, SubC.out⟩
  · try simp only [decide_eq_true_eq, decide_eq_false_iff_not, Bool.not_eq_true', Bool.not_eq_false', Bool.and_eq_true, Bool.or_eq_true, Bool.and_eq_false_iff, Bool.or_eq_false_iff, Option.isNone_some, Option.isSome_some, Option.isNone_none, Option.isSome_none, Int.not_lt, Int.not_le, beq_iff_eq, beq_eq_false_iff_ne, bne_iff_ne, ne_eq, Bool.not_not, Decidable.not_not] at h6
    have hvb : validB xs = true := by simpa using h6
    have hv := valid_open hvb
    have hb6 := valid_len hvb
    refine J.condF rfl rfl ?_
    refine J.skip rfl ?_
    refine J.seq rfl ?_
    refine J.region rfl ?_
    refine JO.pur rfl rfl rfl (Pur.move rfl) ?_
    refine JO.eff rfl rfl rfl (Eff.call rfl (rAll_ok (xs := xs) rfl hvb)) ?_
    rintro _ _ ⟨a8, c8, hs8, rfl, rfl⟩
    refine JO.fact (fun h s => KK.RowsIn.n (hs := hs8) s) fun hnn => ?_
    have hhl : hs8.length = (Fut xs []).length := rows_len hnn
    refine JO.pur rfl rfl rfl (Pur.len rfl) ?_
    refine JO.pur rfl rfl rfl (Pur.assign rfl) ?_
    refine JO.pur rfl rfl rfl (Pur.assign rfl) ?_
    refine JO.nil ?_
    refine J.ret rfl rfl ?_
    exact ⟨_, _, ⟨by unfold paV; rw [if_pos hvb, ← hhl]; rfl, rfl⟩, rfl, SubC.out⟩

set_option maxRecDepth 10000 in
theorem rRefusal_ok {L : List Asn} {a : Option Addr} {n cp : Nat} {xs : List Deed} [SlIn deedE L a xs] (hn : n = xs.length) :
    CallS Try.prog 19 [.slice a n cp].toArray L (fun v M => ∃ a' c', v = .tuple #[.slice a' (reV xs).1.length c', .bool (reV xs).2.1, .int .i64 (reV xs).2.2] ∧ M = sl boolE a' c' (reV xs).1 :: L) := by
  subst hn
  refine CallS.ent ?_
  refine CallS.enter Try.func19 rfl rfl rfl rfl rfl ?_
  refine J.seq rfl ?_
  refine J.region rfl ?_
  refine JO.pur rfl rfl rfl (Pur.assign rfl) ?_
  refine JO.pur rfl rfl rfl (Pur.assign rfl) ?_
  refine JO.pur rfl rfl rfl (Pur.assign rfl) ?_
  refine JO.nil ?_
  refine J.seq rfl ?_
  refine J.seq rfl ?_
  refine J.region rfl ?_
  refine JO.pur rfl rfl rfl (Pur.move rfl) ?_
  refine JO.effR rfl rfl rfl (Eff.call rfl (rvalid_ok (xs := xs) rfl)) ?_
  refine JO.pur rfl rfl rfl (Pur.not rfl) ?_
  refine JO.nil ?_
  refine J.splitB 13 rfl (fun h13 => ?_) (fun h13 => ?_)
  · try simp only [decide_eq_true_eq, decide_eq_false_iff_not, Bool.not_eq_true', Bool.not_eq_false', Bool.and_eq_true, Bool.or_eq_true, Bool.and_eq_false_iff, Bool.or_eq_false_iff, Option.isNone_some, Option.isSome_some, Option.isNone_none, Option.isSome_none, Int.not_lt, Int.not_le, beq_iff_eq, beq_eq_false_iff_ne, bne_iff_ne, ne_eq, Bool.not_not, Decidable.not_not] at h13
    have hvb : ¬ validB xs = true := by simpa using h13
    refine J.condT rfl rfl ?_
    refine J.seq rfl ?_
    refine J.region rfl ?_
    refine JO.pur rfl rfl rfl (Pur.assign rfl) ?_
    refine JO.pur rfl rfl rfl (Pur.assign rfl) ?_
    refine JO.pur rfl rfl rfl (Pur.assign rfl) ?_
    refine JO.nil ?_
    refine J.ret rfl rfl ?_
    refine ⟨_, _, ⟨none, 0, by unfold reV; rw [if_neg hvb]; rfl, rfl⟩, rfl, fun h s => ?_⟩
    unfold reV; rw [if_neg hvb]
    exact sl_nil_new s
  · try simp only [decide_eq_true_eq, decide_eq_false_iff_not, Bool.not_eq_true', Bool.not_eq_false', Bool.and_eq_true, Bool.or_eq_true, Bool.and_eq_false_iff, Bool.or_eq_false_iff, Option.isNone_some, Option.isSome_some, Option.isNone_none, Option.isSome_none, Int.not_lt, Int.not_le, beq_iff_eq, beq_eq_false_iff_ne, bne_iff_ne, ne_eq, Bool.not_not, Decidable.not_not] at h13
    have hvb : validB xs = true := by simpa using h13
    have hv := valid_open hvb
    have hb6 := valid_len hvb
    refine J.condF rfl rfl ?_
    refine J.skip rfl ?_
    refine J.seq rfl ?_
    refine J.region rfl ?_
    refine JO.pur rfl rfl rfl (Pur.move rfl) ?_
    refine JO.eff rfl rfl rfl (Eff.call rfl (rAll_ok (xs := xs) rfl hvb)) ?_
    rintro _ _ ⟨a8, c8, hs8, rfl, rfl⟩
    refine JO.fact (fun h s => KK.RowsIn.n (hs := hs8) s) fun hnn => ?_
    have hhl : hs8.length = (Fut xs []).length := rows_len hnn
    have hF := Fut_len xs
    refine JO.pur rfl rfl rfl (Pur.assign rfl) ?_
    refine JO.nil ?_
    refine J.seq rfl ?_
    refine J.seq rfl ?_
    refine J.region rfl ?_
    refine JO.pur rfl rfl rfl (Pur.assign rfl) ?_
    refine JO.nil ?_
    refine J.block rfl ?_
    refine J.loopF (ι := Nat) (fun q => q ≤ hs8.length ∧ rfV xs = foldU (rf xs) ((Fut xs []).drop q) none) (fun q => [(6, .int .i64 (q : Int))]) [(0, _), (5, _)] (fun q => sl bhE a8 c8 hs8 :: rows boolE hs8 (Fut xs []) :: L) (fun q => hs8.length - q) 0 rfl (.cons rfl rfl (.cons rfl rfl .nil)) (.cons rfl rfl .nil) (by first | exact fun _ h => h | exact SubC.out | (dsimp only; exact SubC.out)) ⟨Nat.zero_le _, rfl⟩ ?_
    rintro i ⟨hi, hrf⟩ ih0
    try dsimp only
    refine J.seq rfl ?_
    refine J.seq rfl ?_
    refine J.region rfl ?_
    refine JO.pur rfl rfl rfl (Pur.move rfl) ?_
    refine JO.pur rfl rfl rfl (Pur.move rfl) ?_
    refine JO.pur rfl rfl rfl (Pur.len rfl) ?_
    refine JO.pur rfl rfl rfl (Pur.lss rfl rfl) ?_
    refine JO.nil ?_
    refine J.splitB 19 rfl (fun h19 => ?_) (fun h19 => ?_)
    · try simp only [decide_eq_true_eq, decide_eq_false_iff_not, Bool.not_eq_true', Bool.not_eq_false', Bool.and_eq_true, Bool.or_eq_true, Bool.and_eq_false_iff, Bool.or_eq_false_iff, Option.isNone_some, Option.isSome_some, Option.isNone_none, Option.isSome_none, Int.not_lt, Int.not_le, beq_iff_eq, beq_eq_false_iff_ne, bne_iff_ne, ne_eq, Bool.not_not, Decidable.not_not] at h19
      have hil : i < hs8.length := by omega
      obtain ⟨hd, hH⟩ : ∃ hd, hs8[i]? = some hd := ⟨_, List.getElem?_eq_getElem hil⟩
      obtain ⟨c, hC⟩ : ∃ c, (Fut xs [])[i]? = some c := ⟨_, List.getElem?_eq_getElem (by omega)⟩
      have hdn := hdr_n hnn hH hC
      have hdr : (Fut xs []).drop i = c :: (Fut xs []).drop (i + 1) := by rw [List.drop_eq_getElem_cons (by omega)]; congr 1; rw [List.getElem?_eq_getElem (by omega)] at hC; exact Option.some.inj hC
      have hcl := Fut_leaf hvb (List.mem_of_getElem? hC)
      refine J.fact (fun h s => SlH.le (E := boolE) (a := hd.a) (cap := hd.cap) (xs := c) (open_row (E := boolE) hH hC s)) fun hcap => ?_
      refine J.fact (fun h s => SlH.nil (E := boolE) (a := hd.a) (cap := hd.cap) (xs := c) (open_row (E := boolE) hH hC s)) fun hnl => ?_
      refine J.condT rfl rfl ?_
      refine J.skip rfl ?_
      refine J.seq rfl ?_
      refine J.block rfl ?_
      refine J.seq rfl ?_
      refine J.region rfl ?_
      refine JO.pur rfl rfl rfl (Pur.move rfl) ?_
      refine JO.pur rfl rfl rfl (Pur.move rfl) ?_
      refine JO.pur rfl rfl rfl (Pur.move rfl) ?_
      refine JO.pur rfl rfl rfl (Pur.idx rfl rfl rfl (by first | rfl | (simp; done) | omega) rfl hil) ?_
      refine JO.pur rfl rfl rfl (Pur.load rfl (CellIn.el0 rfl hH rfl)) ?_
      refine JO.eff rfl rfl rfl (Eff.call rfl (@play_ok _ _ _ _ _ _ _ xs c inferInstance (RowsIn.row (E := boolE) inferInstance hH hC) rfl hdn hvb)) ?_
      rintro _ _ ⟨p, aa, ca, ac, cc, af, cf, rfl, rfl⟩
      refine JO.pur rfl rfl rfl (Pur.move rfl) ?_
      refine JO.pur rfl rfl rfl (Pur.extract rfl rfl) ?_
      refine JO.pur rfl rfl rfl (Pur.extract rfl rfl) ?_
      refine JO.pur rfl rfl rfl (Pur.extract rfl rfl) ?_
      refine JO.pur rfl rfl rfl (Pur.assign rfl) ?_
      refine JO.pur rfl rfl rfl (Pur.assign rfl) ?_
      refine JO.pur rfl rfl rfl (Pur.assign rfl) ?_
      refine JO.nil ?_
      refine J.seq rfl ?_
      refine J.seq rfl ?_
      refine J.region rfl ?_
      refine JO.pur rfl rfl rfl (Pur.move rfl) ?_
      refine JO.pur rfl rfl rfl (Pur.eqlT rfl rfl) ?_
      refine JO.nil ?_
      refine J.splitB 33 rfl (fun h33 => ?_) (fun h33 => ?_)
      · try simp only [decide_eq_true_eq, decide_eq_false_iff_not, Bool.not_eq_true', Bool.not_eq_false', Bool.and_eq_true, Bool.or_eq_true, Bool.and_eq_false_iff, Bool.or_eq_false_iff, Option.isNone_some, Option.isSome_some, Option.isNone_none, Option.isSome_none, Int.not_lt, Int.not_le, beq_iff_eq, beq_eq_false_iff_ne, bne_iff_ne, ne_eq, Bool.not_not, Decidable.not_not] at h33
        have hr : (runV xs c).2.1 = sNone := h33
        refine J.condT rfl rfl ?_
        refine J.exit rfl rfl ?_
        refine J.region rfl ?_
        refine JO.pur rfl rfl rfl (Pur.move rfl) ?_
        refine JO.pur rfl rfl rfl (Pur.add rfl rfl (wr64 (by omega))) ?_
        refine JO.pur rfl rfl rfl (Pur.assign rfl) ?_
        refine JO.nil ?_
        exact J.weaken (.cons rfl (congrArg (Value.int .i64) (by omega)) (.cons rfl rfl (.cons rfl rfl .nil))) (by first | exact fun _ h => h | exact SubC.out | (dsimp only; exact SubC.out)) (ih0 (i + 1) ⟨(by omega), (by rw [hrf, hdr, foldU_yes (by rw [rf_yes hr]), rf_yes hr])⟩ (by omega))
      · try simp only [decide_eq_true_eq, decide_eq_false_iff_not, Bool.not_eq_true', Bool.not_eq_false', Bool.and_eq_true, Bool.or_eq_true, Bool.and_eq_false_iff, Bool.or_eq_false_iff, Option.isNone_some, Option.isSome_some, Option.isNone_none, Option.isSome_none, Int.not_lt, Int.not_le, beq_iff_eq, beq_eq_false_iff_ne, bne_iff_ne, ne_eq, Bool.not_not, Decidable.not_not] at h33
        have hr : ¬ (runV xs c).2.1 = sNone := h33
        obtain ⟨p9, hpm, hpe⟩ := rfold_at (xs := xs) (l := (wayV xs c).steps) (σ := Ow.start) hr
        have hpe2 : (runV xs c).2.2 = (p9 : Int) := hpe
        have hll := lead_le (wayV xs c).met (p9 : Int)
        have hcl2 : (wayV xs c).met.length ≤ c.length := hcl
        have hm8 : (wayV xs c).met.length ≤ 8 := mt_le hvb c
        have hrv : rfV xs = some (c.take (lead (wayV xs c).met (p9 : Int))) := by rw [hrf, hdr, foldU_no (by rw [rf_no hr]; simp), rf_no hr, hpe2]
        have htk : (c.take (lead (wayV xs c).met (p9 : Int))).length = lead (wayV xs c).met (p9 : Int) := by simp; omega
        refine J.condF rfl rfl ?_
        refine J.skip rfl ?_
        refine J.seq rfl ?_
        refine J.region rfl ?_
        refine JO.pur rfl rfl rfl (Pur.move rfl) ?_
        refine JO.pur rfl rfl rfl (Pur.move rfl) ?_
        refine JO.pur rfl rfl rfl (Pur.move rfl) ?_
        refine JO.pur rfl rfl rfl (Pur.idx rfl rfl rfl (by first | rfl | (simp; done) | omega) rfl hil) ?_
        refine JO.pur rfl rfl rfl (Pur.load rfl (CellIn.el0 rfl hH rfl)) ?_
        refine JO.pur rfl rfl rfl (Pur.move rfl) ?_
        refine JO.effR rfl rfl rfl (Eff.call rfl (CallS.args (@before_ok _ _ _ _ _ _ _ xs c inferInstance (RowsIn.row (E := boolE) inferInstance hH hC) rfl hdn p9 hvb hpm) (by rw [hpe2]; rfl))) ?_
        refine JO.pur rfl rfl rfl (Pur.assign rfl) ?_
        refine JO.nil ?_
        refine J.seq rfl ?_
        refine J.region rfl ?_
        refine JO.eff rfl rfl rfl (Eff.buildSlice boolE [] rfl rfl rfl rfl rfl rfl rfl) ?_
        rintro _ _ ⟨b41, rfl, -, rfl⟩
        refine JO.pur rfl rfl rfl (Pur.move rfl) ?_
        refine JO.pur rfl rfl rfl (Pur.move rfl) ?_
        refine JO.pur rfl rfl rfl (Pur.idx rfl rfl rfl (by first | rfl | (simp; done) | omega) rfl hil) ?_
        refine JO.pur rfl rfl rfl (Pur.load rfl (CellIn.el0 rfl hH rfl)) ?_
        refine JO.pur rfl rfl rfl (Pur.move rfl) ?_
        refine JO.pur rfl rfl rfl (Pur.slice0 rfl rfl rfl (by omega)) ?_
        refine JO.eff rfl rfl rfl (Eff.append (hi := SlIn.takeN (RowsIn.row (E := boolE) inferInstance hH hC) (lead (wayV xs c).met (p9 : Int))) rfl rfl rfl rfl rfl htk.symm (by decide) (by rw [htk]; simp only [List.length_nil]; omega) (by rw [htk]; simp only [List.length_nil]; omega) (fun e => by obtain ⟨e1, e2⟩ := hnl e; have h0 : c.length = 0 := congrArg List.length e1; exact ⟨by omega, e2⟩)) ?_
        rintro _ _ ⟨a48, c48, rfl, rfl⟩
        refine JO.pur rfl rfl rfl (Pur.assign rfl) ?_
        refine JO.pur rfl rfl rfl (Pur.assign rfl) ?_
        refine JO.pur rfl rfl rfl (Pur.assign rfl) ?_
        refine JO.nil ?_
        refine J.ret rfl rfl ?_
        exact ⟨_, _, ⟨a48, c48, by unfold reV; rw [if_pos hvb, hrv]; rw [Option.getD_some, htk]; simp only [List.length_nil, Nat.zero_add, List.nil_append, htk]; rfl, rfl⟩, rfl, fun h s => by unfold reV; rw [if_pos hvb, hrv, Option.getD_some]; rw [List.nil_append] at s; exact SubC.out h s⟩
    · try simp only [decide_eq_true_eq, decide_eq_false_iff_not, Bool.not_eq_true', Bool.not_eq_false', Bool.and_eq_true, Bool.or_eq_true, Bool.and_eq_false_iff, Bool.or_eq_false_iff, Option.isNone_some, Option.isSome_some, Option.isNone_none, Option.isSome_none, Int.not_lt, Int.not_le, beq_iff_eq, beq_eq_false_iff_ne, bne_iff_ne, ne_eq, Bool.not_not, Decidable.not_not] at h19
      refine J.condF rfl rfl ?_
      refine J.exit rfl rfl ?_
      refine J.seq rfl ?_
      refine J.region rfl ?_
      refine JO.pur rfl rfl rfl (Pur.assign rfl) ?_
      refine JO.pur rfl rfl rfl (Pur.assign rfl) ?_
      refine JO.pur rfl rfl rfl (Pur.assign rfl) ?_
      refine JO.nil ?_
      refine J.ret rfl rfl ?_
      have hrv : rfV xs = none := by rw [hrf, List.drop_of_length_le (by omega)]; rfl
      exact ⟨_, _, ⟨none, 0, by unfold reV; rw [if_pos hvb, hrv]; rfl, rfl⟩, rfl, fun h s => by unfold reV; rw [if_pos hvb, hrv]; exact (SubC.out h (sl_nil_new (E := boolE) s) : Sat h (sl boolE none 0 [] :: L))⟩

theorem rAccepts_ok {L : List Asn} {a : Option Addr} {n cp : Nat} {xs : List Deed} [SlIn deedE L a xs] (hn : n = xs.length) :
    CallS Try.prog 17 [.slice a n cp].toArray L (fun v M => v = .tuple #[.bool (acV xs).1, .int .i64 (acV xs).2] ∧ M = L) := by
  subst hn
  refine CallS.ent ?_
  refine CallS.enter Try.func17 rfl rfl rfl rfl rfl ?_
  refine J.seq rfl ?_
  refine J.region rfl ?_
  refine JO.pur rfl rfl rfl (Pur.assign rfl) ?_
  refine JO.pur rfl rfl rfl (Pur.assign rfl) ?_
  refine JO.nil ?_
  refine J.seq rfl ?_
  refine J.region rfl ?_
  refine JO.pur rfl rfl rfl (Pur.move rfl) ?_
  refine JO.eff rfl rfl rfl (Eff.call rfl (rRefusal_ok (xs := xs) rfl)) ?_
  rintro _ _ ⟨a', c', rfl, rfl⟩
  refine JO.pur rfl rfl rfl (Pur.move rfl) ?_
  refine JO.pur rfl rfl rfl (Pur.extract rfl rfl) ?_
  refine JO.pur rfl rfl rfl (Pur.extract rfl rfl) ?_
  refine JO.pur rfl rfl rfl (Pur.extract rfl rfl) ?_
  refine JO.pur rfl rfl rfl (Pur.assign rfl) ?_
  refine JO.pur rfl rfl rfl (Pur.assign rfl) ?_
  refine JO.pur rfl rfl rfl (Pur.assign rfl) ?_
  refine JO.nil ?_
  refine J.seq rfl ?_
  refine J.region rfl ?_
  refine JO.pur rfl rfl rfl (Pur.move rfl) ?_
  refine JO.pur rfl rfl rfl (Pur.eqlI rfl rfl) ?_
  refine JO.pur rfl rfl rfl (Pur.move rfl) ?_
  refine JO.splitB 15 rfl (fun h15 => ?_) (fun h15 => ?_)
  · try simp only [decide_eq_true_eq, decide_eq_false_iff_not, Bool.not_eq_true', Bool.not_eq_false', Bool.and_eq_true, Bool.or_eq_true, Bool.and_eq_false_iff, Bool.or_eq_false_iff, Option.isNone_some, Option.isSome_some, Option.isNone_none, Option.isSome_none, Int.not_lt, Int.not_le, beq_iff_eq, beq_eq_false_iff_ne, bne_iff_ne, ne_eq, Bool.not_not, Decidable.not_not] at h15
    refine JO.pur rfl rfl rfl (Pur.move rfl) ?_
    refine JO.pur rfl rfl rfl (Pur.not rfl) ?_
    refine JO.pur rfl rfl rfl (Pur.pickT rfl rfl) ?_
    refine JO.pur rfl rfl rfl (Pur.move rfl) ?_
    refine JO.pur rfl rfl rfl (Pur.assign rfl) ?_
    refine JO.pur rfl rfl rfl (Pur.assign rfl) ?_
    refine JO.nil ?_
    refine J.ret rfl rfl ?_
    exact ⟨_, _, ⟨by unfold acV; unfold reV at *; split <;> rename_i hvb <;> simp_all [tupV], rfl⟩, rfl, SubC.out⟩
  · try simp only [decide_eq_true_eq, decide_eq_false_iff_not, Bool.not_eq_true', Bool.not_eq_false', Bool.and_eq_true, Bool.or_eq_true, Bool.and_eq_false_iff, Bool.or_eq_false_iff, Option.isNone_some, Option.isSome_some, Option.isNone_none, Option.isSome_none, Int.not_lt, Int.not_le, beq_iff_eq, beq_eq_false_iff_ne, bne_iff_ne, ne_eq, Bool.not_not, Decidable.not_not] at h15
    refine JO.no rfl rfl rfl ?_
    refine JO.no rfl rfl rfl ?_
    refine JO.pur rfl rfl rfl (Pur.pickF rfl rfl) ?_
    refine JO.pur rfl rfl rfl (Pur.move rfl) ?_
    refine JO.pur rfl rfl rfl (Pur.assign rfl) ?_
    refine JO.pur rfl rfl rfl (Pur.assign rfl) ?_
    refine JO.nil ?_
    refine J.ret rfl rfl ?_
    exact ⟨_, _, ⟨by unfold acV; unfold reV at *; split <;> rename_i hvb <;> simp_all [tupV], rfl⟩, rfl, SubC.out⟩

end Go.Proofs.Ythdaopmfgmojnaa
