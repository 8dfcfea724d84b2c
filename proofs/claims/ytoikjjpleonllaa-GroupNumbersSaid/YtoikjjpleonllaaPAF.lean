/-
  A part of the proof of the claim that this folder bears.
-/
import Derived.Test.YtoikjjpleonllaaPAE
import Derived.Test.YtoikjjpleonllaaKC
/- The text G9. -/
set_option linter.unusedVariables false
set_option linter.unusedSimpArgs false
set_option maxRecDepth 10000
namespace Go.Proofs.Ytoikjjpleonllaa
open Go Go.KK Gr

instance : IntT Try.prog 3 .i64 := ⟨Try.underlying3⟩
instance : IntT Try.prog 98 .u64 := ⟨Try.underlying98⟩
instance : IntT Try.prog 126 .u64 := ⟨Try.underlying126⟩
def cntV (t : ByteArray) (n : Int) : Int × Int :=
  if t ∈ kinds ∧ 1 ≤ n ∧ n ≤ 8 then
    (if t = ⟨#[99, 97, 115, 116]⟩ ∨ t = ⟨#[114, 101, 100, 117, 99, 101]⟩ then n - 1
     else if t = ⟨#[97, 108, 108]⟩ ∨ t = ⟨#[98, 97, 114, 114, 105, 101, 114]⟩ then 2 * (n - 1) else scm 4 n 1 0, 0)
  else (0, 2)
theorem max_nat (a b : Nat) : max (a : Int) (b : Int) = ((max a b : Nat) : Int) := by omega
theorem count64_ok {L : List Asn} {x : Nat} (hx : x < 8) :
    CallS Try.prog 87 [.int .u64 (x : Int)].toArray L (fun v M => v = .int .i64 ((ones 4 x : Nat) : Int) ∧ M = L) := by
  have hy := y_le x hx
  have ho := y_ones x hx
  refine CallS.ent ?_
  refine CallS.enter Try.func87 rfl rfl rfl rfl rfl ?_
  refine J.seq rfl ?_
  refine J.region rfl ?_
  refine JO.pur rfl rfl rfl (Pur.assign rfl) ?_
  refine JO.nil ?_
  refine J.seq rfl ?_
  refine J.region rfl ?_
  refine JO.pur rfl rfl rfl (Pur.move rfl) ?_
  refine JO.pur rfl rfl rfl (Pur.shrU (n := x) (b := 1) rfl rfl rfl rfl (by decide)) ?_
  refine JO.pur rfl rfl rfl (Pur.andU rfl rfl rfl rfl (Nat.lt_of_le_of_lt (by first | exact Nat.div_le_self _ _ | exact Nat.le_refl _) (show x < 2 ^ 64 by omega)) (by decide)) ?_
  refine JO.pur rfl rfl rfl (Pur.move rfl) ?_
  refine JO.pur rfl rfl rfl (Pur.andU rfl rfl rfl rfl (Nat.lt_of_le_of_lt (by first | exact Nat.div_le_self _ _ | exact Nat.le_refl _) (show x < 2 ^ 64 by omega)) (by decide)) ?_
  have hb1 := hy.1
  refine JO.pur rfl rfl rfl (Pur.add rfl rfl (wrU64' ⟨by omega, Int.lt_of_le_of_lt (Int.ofNat_le.2 hb1) (by decide)⟩)) ?_
  refine JO.setv (u' := .int .u64 ((y1 x : Nat) : Int)) 8 rfl (congrArg (Value.int .u64) (Int.natCast_add _ _).symm) ?_
  obtain ⟨m1, hm1⟩ : ∃ m, m = y1 x := ⟨_, rfl⟩
  rw [← hm1] at hy ho ⊢
  refine JO.pur rfl rfl rfl (Pur.assign rfl) ?_
  refine JO.nil ?_
  refine J.seq rfl ?_
  refine J.region rfl ?_
  refine JO.pur rfl rfl rfl (Pur.move rfl) ?_
  refine JO.pur rfl rfl rfl (Pur.shrU (n := m1) (b := 2) rfl rfl rfl rfl (by decide)) ?_
  refine JO.pur rfl rfl rfl (Pur.andU rfl rfl rfl rfl (Nat.lt_of_le_of_lt (by first | exact Nat.div_le_self _ _ | exact Nat.le_refl _) (show m1 < 2 ^ 64 by omega)) (by decide)) ?_
  refine JO.pur rfl rfl rfl (Pur.move rfl) ?_
  refine JO.pur rfl rfl rfl (Pur.andU rfl rfl rfl rfl (Nat.lt_of_le_of_lt (by first | exact Nat.div_le_self _ _ | exact Nat.le_refl _) (show m1 < 2 ^ 64 by omega)) (by decide)) ?_
  have hb2 := hy.2.1
  refine JO.pur rfl rfl rfl (Pur.add rfl rfl (wrU64' ⟨by omega, Int.lt_of_le_of_lt (Int.ofNat_le.2 hb2) (by decide)⟩)) ?_
  refine JO.setv (u' := .int .u64 ((y2 m1 : Nat) : Int)) 14 rfl (congrArg (Value.int .u64) (Int.natCast_add _ _).symm) ?_
  obtain ⟨m2, hm2⟩ : ∃ m, m = y2 m1 := ⟨_, rfl⟩
  rw [← hm2] at hy ho ⊢
  refine JO.pur rfl rfl rfl (Pur.assign rfl) ?_
  refine JO.nil ?_
  refine J.seq rfl ?_
  refine J.region rfl ?_
  refine JO.pur rfl rfl rfl (Pur.move rfl) ?_
  refine JO.pur rfl rfl rfl (Pur.shrU (n := m2) (b := 4) rfl rfl rfl rfl (by decide)) ?_
  refine JO.pur rfl rfl rfl (Pur.move rfl) ?_
  refine JO.pur rfl rfl rfl (Pur.add rfl rfl (wrU64' (by have : m2 / 2 ^ 4 ≤ m2 := Nat.div_le_self _ _; omega))) ?_
  refine JO.setv (u' := .int .u64 ((m2 / 2 ^ 4 + m2 : Nat) : Int)) 18 rfl (congrArg (Value.int .u64) (Int.natCast_add _ _).symm) ?_
  refine JO.pur rfl rfl rfl (Pur.andU rfl rfl rfl rfl (by have : m2 / 2 ^ 4 ≤ m2 := Nat.div_le_self _ _; omega) (by decide)) ?_
  refine JO.setv (u' := .int .u64 ((y3 m2 : Nat) : Int)) 19 rfl (congrArg (Value.int .u64) rfl) ?_
  obtain ⟨m3, hm3⟩ : ∃ m, m = y3 m2 := ⟨_, rfl⟩
  rw [← hm3] at hy ho ⊢
  refine JO.pur rfl rfl rfl (Pur.assign rfl) ?_
  refine JO.nil ?_
  refine J.seq rfl ?_
  refine J.region rfl ?_
  refine JO.pur rfl rfl rfl (Pur.move rfl) ?_
  refine JO.pur rfl rfl rfl (Pur.move rfl) ?_
  refine JO.pur rfl rfl rfl (Pur.shrU (n := m3) (b := 8) rfl rfl rfl rfl (by decide)) ?_
  have hb4 := hy.2.2.2.1
  refine JO.pur rfl rfl rfl (Pur.add rfl rfl (wrU64' ⟨by omega, Int.lt_of_le_of_lt (Int.ofNat_le.2 hb4) (by decide)⟩)) ?_
  refine JO.setv (u' := .int .u64 ((y4 8 m3 : Nat) : Int)) 23 rfl (congrArg (Value.int .u64) (Int.natCast_add _ _).symm) ?_
  obtain ⟨m4, hm4⟩ : ∃ m, m = y4 8 m3 := ⟨_, rfl⟩
  rw [← hm4] at hy ho ⊢
  refine JO.pur rfl rfl rfl (Pur.assign rfl) ?_
  refine JO.nil ?_
  refine J.seq rfl ?_
  refine J.region rfl ?_
  refine JO.pur rfl rfl rfl (Pur.move rfl) ?_
  refine JO.pur rfl rfl rfl (Pur.move rfl) ?_
  refine JO.pur rfl rfl rfl (Pur.shrU (n := m4) (b := 16) rfl rfl rfl rfl (by decide)) ?_
  have hb5 := hy.2.2.2.2.1
  refine JO.pur rfl rfl rfl (Pur.add rfl rfl (wrU64' ⟨by omega, Int.lt_of_le_of_lt (Int.ofNat_le.2 hb5) (by decide)⟩)) ?_
  refine JO.setv (u' := .int .u64 ((y4 16 m4 : Nat) : Int)) 27 rfl (congrArg (Value.int .u64) (Int.natCast_add _ _).symm) ?_
  obtain ⟨m5, hm5⟩ : ∃ m, m = y4 16 m4 := ⟨_, rfl⟩
  rw [← hm5] at hy ho ⊢
  refine JO.pur rfl rfl rfl (Pur.assign rfl) ?_
  refine JO.nil ?_
  refine J.seq rfl ?_
  refine J.region rfl ?_
  refine JO.pur rfl rfl rfl (Pur.move rfl) ?_
  refine JO.pur rfl rfl rfl (Pur.move rfl) ?_
  refine JO.pur rfl rfl rfl (Pur.shrU (n := m5) (b := 32) rfl rfl rfl rfl (by decide)) ?_
  have hb6 := hy.2.2.2.2.2
  refine JO.pur rfl rfl rfl (Pur.add rfl rfl (wrU64' ⟨by omega, Int.lt_of_le_of_lt (Int.ofNat_le.2 hb6) (by decide)⟩)) ?_
  refine JO.setv (u' := .int .u64 ((y4 32 m5 : Nat) : Int)) 31 rfl (congrArg (Value.int .u64) (Int.natCast_add _ _).symm) ?_
  obtain ⟨m6, hm6⟩ : ∃ m, m = y4 32 m5 := ⟨_, rfl⟩
  rw [← hm6] at hy ho ⊢
  refine JO.pur rfl rfl rfl (Pur.assign rfl) ?_
  refine JO.nil ?_
  refine J.seq rfl ?_
  refine J.region rfl ?_
  refine JO.pur rfl rfl rfl (Pur.move rfl) ?_
  refine JO.pur rfl rfl rfl (Pur.convI rfl (wr64 (by omega))) ?_
  refine JO.pur rfl rfl rfl (Pur.andN rfl rfl rfl rfl (by omega) (by decide)) ?_
  refine JO.pur rfl rfl rfl (Pur.assign rfl) ?_
  refine JO.nil ?_
  refine J.ret rfl rfl ?_
  refine ⟨_, _, ⟨rfl, rfl⟩, congrArg (Value.int .i64) (congrArg Int.ofNat ho), SubC.out⟩

theorem count_ok {L : List Asn} {x : Nat} (hx : x < 8) :
    CallS Try.prog 63 [.int .u64 (x : Int)].toArray L (fun v M => v = .int .i64 ((ones 4 x : Nat) : Int) ∧ M = L) := by
  refine CallS.ent ?_
  refine CallS.enter Try.func63 rfl rfl rfl rfl rfl ?_
  refine J.seq rfl ?_
  refine J.region rfl ?_
  refine JO.pur rfl rfl rfl (Pur.assign rfl) ?_
  refine JO.nil ?_
  refine J.seq rfl ?_
  refine J.condF rfl rfl ?_
  refine J.skip rfl ?_
  refine J.seq rfl ?_
  refine J.region rfl ?_
  refine JO.pur rfl rfl rfl (Pur.move rfl) ?_
  refine JO.effR rfl rfl rfl (Eff.call rfl (count64_ok hx)) ?_
  refine JO.pur rfl rfl rfl (Pur.assign rfl) ?_
  refine JO.nil ?_
  refine J.ret rfl rfl ?_
  refine ⟨_, _, ⟨rfl, rfl⟩, rfl, SubC.out⟩

theorem Depth_ok {L : List Asn} {n : Int} :
    CallS Try.prog 30 [.int .i64 n].toArray L (fun v M => v = .tuple #[.int .i64 (depV n).1, .int .i64 (depV n).2] ∧ M = L) := by
  refine CallS.ent ?_
  refine CallS.enter Try.func30 rfl rfl rfl rfl rfl ?_
  refine J.seq rfl ?_
  refine J.region rfl ?_
  refine JO.pur rfl rfl rfl (Pur.assign rfl) ?_
  refine JO.pur rfl rfl rfl (Pur.assign rfl) ?_
  refine JO.nil ?_
  refine J.seq rfl ?_
  refine J.seq rfl ?_
  refine J.region rfl ?_
  refine JO.pur rfl rfl rfl (Pur.move rfl) ?_
  refine JO.effR rfl rfl rfl (Eff.call rfl (isSize_ok)) ?_
  refine JO.pur rfl rfl rfl (Pur.not rfl) ?_
  refine JO.nil ?_
  refine J.splitB 8 rfl (fun h8 => ?_) (fun h8 => ?_)
  · try simp only [decide_eq_true_eq, decide_eq_false_iff_not, Bool.not_eq_true', Bool.not_eq_false', Bool.and_eq_true, Bool.or_eq_true, Bool.and_eq_false_iff, Bool.or_eq_false_iff, Option.isNone_some, Option.isSome_some, Option.isNone_none, Option.isSome_none, Int.not_lt, Int.not_le, beq_iff_eq, beq_eq_false_iff_ne, bne_iff_ne, ne_eq, Bool.not_not, Decidable.not_not] at h8
    have hv : depV n = (0, 2) := if_neg h8
    refine J.condT rfl rfl ?_
    refine J.seq rfl ?_
    refine J.region rfl ?_
    refine JO.pur rfl rfl rfl (Pur.assign rfl) ?_
    refine JO.pur rfl rfl rfl (Pur.assign rfl) ?_
    refine JO.nil ?_
    refine J.ret rfl rfl ?_
    refine ⟨_, _, ⟨rfl, rfl⟩, by rw [hv]; rfl, SubC.out⟩
  · try simp only [decide_eq_true_eq, decide_eq_false_iff_not, Bool.not_eq_true', Bool.not_eq_false', Bool.and_eq_true, Bool.or_eq_true, Bool.and_eq_false_iff, Bool.or_eq_false_iff, Option.isNone_some, Option.isSome_some, Option.isNone_none, Option.isSome_none, Int.not_lt, Int.not_le, beq_iff_eq, beq_eq_false_iff_ne, bne_iff_ne, ne_eq, Bool.not_not, Decidable.not_not] at h8
    have hok : 1 ≤ n ∧ n ≤ 8 := h8
    have hv : depV n = (((depP n.toNat n.toNat : Nat) : Int), 0) := if_pos hok
    obtain ⟨g1, g2⟩ := hok
    obtain ⟨n, rfl⟩ : ∃ n' : Nat, n = (n' : Int) := ⟨n.toNat, by omega⟩
    refine J.condF rfl rfl ?_
    refine J.skip rfl ?_
    refine J.seq rfl ?_
    refine J.region rfl ?_
    refine JO.pur rfl rfl rfl (Pur.assign rfl) ?_
    refine JO.nil ?_
    refine J.seq rfl ?_
    refine J.seq rfl ?_
    refine J.region rfl ?_
    refine JO.pur rfl rfl rfl (Pur.move rfl) ?_
    refine JO.pur rfl rfl rfl (Pur.move rfl) ?_
    refine JO.nil ?_
    refine J.block rfl ?_
    refine J.loopF (ι := Nat) (fun k => k ≤ n) (fun k => [(4, .int .i64 ((depP n k : Nat) : Int)), (10, .int .i64 (k : Int))]) [(9, _)] (fun k => L) (fun k => n - k) 0 rfl (.cons rfl rfl .nil) (.cons rfl rfl (.cons rfl rfl .nil)) (by first | exact fun _ h => h | exact SubC.out | (dsimp only; exact SubC.out)) (Nat.zero_le _) ?_
    rintro k hk ihk
    try dsimp only
    refine J.seq rfl ?_
    refine J.region rfl ?_
    refine JO.pur rfl rfl rfl (Pur.lss rfl rfl) ?_
    refine JO.nil ?_
    refine J.seq rfl ?_
    refine J.splitB 11 rfl (fun h11 => ?_) (fun h11 => ?_)
    · try simp only [decide_eq_true_eq, decide_eq_false_iff_not, Bool.not_eq_true', Bool.not_eq_false', Bool.and_eq_true, Bool.or_eq_true, Bool.and_eq_false_iff, Bool.or_eq_false_iff, Option.isNone_some, Option.isSome_some, Option.isNone_none, Option.isSome_none, Int.not_lt, Int.not_le, beq_iff_eq, beq_eq_false_iff_ne, bne_iff_ne, ne_eq, Bool.not_not, Decidable.not_not] at h11
      have hkn : k < n := by omega
      refine J.condT rfl rfl ?_
      refine J.skip rfl ?_
      refine J.seq rfl ?_
      refine J.block rfl ?_
      refine J.seq rfl ?_
      refine J.region rfl ?_
      refine JO.pur rfl rfl rfl (Pur.move rfl) ?_
      refine JO.pur rfl rfl rfl (Pur.assign rfl) ?_
      refine JO.nil ?_
      refine J.region rfl ?_
      refine JO.pur rfl rfl rfl (Pur.move rfl) ?_
      refine JO.pur rfl rfl rfl (Pur.move rfl) ?_
      refine JO.pur rfl rfl rfl (Pur.convI rfl (wrU64' (by omega))) ?_
      refine JO.effR rfl rfl rfl (Eff.call rfl (count_ok (x := k) (by omega))) ?_
      refine JO.pur rfl rfl rfl (Pur.max2 rfl rfl) ?_
      refine JO.setv (u' := .int .i64 ((depP n (k + 1) : Nat) : Int)) 17 rfl (congrArg (Value.int .i64) (max_nat _ _)) ?_
      refine JO.pur rfl rfl rfl (Pur.assign rfl) ?_
      refine JO.nil ?_
      refine J.inBlock ?_
      refine J.region rfl ?_
      refine JO.pur rfl rfl rfl (Pur.add rfl rfl (wr64 (by omega))) ?_
      refine JO.pur rfl rfl rfl (Pur.move rfl) ?_
      refine JO.nil ?_
      exact J.weaken (.cons rfl rfl (.cons rfl (congrArg (Value.int .i64) (by first | rfl | (dsimp only; omega))) (.cons rfl rfl .nil))) (by first | exact fun _ h => h | exact SubC.out | (dsimp only; exact SubC.out)) (ihk (k + 1) (by omega) (by omega))
    · try simp only [decide_eq_true_eq, decide_eq_false_iff_not, Bool.not_eq_true', Bool.not_eq_false', Bool.and_eq_true, Bool.or_eq_true, Bool.and_eq_false_iff, Bool.or_eq_false_iff, Option.isNone_some, Option.isSome_some, Option.isNone_none, Option.isSome_none, Int.not_lt, Int.not_le, beq_iff_eq, beq_eq_false_iff_ne, bne_iff_ne, ne_eq, Bool.not_not, Decidable.not_not] at h11
      have hke : k = n := by omega
      refine J.condF rfl rfl ?_
      refine J.exit rfl rfl ?_
      refine J.seq rfl ?_
      refine J.region rfl ?_
      refine JO.pur rfl rfl rfl (Pur.move rfl) ?_
      refine JO.pur rfl rfl rfl (Pur.assign rfl) ?_
      refine JO.pur rfl rfl rfl (Pur.assign rfl) ?_
      refine JO.nil ?_
      refine J.ret rfl rfl ?_
      subst hke
      refine ⟨_, _, ⟨rfl, rfl⟩, by rw [hv]; rfl, SubC.out⟩

theorem rDepth_ok {L : List Asn} {n : Int} :
    CallS Try.prog 31 [.int .i64 n].toArray L (fun v M => v = .tuple #[.int .i64 (depV n).1, .int .i64 (depV n).2] ∧ M = L) := by
  refine CallS.ent ?_
  refine CallS.enter Try.func31 rfl rfl rfl rfl rfl ?_
  refine J.seq rfl ?_
  refine J.region rfl ?_
  refine JO.pur rfl rfl rfl (Pur.assign rfl) ?_
  refine JO.pur rfl rfl rfl (Pur.assign rfl) ?_
  refine JO.nil ?_
  refine J.seq rfl ?_
  refine J.seq rfl ?_
  refine J.region rfl ?_
  refine JO.pur rfl rfl rfl (Pur.move rfl) ?_
  refine JO.pur rfl rfl rfl (Pur.lss rfl rfl) ?_
  refine JO.pur rfl rfl rfl (Pur.move rfl) ?_
  refine JO.splitB 10 rfl (fun h10 => ?_) (fun h10 => ?_)
  · try simp only [decide_eq_true_eq, decide_eq_false_iff_not, Bool.not_eq_true', Bool.not_eq_false', Bool.and_eq_true, Bool.or_eq_true, Bool.and_eq_false_iff, Bool.or_eq_false_iff, Option.isNone_some, Option.isSome_some, Option.isNone_none, Option.isSome_none, Int.not_lt, Int.not_le, beq_iff_eq, beq_eq_false_iff_ne, bne_iff_ne, ne_eq, Bool.not_not, Decidable.not_not] at h10
    have hv : depV n = (0, 2) := if_neg (by omega)
    refine JO.no rfl rfl rfl ?_
    refine JO.no rfl rfl rfl ?_
    refine JO.pur rfl rfl rfl (Pur.pickT rfl rfl) ?_
    refine JO.nil ?_
    refine J.condT rfl rfl ?_
    refine J.seq rfl ?_
    refine J.region rfl ?_
    refine JO.pur rfl rfl rfl (Pur.assign rfl) ?_
    refine JO.pur rfl rfl rfl (Pur.assign rfl) ?_
    refine JO.nil ?_
    refine J.ret rfl rfl ?_
    refine ⟨_, _, ⟨rfl, rfl⟩, by rw [hv]; rfl, SubC.out⟩
  · try simp only [decide_eq_true_eq, decide_eq_false_iff_not, Bool.not_eq_true', Bool.not_eq_false', Bool.and_eq_true, Bool.or_eq_true, Bool.and_eq_false_iff, Bool.or_eq_false_iff, Option.isNone_some, Option.isSome_some, Option.isNone_none, Option.isSome_none, Int.not_lt, Int.not_le, beq_iff_eq, beq_eq_false_iff_ne, bne_iff_ne, ne_eq, Bool.not_not, Decidable.not_not] at h10
    refine JO.pur rfl rfl rfl (Pur.move rfl) ?_
    refine JO.pur rfl rfl rfl (Pur.gtr rfl rfl) ?_
    refine JO.pur rfl rfl rfl (Pur.pickF rfl rfl) ?_
    refine JO.nil ?_
    refine J.splitB 13 rfl (fun h13 => ?_) (fun h13 => ?_)
    · try simp only [decide_eq_true_eq, decide_eq_false_iff_not, Bool.not_eq_true', Bool.not_eq_false', Bool.and_eq_true, Bool.or_eq_true, Bool.and_eq_false_iff, Bool.or_eq_false_iff, Option.isNone_some, Option.isSome_some, Option.isNone_none, Option.isSome_none, Int.not_lt, Int.not_le, beq_iff_eq, beq_eq_false_iff_ne, bne_iff_ne, ne_eq, Bool.not_not, Decidable.not_not] at h13
      have hv : depV n = (0, 2) := if_neg (by omega)
      refine J.condT rfl rfl ?_
      refine J.seq rfl ?_
      refine J.region rfl ?_
      refine JO.pur rfl rfl rfl (Pur.assign rfl) ?_
      refine JO.pur rfl rfl rfl (Pur.assign rfl) ?_
      refine JO.nil ?_
      refine J.ret rfl rfl ?_
      refine ⟨_, _, ⟨rfl, rfl⟩, by rw [hv]; rfl, SubC.out⟩
    · try simp only [decide_eq_true_eq, decide_eq_false_iff_not, Bool.not_eq_true', Bool.not_eq_false', Bool.and_eq_true, Bool.or_eq_true, Bool.and_eq_false_iff, Bool.or_eq_false_iff, Option.isNone_some, Option.isSome_some, Option.isNone_none, Option.isSome_none, Int.not_lt, Int.not_le, beq_iff_eq, beq_eq_false_iff_ne, bne_iff_ne, ne_eq, Bool.not_not, Decidable.not_not] at h13
      have hok : 1 ≤ n ∧ n ≤ 8 := by omega
      have hv : depV n = (((depP n.toNat n.toNat : Nat) : Int), 0) := if_pos hok
      obtain ⟨g1, g2⟩ := hok
      obtain ⟨n, rfl⟩ : ∃ n' : Nat, n = (n' : Int) := ⟨n.toNat, by omega⟩
      have hde := dep_eq n (by omega) (by omega)
      refine J.condF rfl rfl ?_
      refine J.skip rfl ?_
      refine J.seq rfl ?_
      refine J.region rfl ?_
      refine JO.pur rfl rfl rfl (Pur.assign rfl) ?_
      refine JO.nil ?_
      refine J.seq rfl ?_
      refine J.seq rfl ?_
      refine J.region rfl ?_
      refine JO.pur rfl rfl rfl (Pur.assign rfl) ?_
      refine JO.nil ?_
      refine J.block rfl ?_
      refine J.loopF (ι := Nat) (fun k => k + 1 ≤ n) (fun k => [(4, .int .i64 ((depR n k : Nat) : Int)), (5, .int .i64 ((k + 1 : Nat) : Int))]) [(0, _)] (fun k => L) (fun k => n - k) 0 rfl (.cons rfl rfl .nil) (.cons rfl rfl (.cons rfl rfl .nil)) (by first | exact fun _ h => h | exact SubC.out | (dsimp only; exact SubC.out)) (by omega) ?_
      rintro k hk ihk
      try dsimp only
      refine J.seq rfl ?_
      refine J.seq rfl ?_
      refine J.region rfl ?_
      refine JO.pur rfl rfl rfl (Pur.move rfl) ?_
      refine JO.pur rfl rfl rfl (Pur.move rfl) ?_
      refine JO.pur rfl rfl rfl (Pur.lss rfl rfl) ?_
      refine JO.nil ?_
      refine J.splitB 16 rfl (fun h16 => ?_) (fun h16 => ?_)
      · try simp only [decide_eq_true_eq, decide_eq_false_iff_not, Bool.not_eq_true', Bool.not_eq_false', Bool.and_eq_true, Bool.or_eq_true, Bool.and_eq_false_iff, Bool.or_eq_false_iff, Option.isNone_some, Option.isSome_some, Option.isNone_none, Option.isSome_none, Int.not_lt, Int.not_le, beq_iff_eq, beq_eq_false_iff_ne, bne_iff_ne, ne_eq, Bool.not_not, Decidable.not_not] at h16
        have hkn : k + 1 < n := by omega
        refine J.condT rfl rfl ?_
        refine J.skip rfl ?_
        refine J.seq rfl ?_
        refine J.block rfl ?_
        refine J.seq rfl ?_
        refine J.region rfl ?_
        refine JO.pur rfl rfl rfl (Pur.assign rfl) ?_
        refine JO.nil ?_
        refine J.seq rfl ?_
        refine J.seq rfl ?_
        refine J.region rfl ?_
        refine JO.pur rfl rfl rfl (Pur.move rfl) ?_
        refine JO.pur rfl rfl rfl (Pur.assign rfl) ?_
        refine JO.nil ?_
        refine J.block rfl ?_
        refine J.loopF (ι := Nat × Nat) (fun z => z.2 < n ∧ far 4 n (k + 1) = z.1 + far (4 - z.1) n z.2 ∧ ones 4 z.2 + z.1 ≤ 3) (fun z => [(6, .int .i64 (z.1 : Int)), (7, .int .i64 (z.2 : Int))]) [(0, _), (4, _), (5, _)] (fun z => L) (fun z => 4 - z.1) (0, k + 1) rfl (.cons rfl rfl (.cons rfl rfl (.cons rfl rfl .nil))) (.cons rfl rfl (.cons rfl rfl .nil)) (by first | exact fun _ h => h | exact SubC.out | (dsimp only; exact SubC.out)) ⟨by dsimp only; omega, (Nat.zero_add _).symm, by have := ones_le (k + 1) (by omega); dsimp only; omega⟩ ?_
        rintro ⟨j, q⟩ ⟨hq, hfa, ho3⟩ ihj
        try dsimp only
        dsimp only at hq hfa ho3
        refine J.seq rfl ?_
        refine J.seq rfl ?_
        refine J.region rfl ?_
        refine JO.pur rfl rfl rfl (Pur.move rfl) ?_
        refine JO.pur rfl rfl rfl (Pur.neqI rfl rfl) ?_
        refine JO.nil ?_
        refine J.splitB 21 rfl (fun h21 => ?_) (fun h21 => ?_)
        · try simp only [decide_eq_true_eq, decide_eq_false_iff_not, Bool.not_eq_true', Bool.not_eq_false', Bool.and_eq_true, Bool.or_eq_true, Bool.and_eq_false_iff, Bool.or_eq_false_iff, Option.isNone_some, Option.isSome_some, Option.isNone_none, Option.isSome_none, Int.not_lt, Int.not_le, beq_iff_eq, beq_eq_false_iff_ne, bne_iff_ne, ne_eq, Bool.not_not, Decidable.not_not] at h21
          have hq0 : q ≠ 0 := by omega
          have ho1 := ones_par n (by omega) q hq hq0
          have hfa2 : far 4 n (k + 1) = (j + 1) + far (4 - (j + 1)) n (parR n 0 q) := by
            rw [hfa, show 4 - j = (4 - (j + 1)) + 1 by omega]
            conv => lhs; unfold far
            rw [if_neg hq0]; omega
          have hpv : parV (n : Int) (0 : Int) (q : Int) = (((parR n 0 q : Nat) : Int), 0) := by
            unfold parV
            rw [if_pos ⟨by unfold tOk; omega, by omega⟩]
            show (((parP n 0 q : Nat) : Int), (0 : Int)) = _
            rw [par_eq n (by omega) 0 (by omega) _ hq hq0]
          refine J.condT rfl rfl ?_
          refine J.skip rfl ?_
          refine J.seq rfl ?_
          refine J.block rfl ?_
          refine J.region rfl ?_
          refine JO.pur rfl rfl rfl (Pur.move rfl) ?_
          refine JO.pur rfl rfl rfl (Pur.move rfl) ?_
          refine JO.effR rfl rfl rfl (Eff.call rfl (rParent_ok (n := (n : Int)) (root := 0) (q := (q : Int)))) ?_
          rw [hpv]
          refine JO.pur rfl rfl rfl (Pur.move rfl) ?_
          refine JO.pur rfl rfl rfl (Pur.extract rfl rfl) ?_
          refine JO.pur rfl rfl rfl (Pur.extract rfl rfl) ?_
          refine JO.pur rfl rfl rfl (Pur.assign rfl) ?_
          refine JO.nil ?_
          refine J.inBlock ?_
          refine J.region rfl ?_
          refine JO.pur rfl rfl rfl (Pur.move rfl) ?_
          refine JO.pur rfl rfl rfl (Pur.add rfl rfl (wr64 (by omega))) ?_
          refine JO.pur rfl rfl rfl (Pur.assign rfl) ?_
          refine JO.nil ?_
          exact J.weaken (.cons rfl (congrArg (Value.int .i64) (by first | rfl | (dsimp only; omega))) (.cons rfl rfl (.cons rfl rfl (.cons rfl rfl (.cons rfl rfl .nil))))) (by first | exact fun _ h => h | exact SubC.out | (dsimp only; exact SubC.out)) (ihj (j + 1, parR n 0 q) ⟨ho1.2, hfa2, by dsimp only; omega⟩ (by dsimp only; omega))
        · try simp only [decide_eq_true_eq, decide_eq_false_iff_not, Bool.not_eq_true', Bool.not_eq_false', Bool.and_eq_true, Bool.or_eq_true, Bool.and_eq_false_iff, Bool.or_eq_false_iff, Option.isNone_some, Option.isSome_some, Option.isNone_none, Option.isSome_none, Int.not_lt, Int.not_le, beq_iff_eq, beq_eq_false_iff_ne, bne_iff_ne, ne_eq, Bool.not_not, Decidable.not_not] at h21
          have hq0 : q = 0 := by omega
          have hfj : far 4 n (k + 1) = j := by
            rw [hfa, hq0]
            have : far (4 - j) n 0 = 0 := by cases (4 - j) <;> simp [far]
            omega
          refine J.condF rfl rfl ?_
          refine J.exit rfl rfl ?_
          refine J.region rfl ?_
          refine JO.pur rfl rfl rfl (Pur.move rfl) ?_
          refine JO.pur rfl rfl rfl (Pur.move rfl) ?_
          refine JO.pur rfl rfl rfl (Pur.max2 rfl rfl) ?_
          refine JO.setv (u' := .int .i64 ((depR n (k + 1) : Nat) : Int)) 32 rfl (congrArg (Value.int .i64) (by rw [show depR n (k + 1) = max (depR n k) (far 4 n (k + 1)) from rfl, hfj]; exact max_nat _ _)) ?_
          refine JO.pur rfl rfl rfl (Pur.assign rfl) ?_
          refine JO.nil ?_
          refine J.inBlock ?_
          refine J.region rfl ?_
          refine JO.pur rfl rfl rfl (Pur.move rfl) ?_
          refine JO.pur rfl rfl rfl (Pur.add rfl rfl (wr64 (by omega))) ?_
          refine JO.pur rfl rfl rfl (Pur.assign rfl) ?_
          refine JO.nil ?_
          exact J.weaken (.cons rfl rfl (.cons rfl (congrArg (Value.int .i64) (by first | rfl | (dsimp only; omega))) (.cons rfl rfl .nil))) (by first | exact fun _ h => h | exact SubC.out | (dsimp only; exact SubC.out)) (ihk (k + 1) (by omega) (by omega))
      · try simp only [decide_eq_true_eq, decide_eq_false_iff_not, Bool.not_eq_true', Bool.not_eq_false', Bool.and_eq_true, Bool.or_eq_true, Bool.and_eq_false_iff, Bool.or_eq_false_iff, Option.isNone_some, Option.isSome_some, Option.isNone_none, Option.isSome_none, Int.not_lt, Int.not_le, beq_iff_eq, beq_eq_false_iff_ne, bne_iff_ne, ne_eq, Bool.not_not, Decidable.not_not] at h16
        have hke : k = n - 1 := by omega
        refine J.condF rfl rfl ?_
        refine J.exit rfl rfl ?_
        refine J.seq rfl ?_
        refine J.region rfl ?_
        refine JO.pur rfl rfl rfl (Pur.move rfl) ?_
        refine JO.pur rfl rfl rfl (Pur.assign rfl) ?_
        refine JO.pur rfl rfl rfl (Pur.assign rfl) ?_
        refine JO.nil ?_
        refine J.ret rfl rfl ?_
        refine ⟨_, _, ⟨rfl, rfl⟩, by rw [hv]; show Value.tuple #[.int .i64 ((depR n k : Nat) : Int), .int .i64 0] = Value.tuple #[.int .i64 ((depP n n : Nat) : Int), .int .i64 0]; rw [hde, hke], SubC.out⟩

theorem rKind_ok {L : List Asn} {t : ByteArray} :
    CallS Try.prog 46 [.string t].toArray L (fun v M => v = .bool (decide (t ∈ kinds)) ∧ M = L) := by
  refine CallS.ent ?_
  refine CallS.enter Try.func46 rfl rfl rfl rfl rfl ?_
  refine J.seq rfl ?_
  refine J.region rfl ?_
  refine JO.pur rfl rfl rfl (Pur.assign rfl) ?_
  refine JO.nil ?_
  refine J.seq rfl ?_
  refine J.region rfl ?_
  refine JO.pur rfl rfl rfl (Pur.move rfl) ?_
  refine JO.pur rfl rfl rfl (Pur.eqlT rfl rfl) ?_
  refine JO.pur rfl rfl rfl (Pur.move rfl) ?_
  refine JO.splitB 5 rfl (fun h5 => ?_) (fun h5 => ?_)
  · try simp only [decide_eq_true_eq, decide_eq_false_iff_not, Bool.not_eq_true', Bool.not_eq_false', Bool.and_eq_true, Bool.or_eq_true, Bool.and_eq_false_iff, Bool.or_eq_false_iff, Option.isNone_some, Option.isSome_some, Option.isNone_none, Option.isSome_none, Int.not_lt, Int.not_le, beq_iff_eq, beq_eq_false_iff_ne, bne_iff_ne, ne_eq, Bool.not_not, Decidable.not_not] at h5
    refine JO.no rfl rfl rfl ?_
    refine JO.no rfl rfl rfl ?_
    refine JO.pur rfl rfl rfl (Pur.pickT rfl rfl) ?_
    refine JO.pur rfl rfl rfl (Pur.move rfl) ?_
    refine JO.no rfl rfl rfl ?_
    refine JO.no rfl rfl rfl ?_
    refine JO.pur rfl rfl rfl (Pur.pickT rfl rfl) ?_
    refine JO.pur rfl rfl rfl (Pur.move rfl) ?_
    refine JO.no rfl rfl rfl ?_
    refine JO.no rfl rfl rfl ?_
    refine JO.pur rfl rfl rfl (Pur.pickT rfl rfl) ?_
    refine JO.pur rfl rfl rfl (Pur.move rfl) ?_
    refine JO.no rfl rfl rfl ?_
    refine JO.no rfl rfl rfl ?_
    refine JO.pur rfl rfl rfl (Pur.pickT rfl rfl) ?_
    refine JO.pur rfl rfl rfl (Pur.assign rfl) ?_
    refine JO.nil ?_
    refine J.ret rfl rfl ?_
    refine ⟨_, _, ⟨rfl, rfl⟩, congrArg Value.bool (by simp_all [kinds]), SubC.out⟩
  · try simp only [decide_eq_true_eq, decide_eq_false_iff_not, Bool.not_eq_true', Bool.not_eq_false', Bool.and_eq_true, Bool.or_eq_true, Bool.and_eq_false_iff, Bool.or_eq_false_iff, Option.isNone_some, Option.isSome_some, Option.isNone_none, Option.isSome_none, Int.not_lt, Int.not_le, beq_iff_eq, beq_eq_false_iff_ne, bne_iff_ne, ne_eq, Bool.not_not, Decidable.not_not] at h5
    refine JO.pur rfl rfl rfl (Pur.move rfl) ?_
    refine JO.pur rfl rfl rfl (Pur.eqlT rfl rfl) ?_
    refine JO.pur rfl rfl rfl (Pur.pickF rfl rfl) ?_
    refine JO.pur rfl rfl rfl (Pur.move rfl) ?_
    refine JO.splitB 9 rfl (fun h9 => ?_) (fun h9 => ?_)
    · try simp only [decide_eq_true_eq, decide_eq_false_iff_not, Bool.not_eq_true', Bool.not_eq_false', Bool.and_eq_true, Bool.or_eq_true, Bool.and_eq_false_iff, Bool.or_eq_false_iff, Option.isNone_some, Option.isSome_some, Option.isNone_none, Option.isSome_none, Int.not_lt, Int.not_le, beq_iff_eq, beq_eq_false_iff_ne, bne_iff_ne, ne_eq, Bool.not_not, Decidable.not_not] at h9
      refine JO.no rfl rfl rfl ?_
      refine JO.no rfl rfl rfl ?_
      refine JO.pur rfl rfl rfl (Pur.pickT rfl rfl) ?_
      refine JO.pur rfl rfl rfl (Pur.move rfl) ?_
      refine JO.no rfl rfl rfl ?_
      refine JO.no rfl rfl rfl ?_
      refine JO.pur rfl rfl rfl (Pur.pickT rfl rfl) ?_
      refine JO.pur rfl rfl rfl (Pur.move rfl) ?_
      refine JO.no rfl rfl rfl ?_
      refine JO.no rfl rfl rfl ?_
      refine JO.pur rfl rfl rfl (Pur.pickT rfl rfl) ?_
      refine JO.pur rfl rfl rfl (Pur.assign rfl) ?_
      refine JO.nil ?_
      refine J.ret rfl rfl ?_
      refine ⟨_, _, ⟨rfl, rfl⟩, congrArg Value.bool (by simp_all [kinds]), SubC.out⟩
    · try simp only [decide_eq_true_eq, decide_eq_false_iff_not, Bool.not_eq_true', Bool.not_eq_false', Bool.and_eq_true, Bool.or_eq_true, Bool.and_eq_false_iff, Bool.or_eq_false_iff, Option.isNone_some, Option.isSome_some, Option.isNone_none, Option.isSome_none, Int.not_lt, Int.not_le, beq_iff_eq, beq_eq_false_iff_ne, bne_iff_ne, ne_eq, Bool.not_not, Decidable.not_not] at h9
      refine JO.pur rfl rfl rfl (Pur.move rfl) ?_
      refine JO.pur rfl rfl rfl (Pur.eqlT rfl rfl) ?_
      refine JO.pur rfl rfl rfl (Pur.pickF rfl rfl) ?_
      refine JO.pur rfl rfl rfl (Pur.move rfl) ?_
      refine JO.splitB 13 rfl (fun h13 => ?_) (fun h13 => ?_)
      · try simp only [decide_eq_true_eq, decide_eq_false_iff_not, Bool.not_eq_true', Bool.not_eq_false', Bool.and_eq_true, Bool.or_eq_true, Bool.and_eq_false_iff, Bool.or_eq_false_iff, Option.isNone_some, Option.isSome_some, Option.isNone_none, Option.isSome_none, Int.not_lt, Int.not_le, beq_iff_eq, beq_eq_false_iff_ne, bne_iff_ne, ne_eq, Bool.not_not, Decidable.not_not] at h13
        refine JO.no rfl rfl rfl ?_
        refine JO.no rfl rfl rfl ?_
        refine JO.pur rfl rfl rfl (Pur.pickT rfl rfl) ?_
        refine JO.pur rfl rfl rfl (Pur.move rfl) ?_
        refine JO.no rfl rfl rfl ?_
        refine JO.no rfl rfl rfl ?_
        refine JO.pur rfl rfl rfl (Pur.pickT rfl rfl) ?_
        refine JO.pur rfl rfl rfl (Pur.assign rfl) ?_
        refine JO.nil ?_
        refine J.ret rfl rfl ?_
        refine ⟨_, _, ⟨rfl, rfl⟩, congrArg Value.bool (by simp_all [kinds]), SubC.out⟩
      · try simp only [decide_eq_true_eq, decide_eq_false_iff_not, Bool.not_eq_true', Bool.not_eq_false', Bool.and_eq_true, Bool.or_eq_true, Bool.and_eq_false_iff, Bool.or_eq_false_iff, Option.isNone_some, Option.isSome_some, Option.isNone_none, Option.isSome_none, Int.not_lt, Int.not_le, beq_iff_eq, beq_eq_false_iff_ne, bne_iff_ne, ne_eq, Bool.not_not, Decidable.not_not] at h13
        refine JO.pur rfl rfl rfl (Pur.move rfl) ?_
        refine JO.pur rfl rfl rfl (Pur.eqlT rfl rfl) ?_
        refine JO.pur rfl rfl rfl (Pur.pickF rfl rfl) ?_
        refine JO.pur rfl rfl rfl (Pur.move rfl) ?_
        refine JO.splitB 17 rfl (fun h17 => ?_) (fun h17 => ?_)
        · try simp only [decide_eq_true_eq, decide_eq_false_iff_not, Bool.not_eq_true', Bool.not_eq_false', Bool.and_eq_true, Bool.or_eq_true, Bool.and_eq_false_iff, Bool.or_eq_false_iff, Option.isNone_some, Option.isSome_some, Option.isNone_none, Option.isSome_none, Int.not_lt, Int.not_le, beq_iff_eq, beq_eq_false_iff_ne, bne_iff_ne, ne_eq, Bool.not_not, Decidable.not_not] at h17
          refine JO.no rfl rfl rfl ?_
          refine JO.no rfl rfl rfl ?_
          refine JO.pur rfl rfl rfl (Pur.pickT rfl rfl) ?_
          refine JO.pur rfl rfl rfl (Pur.assign rfl) ?_
          refine JO.nil ?_
          refine J.ret rfl rfl ?_
          refine ⟨_, _, ⟨rfl, rfl⟩, congrArg Value.bool (by simp_all [kinds]), SubC.out⟩
        · try simp only [decide_eq_true_eq, decide_eq_false_iff_not, Bool.not_eq_true', Bool.not_eq_false', Bool.and_eq_true, Bool.or_eq_true, Bool.and_eq_false_iff, Bool.or_eq_false_iff, Option.isNone_some, Option.isSome_some, Option.isNone_none, Option.isSome_none, Int.not_lt, Int.not_le, beq_iff_eq, beq_eq_false_iff_ne, bne_iff_ne, ne_eq, Bool.not_not, Decidable.not_not] at h17
          refine JO.pur rfl rfl rfl (Pur.move rfl) ?_
          refine JO.pur rfl rfl rfl (Pur.eqlT rfl rfl) ?_
          refine JO.pur rfl rfl rfl (Pur.pickF rfl rfl) ?_
          refine JO.pur rfl rfl rfl (Pur.assign rfl) ?_
          refine JO.nil ?_
          refine J.ret rfl rfl ?_
          refine ⟨_, _, ⟨rfl, rfl⟩, congrArg Value.bool (by simp_all [kinds]), SubC.out⟩

theorem Messages_ok {L : List Asn} {t : ByteArray} {n : Int} :
    CallS Try.prog 28 [.string t, .int .i64 n].toArray L (fun v M => v = .tuple #[.int .i64 (cntV t n).1, .int .i64 (cntV t n).2] ∧ M = L) := by
  refine CallS.ent ?_
  refine CallS.enter Try.func28 rfl rfl rfl rfl rfl ?_
  refine J.seq rfl ?_
  refine J.region rfl ?_
  refine JO.pur rfl rfl rfl (Pur.assign rfl) ?_
  refine JO.pur rfl rfl rfl (Pur.assign rfl) ?_
  refine JO.nil ?_
  refine J.seq rfl ?_
  refine J.seq rfl ?_
  refine J.region rfl ?_
  refine JO.pur rfl rfl rfl (Pur.move rfl) ?_
  refine JO.effR rfl rfl rfl (Eff.call rfl (isKind_ok (t := t))) ?_
  refine JO.pur rfl rfl rfl (Pur.not rfl) ?_
  refine JO.pur rfl rfl rfl (Pur.move rfl) ?_
  refine JO.splitB 11 rfl (fun h11 => ?_) (fun h11 => ?_)
  · try simp only [decide_eq_true_eq, decide_eq_false_iff_not, Bool.not_eq_true', Bool.not_eq_false', Bool.and_eq_true, Bool.or_eq_true, Bool.and_eq_false_iff, Bool.or_eq_false_iff, Option.isNone_some, Option.isSome_some, Option.isNone_none, Option.isSome_none, Int.not_lt, Int.not_le, beq_iff_eq, beq_eq_false_iff_ne, bne_iff_ne, ne_eq, Bool.not_not, Decidable.not_not] at h11
    have hv : cntV t n = (0, 2) := if_neg (fun g => by obtain ⟨g1, g2, g3⟩ := g; simp_all <;> omega)
    refine JO.no rfl rfl rfl ?_
    refine JO.no rfl rfl rfl ?_
    refine JO.no rfl rfl rfl ?_
    refine JO.pur rfl rfl rfl (Pur.pickT rfl rfl) ?_
    refine JO.nil ?_
    refine J.condT rfl rfl ?_
    refine J.seq rfl ?_
    refine J.region rfl ?_
    refine JO.pur rfl rfl rfl (Pur.assign rfl) ?_
    refine JO.pur rfl rfl rfl (Pur.assign rfl) ?_
    refine JO.nil ?_
    refine J.ret rfl rfl ?_
    refine ⟨_, _, ⟨rfl, rfl⟩, by rw [hv]; rfl, SubC.out⟩
  · try simp only [decide_eq_true_eq, decide_eq_false_iff_not, Bool.not_eq_true', Bool.not_eq_false', Bool.and_eq_true, Bool.or_eq_true, Bool.and_eq_false_iff, Bool.or_eq_false_iff, Option.isNone_some, Option.isSome_some, Option.isNone_none, Option.isSome_none, Int.not_lt, Int.not_le, beq_iff_eq, beq_eq_false_iff_ne, bne_iff_ne, ne_eq, Bool.not_not, Decidable.not_not] at h11
    refine JO.pur rfl rfl rfl (Pur.move rfl) ?_
    refine JO.effR rfl rfl rfl (Eff.call rfl (isSize_ok (n := n))) ?_
    refine JO.pur rfl rfl rfl (Pur.not rfl) ?_
    refine JO.pur rfl rfl rfl (Pur.pickF rfl rfl) ?_
    refine JO.nil ?_
    refine J.splitB 15 rfl (fun h15 => ?_) (fun h15 => ?_)
    · try simp only [decide_eq_true_eq, decide_eq_false_iff_not, Bool.not_eq_true', Bool.not_eq_false', Bool.and_eq_true, Bool.or_eq_true, Bool.and_eq_false_iff, Bool.or_eq_false_iff, Option.isNone_some, Option.isSome_some, Option.isNone_none, Option.isSome_none, Int.not_lt, Int.not_le, beq_iff_eq, beq_eq_false_iff_ne, bne_iff_ne, ne_eq, Bool.not_not, Decidable.not_not] at h15
      have hv : cntV t n = (0, 2) := if_neg (fun g => by obtain ⟨g1, g2, g3⟩ := g; simp_all <;> omega)
      refine J.condT rfl rfl ?_
      refine J.seq rfl ?_
      refine J.region rfl ?_
      refine JO.pur rfl rfl rfl (Pur.assign rfl) ?_
      refine JO.pur rfl rfl rfl (Pur.assign rfl) ?_
      refine JO.nil ?_
      refine J.ret rfl rfl ?_
      refine ⟨_, _, ⟨rfl, rfl⟩, by rw [hv]; rfl, SubC.out⟩
    · try simp only [decide_eq_true_eq, decide_eq_false_iff_not, Bool.not_eq_true', Bool.not_eq_false', Bool.and_eq_true, Bool.or_eq_true, Bool.and_eq_false_iff, Bool.or_eq_false_iff, Option.isNone_some, Option.isSome_some, Option.isNone_none, Option.isSome_none, Int.not_lt, Int.not_le, beq_iff_eq, beq_eq_false_iff_ne, bne_iff_ne, ne_eq, Bool.not_not, Decidable.not_not] at h15
      have hkd : t ∈ kinds := by simp_all
      have hn1 : 1 ≤ n := by simp_all <;> omega
      have hn8 : n ≤ 8 := by simp_all <;> omega
      have hv : cntV t n = (if t = ⟨#[99, 97, 115, 116]⟩ ∨ t = ⟨#[114, 101, 100, 117, 99, 101]⟩ then n - 1 else if t = ⟨#[97, 108, 108]⟩ ∨ t = ⟨#[98, 97, 114, 114, 105, 101, 114]⟩ then 2 * (n - 1) else scm 4 n 1 0, 0) := if_pos ⟨hkd, by omega⟩
      refine J.condF rfl rfl ?_
      refine J.skip rfl ?_
      refine J.seq rfl ?_
      refine J.seq rfl ?_
      refine J.region rfl ?_
      refine JO.pur rfl rfl rfl (Pur.move rfl) ?_
      refine JO.nil ?_
      refine J.block rfl ?_
      refine J.seq rfl ?_
      refine J.seq rfl ?_
      refine J.region rfl ?_
      refine JO.pur rfl rfl rfl (Pur.eqlT rfl rfl) ?_
      refine JO.pur rfl rfl rfl (Pur.assign rfl) ?_
      refine JO.nil ?_
      refine J.splitB 17 rfl (fun h17 => ?_) (fun h17 => ?_)
      · try simp only [decide_eq_true_eq, decide_eq_false_iff_not, Bool.not_eq_true', Bool.not_eq_false', Bool.and_eq_true, Bool.or_eq_true, Bool.and_eq_false_iff, Bool.or_eq_false_iff, Option.isNone_some, Option.isSome_some, Option.isNone_none, Option.isSome_none, Int.not_lt, Int.not_le, beq_iff_eq, beq_eq_false_iff_ne, bne_iff_ne, ne_eq, Bool.not_not, Decidable.not_not] at h17
        refine J.condT rfl rfl ?_
        refine J.skip rfl ?_
        refine J.condT rfl rfl ?_
        refine J.seq rfl ?_
        refine J.region rfl ?_
        refine JO.pur rfl rfl rfl (Pur.move rfl) ?_
        refine JO.pur rfl rfl rfl (Pur.sub rfl rfl (wr64 (by omega))) ?_
        refine JO.pur rfl rfl rfl (Pur.assign rfl) ?_
        refine JO.pur rfl rfl rfl (Pur.assign rfl) ?_
        refine JO.nil ?_
        refine J.ret rfl rfl ?_
        refine ⟨_, _, ⟨rfl, rfl⟩, ?_, SubC.out⟩
        rw [hv]
        try rw [hsf]
        simp_all <;> rfl
      · try simp only [decide_eq_true_eq, decide_eq_false_iff_not, Bool.not_eq_true', Bool.not_eq_false', Bool.and_eq_true, Bool.or_eq_true, Bool.and_eq_false_iff, Bool.or_eq_false_iff, Option.isNone_some, Option.isSome_some, Option.isNone_none, Option.isSome_none, Int.not_lt, Int.not_le, beq_iff_eq, beq_eq_false_iff_ne, bne_iff_ne, ne_eq, Bool.not_not, Decidable.not_not] at h17
        refine J.condF rfl rfl ?_
        refine J.region rfl ?_
        refine JO.pur rfl rfl rfl (Pur.eqlT rfl rfl) ?_
        refine JO.pur rfl rfl rfl (Pur.assign rfl) ?_
        refine JO.nil ?_
        refine J.splitB 17 rfl (fun h17 => ?_) (fun h17 => ?_)
        · try simp only [decide_eq_true_eq, decide_eq_false_iff_not, Bool.not_eq_true', Bool.not_eq_false', Bool.and_eq_true, Bool.or_eq_true, Bool.and_eq_false_iff, Bool.or_eq_false_iff, Option.isNone_some, Option.isSome_some, Option.isNone_none, Option.isSome_none, Int.not_lt, Int.not_le, beq_iff_eq, beq_eq_false_iff_ne, bne_iff_ne, ne_eq, Bool.not_not, Decidable.not_not] at h17
          refine J.condT rfl rfl ?_
          refine J.seq rfl ?_
          refine J.region rfl ?_
          refine JO.pur rfl rfl rfl (Pur.move rfl) ?_
          refine JO.pur rfl rfl rfl (Pur.sub rfl rfl (wr64 (by omega))) ?_
          refine JO.pur rfl rfl rfl (Pur.assign rfl) ?_
          refine JO.pur rfl rfl rfl (Pur.assign rfl) ?_
          refine JO.nil ?_
          refine J.ret rfl rfl ?_
          refine ⟨_, _, ⟨rfl, rfl⟩, ?_, SubC.out⟩
          rw [hv]
          try rw [hsf]
          simp_all <;> rfl
        · try simp only [decide_eq_true_eq, decide_eq_false_iff_not, Bool.not_eq_true', Bool.not_eq_false', Bool.and_eq_true, Bool.or_eq_true, Bool.and_eq_false_iff, Bool.or_eq_false_iff, Option.isNone_some, Option.isSome_some, Option.isNone_none, Option.isSome_none, Int.not_lt, Int.not_le, beq_iff_eq, beq_eq_false_iff_ne, bne_iff_ne, ne_eq, Bool.not_not, Decidable.not_not] at h17
          refine J.condF rfl rfl ?_
          refine J.seq rfl ?_
          refine J.seq rfl ?_
          refine J.region rfl ?_
          refine JO.pur rfl rfl rfl (Pur.eqlT rfl rfl) ?_
          refine JO.pur rfl rfl rfl (Pur.assign rfl) ?_
          refine JO.nil ?_
          refine J.splitB 22 rfl (fun h22 => ?_) (fun h22 => ?_)
          · try simp only [decide_eq_true_eq, decide_eq_false_iff_not, Bool.not_eq_true', Bool.not_eq_false', Bool.and_eq_true, Bool.or_eq_true, Bool.and_eq_false_iff, Bool.or_eq_false_iff, Option.isNone_some, Option.isSome_some, Option.isNone_none, Option.isSome_none, Int.not_lt, Int.not_le, beq_iff_eq, beq_eq_false_iff_ne, bne_iff_ne, ne_eq, Bool.not_not, Decidable.not_not] at h22
            refine J.condT rfl rfl ?_
            refine J.skip rfl ?_
            refine J.condT rfl rfl ?_
            refine J.seq rfl ?_
            refine J.region rfl ?_
            refine JO.pur rfl rfl rfl (Pur.move rfl) ?_
            refine JO.pur rfl rfl rfl (Pur.sub rfl rfl (wr64 (by omega))) ?_
            refine JO.pur rfl rfl rfl (Pur.mul rfl rfl (wr64 (by omega))) ?_
            refine JO.pur rfl rfl rfl (Pur.assign rfl) ?_
            refine JO.pur rfl rfl rfl (Pur.assign rfl) ?_
            refine JO.nil ?_
            refine J.ret rfl rfl ?_
            refine ⟨_, _, ⟨rfl, rfl⟩, ?_, SubC.out⟩
            rw [hv]
            try rw [hsf]
            simp_all <;> rfl
          · try simp only [decide_eq_true_eq, decide_eq_false_iff_not, Bool.not_eq_true', Bool.not_eq_false', Bool.and_eq_true, Bool.or_eq_true, Bool.and_eq_false_iff, Bool.or_eq_false_iff, Option.isNone_some, Option.isSome_some, Option.isNone_none, Option.isSome_none, Int.not_lt, Int.not_le, beq_iff_eq, beq_eq_false_iff_ne, bne_iff_ne, ne_eq, Bool.not_not, Decidable.not_not] at h22
            refine J.condF rfl rfl ?_
            refine J.region rfl ?_
            refine JO.pur rfl rfl rfl (Pur.eqlT rfl rfl) ?_
            refine JO.pur rfl rfl rfl (Pur.assign rfl) ?_
            refine JO.nil ?_
            refine J.splitB 22 rfl (fun h22 => ?_) (fun h22 => ?_)
            · try simp only [decide_eq_true_eq, decide_eq_false_iff_not, Bool.not_eq_true', Bool.not_eq_false', Bool.and_eq_true, Bool.or_eq_true, Bool.and_eq_false_iff, Bool.or_eq_false_iff, Option.isNone_some, Option.isSome_some, Option.isNone_none, Option.isSome_none, Int.not_lt, Int.not_le, beq_iff_eq, beq_eq_false_iff_ne, bne_iff_ne, ne_eq, Bool.not_not, Decidable.not_not] at h22
              refine J.condT rfl rfl ?_
              refine J.seq rfl ?_
              refine J.region rfl ?_
              refine JO.pur rfl rfl rfl (Pur.move rfl) ?_
              refine JO.pur rfl rfl rfl (Pur.sub rfl rfl (wr64 (by omega))) ?_
              refine JO.pur rfl rfl rfl (Pur.mul rfl rfl (wr64 (by omega))) ?_
              refine JO.pur rfl rfl rfl (Pur.assign rfl) ?_
              refine JO.pur rfl rfl rfl (Pur.assign rfl) ?_
              refine JO.nil ?_
              refine J.ret rfl rfl ?_
              refine ⟨_, _, ⟨rfl, rfl⟩, ?_, SubC.out⟩
              rw [hv]
              try rw [hsf]
              simp_all <;> rfl
            · try simp only [decide_eq_true_eq, decide_eq_false_iff_not, Bool.not_eq_true', Bool.not_eq_false', Bool.and_eq_true, Bool.or_eq_true, Bool.and_eq_false_iff, Bool.or_eq_false_iff, Option.isNone_some, Option.isSome_some, Option.isNone_none, Option.isSome_none, Int.not_lt, Int.not_le, beq_iff_eq, beq_eq_false_iff_ne, bne_iff_ne, ne_eq, Bool.not_not, Decidable.not_not] at h22
              refine J.condF rfl rfl ?_
              refine J.skip rfl ?_
              refine J.inBlock ?_
              refine J.seq rfl ?_
              refine J.region rfl ?_
              refine JO.pur rfl rfl rfl (Pur.assign rfl) ?_
              refine JO.nil ?_
              refine J.seq rfl ?_
              refine J.seq rfl ?_
              refine J.region rfl ?_
              refine JO.pur rfl rfl rfl (Pur.assign rfl) ?_
              refine JO.nil ?_
              refine J.block rfl ?_
              refine J.loopF (ι := Nat × Int × Int) (fun z => scm z.1 n z.2.1 z.2.2 = scm 4 n 1 0 ∧ ((z.1 = 4 ∧ z.2.1 = 1) ∨ (z.1 = 3 ∧ z.2.1 = 2) ∨ (z.1 = 2 ∧ z.2.1 = 4) ∨ (z.1 = 1 ∧ z.2.1 = 8) ∨ (z.1 = 0 ∧ z.2.1 = 16)) ∧ 0 ≤ z.2.2 ∧ z.2.2 + 8 * z.1 ≤ 32) (fun z => [(6, .int .i64 z.2.2), (7, .int .i64 z.2.1)]) [(1, _)] (fun z => L) (fun z => z.1) (4, 1, 0) rfl (.cons rfl rfl .nil) (.cons rfl rfl (.cons rfl rfl .nil)) (by first | exact fun _ h => h | exact SubC.out | (dsimp only; exact SubC.out)) ⟨rfl, .inl ⟨rfl, rfl⟩, by dsimp only; omega, by dsimp only; omega⟩ ?_
              rintro ⟨f, w, acc⟩ ⟨hsc, hfw, ha0, ha1⟩ ihf
              try dsimp only
              dsimp only at hsc hfw ha0 ha1
              refine J.seq rfl ?_
              refine J.seq rfl ?_
              refine J.region rfl ?_
              refine JO.pur rfl rfl rfl (Pur.move rfl) ?_
              refine JO.pur rfl rfl rfl (Pur.move rfl) ?_
              refine JO.pur rfl rfl rfl (Pur.lss rfl rfl) ?_
              refine JO.nil ?_
              refine J.splitB 30 rfl (fun h30 => ?_) (fun h30 => ?_)
              · try simp only [decide_eq_true_eq, decide_eq_false_iff_not, Bool.not_eq_true', Bool.not_eq_false', Bool.and_eq_true, Bool.or_eq_true, Bool.and_eq_false_iff, Bool.or_eq_false_iff, Option.isNone_some, Option.isSome_some, Option.isNone_none, Option.isSome_none, Int.not_lt, Int.not_le, beq_iff_eq, beq_eq_false_iff_ne, bne_iff_ne, ne_eq, Bool.not_not, Decidable.not_not] at h30
                obtain ⟨f, rfl⟩ : ∃ f', f = f' + 1 := ⟨f - 1, by omega⟩
                have hsc2 : scm f n (w * 2) (acc + (n - w)) = scm 4 n 1 0 := by rw [← hsc]; conv => rhs; unfold scm; rw [if_pos (by omega)]
                refine J.condT rfl rfl ?_
                refine J.skip rfl ?_
                refine J.seq rfl ?_
                refine J.block rfl ?_
                refine J.region rfl ?_
                refine JO.pur rfl rfl rfl (Pur.move rfl) ?_
                refine JO.pur rfl rfl rfl (Pur.move rfl) ?_
                refine JO.pur rfl rfl rfl (Pur.move rfl) ?_
                refine JO.pur rfl rfl rfl (Pur.sub rfl rfl (wr64 (by omega))) ?_
                refine JO.pur rfl rfl rfl (Pur.add rfl rfl (wr64 (by omega))) ?_
                refine JO.pur rfl rfl rfl (Pur.assign rfl) ?_
                refine JO.nil ?_
                refine J.inBlock ?_
                refine J.region rfl ?_
                refine JO.pur rfl rfl rfl (Pur.move rfl) ?_
                refine JO.pur rfl rfl rfl (Pur.mul rfl rfl (wr64 (by omega))) ?_
                refine JO.pur rfl rfl rfl (Pur.assign rfl) ?_
                refine JO.nil ?_
                exact J.weaken (.cons rfl rfl (.cons rfl rfl (.cons rfl rfl .nil))) (by first | exact fun _ h => h | exact SubC.out | (dsimp only; exact SubC.out)) (ihf (f, w * 2, acc + (n - w)) ⟨hsc2, by dsimp only; omega, by dsimp only; omega, by dsimp only; omega⟩ (by dsimp only; omega))
              · try simp only [decide_eq_true_eq, decide_eq_false_iff_not, Bool.not_eq_true', Bool.not_eq_false', Bool.and_eq_true, Bool.or_eq_true, Bool.and_eq_false_iff, Bool.or_eq_false_iff, Option.isNone_some, Option.isSome_some, Option.isNone_none, Option.isSome_none, Int.not_lt, Int.not_le, beq_iff_eq, beq_eq_false_iff_ne, bne_iff_ne, ne_eq, Bool.not_not, Decidable.not_not] at h30
                have hsf : scm 4 n 1 0 = acc := by
                  rw [← hsc]
                  cases f with
                  | zero => rfl
                  | succ f => conv => lhs; unfold scm; rw [if_neg (by omega)]
                refine J.condF rfl rfl ?_
                refine J.exit rfl rfl ?_
                refine J.seq rfl ?_
                refine J.region rfl ?_
                refine JO.pur rfl rfl rfl (Pur.move rfl) ?_
                refine JO.pur rfl rfl rfl (Pur.assign rfl) ?_
                refine JO.pur rfl rfl rfl (Pur.assign rfl) ?_
                refine JO.nil ?_
                refine J.ret rfl rfl ?_
                refine ⟨_, _, ⟨rfl, rfl⟩, ?_, SubC.out⟩
                rw [hv]
                try rw [hsf]
                simp_all <;> rfl

theorem rMessages_ok {L : List Asn} {t : ByteArray} {n : Int} :
    CallS Try.prog 32 [.string t, .int .i64 n].toArray L (fun v M => v = .tuple #[.int .i64 (cntV t n).1, .int .i64 (cntV t n).2] ∧ M = L) := by
  refine CallS.ent ?_
  refine CallS.enter Try.func32 rfl rfl rfl rfl rfl ?_
  refine J.seq rfl ?_
  refine J.region rfl ?_
  refine JO.pur rfl rfl rfl (Pur.assign rfl) ?_
  refine JO.pur rfl rfl rfl (Pur.assign rfl) ?_
  refine JO.nil ?_
  refine J.seq rfl ?_
  refine J.seq rfl ?_
  refine J.region rfl ?_
  refine JO.pur rfl rfl rfl (Pur.move rfl) ?_
  refine JO.effR rfl rfl rfl (Eff.call rfl (rKind_ok (t := t))) ?_
  refine JO.pur rfl rfl rfl (Pur.not rfl) ?_
  refine JO.pur rfl rfl rfl (Pur.move rfl) ?_
  refine JO.splitB 11 rfl (fun h11 => ?_) (fun h11 => ?_)
  · try simp only [decide_eq_true_eq, decide_eq_false_iff_not, Bool.not_eq_true', Bool.not_eq_false', Bool.and_eq_true, Bool.or_eq_true, Bool.and_eq_false_iff, Bool.or_eq_false_iff, Option.isNone_some, Option.isSome_some, Option.isNone_none, Option.isSome_none, Int.not_lt, Int.not_le, beq_iff_eq, beq_eq_false_iff_ne, bne_iff_ne, ne_eq, Bool.not_not, Decidable.not_not] at h11
    have hv : cntV t n = (0, 2) := if_neg (fun g => by obtain ⟨g1, g2, g3⟩ := g; simp_all <;> omega)
    refine JO.no rfl rfl rfl ?_
    refine JO.no rfl rfl rfl ?_
    refine JO.pur rfl rfl rfl (Pur.pickT rfl rfl) ?_
    refine JO.pur rfl rfl rfl (Pur.move rfl) ?_
    refine JO.no rfl rfl rfl ?_
    refine JO.no rfl rfl rfl ?_
    refine JO.pur rfl rfl rfl (Pur.pickT rfl rfl) ?_
    refine JO.nil ?_
    refine J.condT rfl rfl ?_
    refine J.seq rfl ?_
    refine J.region rfl ?_
    refine JO.pur rfl rfl rfl (Pur.assign rfl) ?_
    refine JO.pur rfl rfl rfl (Pur.assign rfl) ?_
    refine JO.nil ?_
    refine J.ret rfl rfl ?_
    refine ⟨_, _, ⟨rfl, rfl⟩, by rw [hv]; rfl, SubC.out⟩
  · try simp only [decide_eq_true_eq, decide_eq_false_iff_not, Bool.not_eq_true', Bool.not_eq_false', Bool.and_eq_true, Bool.or_eq_true, Bool.and_eq_false_iff, Bool.or_eq_false_iff, Option.isNone_some, Option.isSome_some, Option.isNone_none, Option.isSome_none, Int.not_lt, Int.not_le, beq_iff_eq, beq_eq_false_iff_ne, bne_iff_ne, ne_eq, Bool.not_not, Decidable.not_not] at h11
    refine JO.pur rfl rfl rfl (Pur.move rfl) ?_
    refine JO.pur rfl rfl rfl (Pur.lss rfl rfl) ?_
    refine JO.pur rfl rfl rfl (Pur.pickF rfl rfl) ?_
    refine JO.pur rfl rfl rfl (Pur.move rfl) ?_
    refine JO.splitB 15 rfl (fun h15 => ?_) (fun h15 => ?_)
    · try simp only [decide_eq_true_eq, decide_eq_false_iff_not, Bool.not_eq_true', Bool.not_eq_false', Bool.and_eq_true, Bool.or_eq_true, Bool.and_eq_false_iff, Bool.or_eq_false_iff, Option.isNone_some, Option.isSome_some, Option.isNone_none, Option.isSome_none, Int.not_lt, Int.not_le, beq_iff_eq, beq_eq_false_iff_ne, bne_iff_ne, ne_eq, Bool.not_not, Decidable.not_not] at h15
      have hv : cntV t n = (0, 2) := if_neg (fun g => by obtain ⟨g1, g2, g3⟩ := g; simp_all <;> omega)
      refine JO.no rfl rfl rfl ?_
      refine JO.no rfl rfl rfl ?_
      refine JO.pur rfl rfl rfl (Pur.pickT rfl rfl) ?_
      refine JO.nil ?_
      refine J.condT rfl rfl ?_
      refine J.seq rfl ?_
      refine J.region rfl ?_
      refine JO.pur rfl rfl rfl (Pur.assign rfl) ?_
      refine JO.pur rfl rfl rfl (Pur.assign rfl) ?_
      refine JO.nil ?_
      refine J.ret rfl rfl ?_
      refine ⟨_, _, ⟨rfl, rfl⟩, by rw [hv]; rfl, SubC.out⟩
    · try simp only [decide_eq_true_eq, decide_eq_false_iff_not, Bool.not_eq_true', Bool.not_eq_false', Bool.and_eq_true, Bool.or_eq_true, Bool.and_eq_false_iff, Bool.or_eq_false_iff, Option.isNone_some, Option.isSome_some, Option.isNone_none, Option.isSome_none, Int.not_lt, Int.not_le, beq_iff_eq, beq_eq_false_iff_ne, bne_iff_ne, ne_eq, Bool.not_not, Decidable.not_not] at h15
      refine JO.pur rfl rfl rfl (Pur.move rfl) ?_
      refine JO.pur rfl rfl rfl (Pur.gtr rfl rfl) ?_
      refine JO.pur rfl rfl rfl (Pur.pickF rfl rfl) ?_
      refine JO.nil ?_
      refine J.splitB 18 rfl (fun h18 => ?_) (fun h18 => ?_)
      · try simp only [decide_eq_true_eq, decide_eq_false_iff_not, Bool.not_eq_true', Bool.not_eq_false', Bool.and_eq_true, Bool.or_eq_true, Bool.and_eq_false_iff, Bool.or_eq_false_iff, Option.isNone_some, Option.isSome_some, Option.isNone_none, Option.isSome_none, Int.not_lt, Int.not_le, beq_iff_eq, beq_eq_false_iff_ne, bne_iff_ne, ne_eq, Bool.not_not, Decidable.not_not] at h18
        have hv : cntV t n = (0, 2) := if_neg (fun g => by obtain ⟨g1, g2, g3⟩ := g; simp_all <;> omega)
        refine J.condT rfl rfl ?_
        refine J.seq rfl ?_
        refine J.region rfl ?_
        refine JO.pur rfl rfl rfl (Pur.assign rfl) ?_
        refine JO.pur rfl rfl rfl (Pur.assign rfl) ?_
        refine JO.nil ?_
        refine J.ret rfl rfl ?_
        refine ⟨_, _, ⟨rfl, rfl⟩, by rw [hv]; rfl, SubC.out⟩
      · try simp only [decide_eq_true_eq, decide_eq_false_iff_not, Bool.not_eq_true', Bool.not_eq_false', Bool.and_eq_true, Bool.or_eq_true, Bool.and_eq_false_iff, Bool.or_eq_false_iff, Option.isNone_some, Option.isSome_some, Option.isNone_none, Option.isSome_none, Int.not_lt, Int.not_le, beq_iff_eq, beq_eq_false_iff_ne, bne_iff_ne, ne_eq, Bool.not_not, Decidable.not_not] at h18
        have hkd : t ∈ kinds := by simp_all
        have hn1 : 1 ≤ n := by simp_all <;> omega
        have hn8 : n ≤ 8 := by simp_all <;> omega
        have hv : cntV t n = (if t = ⟨#[99, 97, 115, 116]⟩ ∨ t = ⟨#[114, 101, 100, 117, 99, 101]⟩ then n - 1 else if t = ⟨#[97, 108, 108]⟩ ∨ t = ⟨#[98, 97, 114, 114, 105, 101, 114]⟩ then 2 * (n - 1) else scm 4 n 1 0, 0) := if_pos ⟨hkd, by omega⟩
        refine J.condF rfl rfl ?_
        refine J.skip rfl ?_
        refine J.seq rfl ?_
        refine J.seq rfl ?_
        refine J.region rfl ?_
        refine JO.pur rfl rfl rfl (Pur.move rfl) ?_
        refine JO.nil ?_
        refine J.block rfl ?_
        refine J.seq rfl ?_
        refine J.seq rfl ?_
        refine J.region rfl ?_
        refine JO.pur rfl rfl rfl (Pur.eqlT rfl rfl) ?_
        refine JO.pur rfl rfl rfl (Pur.assign rfl) ?_
        refine JO.nil ?_
        refine J.splitB 20 rfl (fun h20 => ?_) (fun h20 => ?_)
        · try simp only [decide_eq_true_eq, decide_eq_false_iff_not, Bool.not_eq_true', Bool.not_eq_false', Bool.and_eq_true, Bool.or_eq_true, Bool.and_eq_false_iff, Bool.or_eq_false_iff, Option.isNone_some, Option.isSome_some, Option.isNone_none, Option.isSome_none, Int.not_lt, Int.not_le, beq_iff_eq, beq_eq_false_iff_ne, bne_iff_ne, ne_eq, Bool.not_not, Decidable.not_not] at h20
          refine J.condT rfl rfl ?_
          refine J.skip rfl ?_
          refine J.condT rfl rfl ?_
          refine J.seq rfl ?_
          refine J.region rfl ?_
          refine JO.pur rfl rfl rfl (Pur.move rfl) ?_
          refine JO.pur rfl rfl rfl (Pur.sub rfl rfl (wr64 (by omega))) ?_
          refine JO.pur rfl rfl rfl (Pur.assign rfl) ?_
          refine JO.pur rfl rfl rfl (Pur.assign rfl) ?_
          refine JO.nil ?_
          refine J.ret rfl rfl ?_
          refine ⟨_, _, ⟨rfl, rfl⟩, ?_, SubC.out⟩
          rw [hv]
          try rw [hsf]
          simp_all <;> rfl
        · try simp only [decide_eq_true_eq, decide_eq_false_iff_not, Bool.not_eq_true', Bool.not_eq_false', Bool.and_eq_true, Bool.or_eq_true, Bool.and_eq_false_iff, Bool.or_eq_false_iff, Option.isNone_some, Option.isSome_some, Option.isNone_none, Option.isSome_none, Int.not_lt, Int.not_le, beq_iff_eq, beq_eq_false_iff_ne, bne_iff_ne, ne_eq, Bool.not_not, Decidable.not_not] at h20
          refine J.condF rfl rfl ?_
          refine J.region rfl ?_
          refine JO.pur rfl rfl rfl (Pur.eqlT rfl rfl) ?_
          refine JO.pur rfl rfl rfl (Pur.assign rfl) ?_
          refine JO.nil ?_
          refine J.splitB 20 rfl (fun h20 => ?_) (fun h20 => ?_)
          · try simp only [decide_eq_true_eq, decide_eq_false_iff_not, Bool.not_eq_true', Bool.not_eq_false', Bool.and_eq_true, Bool.or_eq_true, Bool.and_eq_false_iff, Bool.or_eq_false_iff, Option.isNone_some, Option.isSome_some, Option.isNone_none, Option.isSome_none, Int.not_lt, Int.not_le, beq_iff_eq, beq_eq_false_iff_ne, bne_iff_ne, ne_eq, Bool.not_not, Decidable.not_not] at h20
            refine J.condT rfl rfl ?_
            refine J.seq rfl ?_
            refine J.region rfl ?_
            refine JO.pur rfl rfl rfl (Pur.move rfl) ?_
            refine JO.pur rfl rfl rfl (Pur.sub rfl rfl (wr64 (by omega))) ?_
            refine JO.pur rfl rfl rfl (Pur.assign rfl) ?_
            refine JO.pur rfl rfl rfl (Pur.assign rfl) ?_
            refine JO.nil ?_
            refine J.ret rfl rfl ?_
            refine ⟨_, _, ⟨rfl, rfl⟩, ?_, SubC.out⟩
            rw [hv]
            try rw [hsf]
            simp_all <;> rfl
          · try simp only [decide_eq_true_eq, decide_eq_false_iff_not, Bool.not_eq_true', Bool.not_eq_false', Bool.and_eq_true, Bool.or_eq_true, Bool.and_eq_false_iff, Bool.or_eq_false_iff, Option.isNone_some, Option.isSome_some, Option.isNone_none, Option.isSome_none, Int.not_lt, Int.not_le, beq_iff_eq, beq_eq_false_iff_ne, bne_iff_ne, ne_eq, Bool.not_not, Decidable.not_not] at h20
            refine J.condF rfl rfl ?_
            refine J.seq rfl ?_
            refine J.seq rfl ?_
            refine J.region rfl ?_
            refine JO.pur rfl rfl rfl (Pur.eqlT rfl rfl) ?_
            refine JO.pur rfl rfl rfl (Pur.assign rfl) ?_
            refine JO.nil ?_
            refine J.splitB 25 rfl (fun h25 => ?_) (fun h25 => ?_)
            · try simp only [decide_eq_true_eq, decide_eq_false_iff_not, Bool.not_eq_true', Bool.not_eq_false', Bool.and_eq_true, Bool.or_eq_true, Bool.and_eq_false_iff, Bool.or_eq_false_iff, Option.isNone_some, Option.isSome_some, Option.isNone_none, Option.isSome_none, Int.not_lt, Int.not_le, beq_iff_eq, beq_eq_false_iff_ne, bne_iff_ne, ne_eq, Bool.not_not, Decidable.not_not] at h25
              refine J.condT rfl rfl ?_
              refine J.skip rfl ?_
              refine J.condT rfl rfl ?_
              refine J.seq rfl ?_
              refine J.region rfl ?_
              refine JO.pur rfl rfl rfl (Pur.move rfl) ?_
              refine JO.pur rfl rfl rfl (Pur.sub rfl rfl (wr64 (by omega))) ?_
              refine JO.pur rfl rfl rfl (Pur.mul rfl rfl (wr64 (by omega))) ?_
              refine JO.pur rfl rfl rfl (Pur.assign rfl) ?_
              refine JO.pur rfl rfl rfl (Pur.assign rfl) ?_
              refine JO.nil ?_
              refine J.ret rfl rfl ?_
              refine ⟨_, _, ⟨rfl, rfl⟩, ?_, SubC.out⟩
              rw [hv]
              try rw [hsf]
              simp_all <;> rfl
            · try simp only [decide_eq_true_eq, decide_eq_false_iff_not, Bool.not_eq_true', Bool.not_eq_false', Bool.and_eq_true, Bool.or_eq_true, Bool.and_eq_false_iff, Bool.or_eq_false_iff, Option.isNone_some, Option.isSome_some, Option.isNone_none, Option.isSome_none, Int.not_lt, Int.not_le, beq_iff_eq, beq_eq_false_iff_ne, bne_iff_ne, ne_eq, Bool.not_not, Decidable.not_not] at h25
              refine J.condF rfl rfl ?_
              refine J.region rfl ?_
              refine JO.pur rfl rfl rfl (Pur.eqlT rfl rfl) ?_
              refine JO.pur rfl rfl rfl (Pur.assign rfl) ?_
              refine JO.nil ?_
              refine J.splitB 25 rfl (fun h25 => ?_) (fun h25 => ?_)
              · try simp only [decide_eq_true_eq, decide_eq_false_iff_not, Bool.not_eq_true', Bool.not_eq_false', Bool.and_eq_true, Bool.or_eq_true, Bool.and_eq_false_iff, Bool.or_eq_false_iff, Option.isNone_some, Option.isSome_some, Option.isNone_none, Option.isSome_none, Int.not_lt, Int.not_le, beq_iff_eq, beq_eq_false_iff_ne, bne_iff_ne, ne_eq, Bool.not_not, Decidable.not_not] at h25
                refine J.condT rfl rfl ?_
                refine J.seq rfl ?_
                refine J.region rfl ?_
                refine JO.pur rfl rfl rfl (Pur.move rfl) ?_
                refine JO.pur rfl rfl rfl (Pur.sub rfl rfl (wr64 (by omega))) ?_
                refine JO.pur rfl rfl rfl (Pur.mul rfl rfl (wr64 (by omega))) ?_
                refine JO.pur rfl rfl rfl (Pur.assign rfl) ?_
                refine JO.pur rfl rfl rfl (Pur.assign rfl) ?_
                refine JO.nil ?_
                refine J.ret rfl rfl ?_
                refine ⟨_, _, ⟨rfl, rfl⟩, ?_, SubC.out⟩
                rw [hv]
                try rw [hsf]
                simp_all <;> rfl
              · try simp only [decide_eq_true_eq, decide_eq_false_iff_not, Bool.not_eq_true', Bool.not_eq_false', Bool.and_eq_true, Bool.or_eq_true, Bool.and_eq_false_iff, Bool.or_eq_false_iff, Option.isNone_some, Option.isSome_some, Option.isNone_none, Option.isSome_none, Int.not_lt, Int.not_le, beq_iff_eq, beq_eq_false_iff_ne, bne_iff_ne, ne_eq, Bool.not_not, Decidable.not_not] at h25
                refine J.condF rfl rfl ?_
                refine J.skip rfl ?_
                refine J.inBlock ?_
                refine J.seq rfl ?_
                refine J.region rfl ?_
                refine JO.pur rfl rfl rfl (Pur.assign rfl) ?_
                refine JO.nil ?_
                refine J.seq rfl ?_
                refine J.seq rfl ?_
                refine J.region rfl ?_
                refine JO.pur rfl rfl rfl (Pur.assign rfl) ?_
                refine JO.nil ?_
                refine J.block rfl ?_
                refine J.loopF (ι := Nat × Int × Int) (fun z => scm z.1 n z.2.1 z.2.2 = scm 4 n 1 0 ∧ ((z.1 = 4 ∧ z.2.1 = 1) ∨ (z.1 = 3 ∧ z.2.1 = 2) ∨ (z.1 = 2 ∧ z.2.1 = 4) ∨ (z.1 = 1 ∧ z.2.1 = 8) ∨ (z.1 = 0 ∧ z.2.1 = 16)) ∧ 0 ≤ z.2.2 ∧ z.2.2 + 8 * z.1 ≤ 32) (fun z => [(6, .int .i64 z.2.2), (7, .int .i64 z.2.1)]) [(1, _)] (fun z => L) (fun z => z.1) (4, 1, 0) rfl (.cons rfl rfl .nil) (.cons rfl rfl (.cons rfl rfl .nil)) (by first | exact fun _ h => h | exact SubC.out | (dsimp only; exact SubC.out)) ⟨rfl, .inl ⟨rfl, rfl⟩, by dsimp only; omega, by dsimp only; omega⟩ ?_
                rintro ⟨f, w, acc⟩ ⟨hsc, hfw, ha0, ha1⟩ ihf
                try dsimp only
                dsimp only at hsc hfw ha0 ha1
                refine J.seq rfl ?_
                refine J.seq rfl ?_
                refine J.region rfl ?_
                refine JO.pur rfl rfl rfl (Pur.move rfl) ?_
                refine JO.pur rfl rfl rfl (Pur.move rfl) ?_
                refine JO.pur rfl rfl rfl (Pur.lss rfl rfl) ?_
                refine JO.nil ?_
                refine J.splitB 33 rfl (fun h33 => ?_) (fun h33 => ?_)
                · try simp only [decide_eq_true_eq, decide_eq_false_iff_not, Bool.not_eq_true', Bool.not_eq_false', Bool.and_eq_true, Bool.or_eq_true, Bool.and_eq_false_iff, Bool.or_eq_false_iff, Option.isNone_some, Option.isSome_some, Option.isNone_none, Option.isSome_none, Int.not_lt, Int.not_le, beq_iff_eq, beq_eq_false_iff_ne, bne_iff_ne, ne_eq, Bool.not_not, Decidable.not_not] at h33
                  obtain ⟨f, rfl⟩ : ∃ f', f = f' + 1 := ⟨f - 1, by omega⟩
                  have hsc2 : scm f n (w * 2) (acc + (n - w)) = scm 4 n 1 0 := by rw [← hsc]; conv => rhs; unfold scm; rw [if_pos (by omega)]
                  refine J.condT rfl rfl ?_
                  refine J.skip rfl ?_
                  refine J.seq rfl ?_
                  refine J.block rfl ?_
                  refine J.region rfl ?_
                  refine JO.pur rfl rfl rfl (Pur.move rfl) ?_
                  refine JO.pur rfl rfl rfl (Pur.move rfl) ?_
                  refine JO.pur rfl rfl rfl (Pur.move rfl) ?_
                  refine JO.pur rfl rfl rfl (Pur.sub rfl rfl (wr64 (by omega))) ?_
                  refine JO.pur rfl rfl rfl (Pur.add rfl rfl (wr64 (by omega))) ?_
                  refine JO.pur rfl rfl rfl (Pur.assign rfl) ?_
                  refine JO.nil ?_
                  refine J.inBlock ?_
                  refine J.region rfl ?_
                  refine JO.pur rfl rfl rfl (Pur.move rfl) ?_
                  refine JO.pur rfl rfl rfl (Pur.mul rfl rfl (wr64 (by omega))) ?_
                  refine JO.pur rfl rfl rfl (Pur.assign rfl) ?_
                  refine JO.nil ?_
                  exact J.weaken (.cons rfl rfl (.cons rfl rfl (.cons rfl rfl .nil))) (by first | exact fun _ h => h | exact SubC.out | (dsimp only; exact SubC.out)) (ihf (f, w * 2, acc + (n - w)) ⟨hsc2, by dsimp only; omega, by dsimp only; omega, by dsimp only; omega⟩ (by dsimp only; omega))
                · try simp only [decide_eq_true_eq, decide_eq_false_iff_not, Bool.not_eq_true', Bool.not_eq_false', Bool.and_eq_true, Bool.or_eq_true, Bool.and_eq_false_iff, Bool.or_eq_false_iff, Option.isNone_some, Option.isSome_some, Option.isNone_none, Option.isSome_none, Int.not_lt, Int.not_le, beq_iff_eq, beq_eq_false_iff_ne, bne_iff_ne, ne_eq, Bool.not_not, Decidable.not_not] at h33
                  have hsf : scm 4 n 1 0 = acc := by
                    rw [← hsc]
                    cases f with
                    | zero => rfl
                    | succ f => conv => lhs; unfold scm; rw [if_neg (by omega)]
                  refine J.condF rfl rfl ?_
                  refine J.exit rfl rfl ?_
                  refine J.seq rfl ?_
                  refine J.region rfl ?_
                  refine JO.pur rfl rfl rfl (Pur.move rfl) ?_
                  refine JO.pur rfl rfl rfl (Pur.assign rfl) ?_
                  refine JO.pur rfl rfl rfl (Pur.assign rfl) ?_
                  refine JO.nil ?_
                  refine J.ret rfl rfl ?_
                  refine ⟨_, _, ⟨rfl, rfl⟩, ?_, SubC.out⟩
                  rw [hv]
                  try rw [hsf]
                  simp_all <;> rfl

theorem lawNumbers {L : List Asn} {t : ByteArray} {n : Int} :
    CallS Try.prog 8 [.string t, .int .i64 n].toArray L (fun v M => v = .bool true ∧ M = L) := by
  refine CallS.ent ?_
  refine CallS.enter Try.func8 rfl rfl rfl rfl rfl ?_
  refine J.seq rfl ?_
  refine J.region rfl ?_
  refine JO.pur rfl rfl rfl (Pur.assign rfl) ?_
  refine JO.nil ?_
  refine J.seq rfl ?_
  refine J.region rfl ?_
  refine JO.pur rfl rfl rfl (Pur.move rfl) ?_
  refine JO.effR rfl rfl rfl (Eff.call rfl (Depth_ok)) ?_
  refine JO.pur rfl rfl rfl (Pur.move rfl) ?_
  refine JO.pur rfl rfl rfl (Pur.extract rfl rfl) ?_
  refine JO.pur rfl rfl rfl (Pur.extract rfl rfl) ?_
  refine JO.pur rfl rfl rfl (Pur.assign rfl) ?_
  refine JO.pur rfl rfl rfl (Pur.assign rfl) ?_
  refine JO.nil ?_
  refine J.seq rfl ?_
  refine J.region rfl ?_
  refine JO.pur rfl rfl rfl (Pur.move rfl) ?_
  refine JO.effR rfl rfl rfl (Eff.call rfl (rDepth_ok)) ?_
  refine JO.pur rfl rfl rfl (Pur.move rfl) ?_
  refine JO.pur rfl rfl rfl (Pur.extract rfl rfl) ?_
  refine JO.pur rfl rfl rfl (Pur.extract rfl rfl) ?_
  refine JO.pur rfl rfl rfl (Pur.assign rfl) ?_
  refine JO.pur rfl rfl rfl (Pur.assign rfl) ?_
  refine JO.nil ?_
  refine J.seq rfl ?_
  refine J.region rfl ?_
  refine JO.pur rfl rfl rfl (Pur.move rfl) ?_
  refine JO.pur rfl rfl rfl (Pur.move rfl) ?_
  refine JO.effR rfl rfl rfl (Eff.call rfl (Messages_ok (t := t) (n := n))) ?_
  refine JO.pur rfl rfl rfl (Pur.move rfl) ?_
  refine JO.pur rfl rfl rfl (Pur.extract rfl rfl) ?_
  refine JO.pur rfl rfl rfl (Pur.extract rfl rfl) ?_
  refine JO.pur rfl rfl rfl (Pur.assign rfl) ?_
  refine JO.pur rfl rfl rfl (Pur.assign rfl) ?_
  refine JO.nil ?_
  refine J.seq rfl ?_
  refine J.region rfl ?_
  refine JO.pur rfl rfl rfl (Pur.move rfl) ?_
  refine JO.pur rfl rfl rfl (Pur.move rfl) ?_
  refine JO.effR rfl rfl rfl (Eff.call rfl (rMessages_ok (t := t) (n := n))) ?_
  refine JO.pur rfl rfl rfl (Pur.move rfl) ?_
  refine JO.pur rfl rfl rfl (Pur.extract rfl rfl) ?_
  refine JO.pur rfl rfl rfl (Pur.extract rfl rfl) ?_
  refine JO.pur rfl rfl rfl (Pur.assign rfl) ?_
  refine JO.pur rfl rfl rfl (Pur.assign rfl) ?_
  refine JO.nil ?_
  refine J.seq rfl ?_
  refine J.region rfl ?_
  refine JO.pur rfl rfl rfl (Pur.move rfl) ?_
  refine JO.pur rfl rfl rfl (Pur.move rfl) ?_
  refine JO.pur rfl rfl rfl (Pur.eqlI rfl rfl) ?_
  refine JO.pur rfl rfl rfl (Pur.move rfl) ?_
  refine JO.setv (u' := .bool true) 38 rfl (congrArg Value.bool (decide_eq_true rfl)) ?_
  refine JO.pur rfl rfl rfl (Pur.move rfl) ?_
  refine JO.pur rfl rfl rfl (Pur.move rfl) ?_
  refine JO.pur rfl rfl rfl (Pur.eqlI rfl rfl) ?_
  refine JO.pur rfl rfl rfl (Pur.pickT rfl rfl) ?_
  refine JO.pur rfl rfl rfl (Pur.move rfl) ?_
  refine JO.setv (u' := .bool true) 43 rfl (congrArg Value.bool (decide_eq_true rfl)) ?_
  refine JO.pur rfl rfl rfl (Pur.move rfl) ?_
  refine JO.pur rfl rfl rfl (Pur.move rfl) ?_
  refine JO.pur rfl rfl rfl (Pur.eqlI rfl rfl) ?_
  refine JO.pur rfl rfl rfl (Pur.pickT rfl rfl) ?_
  refine JO.pur rfl rfl rfl (Pur.move rfl) ?_
  refine JO.setv (u' := .bool true) 48 rfl (congrArg Value.bool (decide_eq_true rfl)) ?_
  refine JO.pur rfl rfl rfl (Pur.move rfl) ?_
  refine JO.pur rfl rfl rfl (Pur.move rfl) ?_
  refine JO.pur rfl rfl rfl (Pur.eqlI rfl rfl) ?_
  refine JO.pur rfl rfl rfl (Pur.pickT rfl rfl) ?_
  refine JO.pur rfl rfl rfl (Pur.move rfl) ?_
  refine JO.setv (u' := .bool true) 53 rfl (congrArg Value.bool (decide_eq_true rfl)) ?_
  refine JO.effR rfl rfl rfl (Eff.call rfl (awake_ok)) ?_
  refine JO.pur rfl rfl rfl (Pur.pickT rfl rfl) ?_
  refine JO.pur rfl rfl rfl (Pur.assign rfl) ?_
  refine JO.nil ?_
  refine J.ret rfl rfl ?_
  refine ⟨_, _, ⟨rfl, rfl⟩, rfl, SubC.out⟩

end Go.Proofs.Ytoikjjpleonllaa
