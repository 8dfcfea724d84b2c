/-
  A part of the proof of the claim that this folder bears.
-/
import Derived.Test.YthdaopmfgmojnaaPAO
/- The text OREnd. -/
set_option linter.unusedVariables false
set_option linter.unusedSimpArgs false
namespace Go.Proofs.Ythdaopmfgmojnaa
open Go Go.KK Ow

set_option maxRecDepth 10000 in
theorem rended_ok {L : List Asn} {a b : Option Addr} {n cp m cq : Nat} {xs : List Deed} {cs : List Bool} [SlIn deedE L a xs] [SlIn boolE L b cs] (hn : n = xs.length) (hm : m = cs.length) (hvb : validB xs = true) :
    CallS Try.prog 44 [.slice a n cp, .slice b m cq].toArray L (fun v M => ∃ p aa' ca' ac' cc' af' cf', v = .pointer (some ⟨p, 0, none⟩) ∧ M = blk p (arr hE (hs (endV xs cs).vars) [.slice aa' (endV xs cs).alive.tail.length ca', .slice ac' (rc (endV xs cs)).length cc', .slice af' (fz (endV xs cs).freed).length cf'] 71) :: sl boolE aa' ca' (endV xs cs).alive.tail :: sl intE ac' cc' (rc (endV xs cs)) :: sl intE af' cf' (fz (endV xs cs).freed) :: L) := by
  subst hn
  subst hm
  have hv := valid_open hvb
  refine CallS.ent ?_
  refine CallS.enter Try.func44 rfl rfl rfl rfl rfl ?_
  refine J.seq rfl ?_
  refine J.region rfl ?_
  refine JO.pur rfl rfl rfl (Pur.assign rfl) ?_
  refine JO.nil ?_
  refine J.seq rfl ?_
  refine J.region rfl ?_
  refine JO.pur rfl rfl rfl (Pur.move rfl) ?_
  refine JO.pur rfl rfl rfl (Pur.move rfl) ?_
  refine JO.eff rfl rfl rfl (Eff.call rfl (play_ok (xs := xs) (cs := cs) rfl rfl hvb)) ?_
  rintro _ _ ⟨p, ba, da, bc, dc, bf, df, rfl, rfl⟩
  refine JO.pur rfl rfl rfl (Pur.move rfl) ?_
  refine JO.pur rfl rfl rfl (Pur.extract rfl rfl) ?_
  refine JO.pur rfl rfl rfl (Pur.extract rfl rfl) ?_
  refine JO.pur rfl rfl rfl (Pur.extract rfl rfl) ?_
  refine JO.pur rfl rfl rfl (Pur.assign rfl) ?_
  refine JO.pur rfl rfl rfl (Pur.assign rfl) ?_
  refine JO.pur rfl rfl rfl (Pur.assign rfl) ?_
  refine JO.nil ?_
  refine J.seq rfl ?_
  refine J.seq rfl ?_
  refine J.region rfl ?_
  refine JO.pur rfl rfl rfl (Pur.assign rfl) ?_
  refine JO.nil ?_
  refine J.block rfl ?_
  refine J.loopF (ι := Nat × Option Addr × Nat × Option Addr × Nat × Option Addr × Nat) (fun q => q.1 ≤ 8 ∧ ((runV xs cs).2.1 = sNone ∨ q.1 = 0)) (fun q => [(8, .int .i64 (q.1 : Int))]) [(5, _), (6, _)] (fun q => blk p (arr hE (hs (dropK (runV xs cs).1 q.1).vars) [.slice q.2.1 (dropK (runV xs cs).1 q.1).alive.tail.length q.2.2.1, .slice q.2.2.2.1 (rc (dropK (runV xs cs).1 q.1)).length q.2.2.2.2.1, .slice q.2.2.2.2.2.1 (fz (dropK (runV xs cs).1 q.1).freed).length q.2.2.2.2.2.2] 71) :: sl boolE q.2.1 q.2.2.1 (dropK (runV xs cs).1 q.1).alive.tail :: sl intE q.2.2.2.1 q.2.2.2.2.1 (rc (dropK (runV xs cs).1 q.1)) :: sl intE q.2.2.2.2.2.1 q.2.2.2.2.2.2 (fz (dropK (runV xs cs).1 q.1).freed) :: L) (fun q => 8 - q.1) (0, ba, da, bc, dc, bf, df) rfl (.cons rfl rfl (.cons rfl rfl .nil)) (.cons rfl rfl .nil) (by first | exact fun _ h => h | exact SubC.out | (dsimp only; exact SubC.out)) ⟨Nat.zero_le _, .inr rfl⟩ ?_
  rintro ⟨k, aa, ca, ac, cc, af, cf⟩ ⟨hk, hor⟩ ih0
  try dsimp only
  dsimp only at hk hor
  refine J.seq rfl ?_
  refine J.seq rfl ?_
  refine J.region rfl ?_
  refine JO.pur rfl rfl rfl (Pur.move rfl) ?_
  refine JO.pur rfl rfl rfl (Pur.lss rfl rfl) ?_
  refine JO.pur rfl rfl rfl (Pur.move rfl) ?_
  refine JO.splitB 18 rfl (fun h18 => ?_) (fun h18 => ?_)
  · try simp only [decide_eq_true_eq, decide_eq_false_iff_not, Bool.not_eq_true', Bool.not_eq_false', Bool.and_eq_true, Bool.or_eq_true, Bool.and_eq_false_iff, Bool.or_eq_false_iff, Option.isNone_some, Option.isSome_some, Option.isNone_none, Option.isSome_none, Int.not_lt, Int.not_le, beq_iff_eq, beq_eq_false_iff_ne, bne_iff_ne, ne_eq, Bool.not_not, Decidable.not_not] at h18
    refine JO.pur rfl rfl rfl (Pur.move rfl) ?_
    refine JO.pur rfl rfl rfl (Pur.eqlT rfl rfl) ?_
    refine JO.pur rfl rfl rfl (Pur.pickT rfl rfl) ?_
    refine JO.nil ?_
    refine J.splitB 21 rfl (fun h21 => ?_) (fun h21 => ?_)
    · try simp only [decide_eq_true_eq, decide_eq_false_iff_not, Bool.not_eq_true', Bool.not_eq_false', Bool.and_eq_true, Bool.or_eq_true, Bool.and_eq_false_iff, Bool.or_eq_false_iff, Option.isNone_some, Option.isSome_some, Option.isNone_none, Option.isSome_none, Int.not_lt, Int.not_le, beq_iff_eq, beq_eq_false_iff_ne, bne_iff_ne, ne_eq, Bool.not_not, Decidable.not_not] at h21
      have hr : (runV xs cs).2.1 = sNone := h21
      refine J.condT rfl rfl ?_
      refine J.skip rfl ?_
      refine J.seq rfl ?_
      refine J.block rfl ?_
      refine J.region rfl ?_
      refine JO.pur rfl rfl rfl (Pur.move rfl) ?_
      refine JO.pur rfl rfl rfl (Pur.move rfl) ?_
      refine JO.eff rfl rfl rfl (Eff.call rfl (rdrop_ok (σ := dropK (runV xs cs).1 k) (i := k) (good_dropK (runV_good hv) hk) (by omega))) ?_
      rintro _ _ ⟨aa1, ca1, ac1, cc1, af1, cf1, rfl, rfl⟩
      refine JO.nil ?_
      refine J.inBlock ?_
      refine J.region rfl ?_
      refine JO.pur rfl rfl rfl (Pur.move rfl) ?_
      refine JO.pur rfl rfl rfl (Pur.add rfl rfl (wr64 (by omega))) ?_
      refine JO.pur rfl rfl rfl (Pur.assign rfl) ?_
      refine JO.nil ?_
      exact J.weaken (.cons rfl (congrArg (Value.int .i64) (by first | rfl | (dsimp only; omega))) (.cons rfl rfl (.cons rfl rfl .nil))) (by first | exact fun _ h => h | exact SubC.out | (dsimp only; exact SubC.out)) (ih0 (k + 1, aa1, ca1, ac1, cc1, af1, cf1) ⟨(by dsimp only; omega), .inl hr⟩ (by dsimp only; omega))
    · try simp only [decide_eq_true_eq, decide_eq_false_iff_not, Bool.not_eq_true', Bool.not_eq_false', Bool.and_eq_true, Bool.or_eq_true, Bool.and_eq_false_iff, Bool.or_eq_false_iff, Option.isNone_some, Option.isSome_some, Option.isNone_none, Option.isSome_none, Int.not_lt, Int.not_le, beq_iff_eq, beq_eq_false_iff_ne, bne_iff_ne, ne_eq, Bool.not_not, Decidable.not_not] at h21
      have hr : ¬ (runV xs cs).2.1 = sNone := h21
      refine J.condF rfl rfl ?_
      refine J.exit rfl rfl ?_
      refine J.seq rfl ?_
      refine J.region rfl ?_
      refine JO.pur rfl rfl rfl (Pur.move rfl) ?_
      refine JO.pur rfl rfl rfl (Pur.assign rfl) ?_
      refine JO.nil ?_
      refine J.ret rfl rfl ?_
      have he : endV xs cs = dropK (runV xs cs).1 k := by
        unfold endV; rcases hor with h | h
        · rw [if_pos h]; first | (rw [show k = 8 by omega]; done) | exact absurd h hr
        · subst h; first | (rw [if_neg hr]; rfl) | omega
      exact ⟨_, _, ⟨p, aa, ca, ac, cc, af, cf, rfl, rfl⟩, rfl, fun h s => by rw [he]; exact SubC.out h s⟩
  · try simp only [decide_eq_true_eq, decide_eq_false_iff_not, Bool.not_eq_true', Bool.not_eq_false', Bool.and_eq_true, Bool.or_eq_true, Bool.and_eq_false_iff, Bool.or_eq_false_iff, Option.isNone_some, Option.isSome_some, Option.isNone_none, Option.isSome_none, Int.not_lt, Int.not_le, beq_iff_eq, beq_eq_false_iff_ne, bne_iff_ne, ne_eq, Bool.not_not, Decidable.not_not] at h18
    refine JO.no rfl rfl rfl ?_
    refine JO.no rfl rfl rfl ?_
    refine JO.pur rfl rfl rfl (Pur.pickF rfl rfl) ?_
    refine JO.nil ?_
    refine J.condF rfl rfl ?_
    refine J.exit rfl rfl ?_
    refine J.seq rfl ?_
    refine J.region rfl ?_
    refine JO.pur rfl rfl rfl (Pur.move rfl) ?_
    refine JO.pur rfl rfl rfl (Pur.assign rfl) ?_
    refine JO.nil ?_
    refine J.ret rfl rfl ?_
    have he : endV xs cs = dropK (runV xs cs).1 k := by
      unfold endV; rcases hor with h | h
      · rw [if_pos h]; first | (rw [show k = 8 by omega]; done) | exact absurd h hr
      · subst h; first | (rw [if_neg hr]; rfl) | omega
    exact ⟨_, _, ⟨p, aa, ca, ac, cc, af, cf, rfl, rfl⟩, rfl, fun h s => by rw [he]; exact SubC.out h s⟩

theorem rRun_ok {L : List Asn} {a b : Option Addr} {n cp m cq : Nat} {xs : List Deed} {cs : List Bool} [SlIn deedE L a xs] [SlIn boolE L b cs] (hn : n = xs.length) (hm : m = cs.length) :
    CallS Try.prog 12 [.slice a n cp, .slice b m cq].toArray L (fun v M => v = .tuple #[.string (runR xs cs).1, .int .i64 (runR xs cs).2.1, .int .i64 (runR xs cs).2.2] ∧ M = L) := by
  subst hn
  subst hm
  refine CallS.ent ?_
  refine CallS.enter Try.func12 rfl rfl rfl rfl rfl ?_
  refine J.seq rfl ?_
  refine J.region rfl ?_
  refine JO.pur rfl rfl rfl (Pur.assign rfl) ?_
  refine JO.pur rfl rfl rfl (Pur.assign rfl) ?_
  refine JO.pur rfl rfl rfl (Pur.assign rfl) ?_
  refine JO.nil ?_
  refine J.seq rfl ?_
  refine J.seq rfl ?_
  refine J.region rfl ?_
  refine JO.pur rfl rfl rfl (Pur.move rfl) ?_
  refine JO.effR rfl rfl rfl (Eff.call rfl (rvalid_ok (xs := xs) rfl)) ?_
  refine JO.pur rfl rfl rfl (Pur.not rfl) ?_
  refine JO.nil ?_
  refine J.splitB 12 rfl (fun h12 => ?_) (fun h12 => ?_)
  · try simp only [decide_eq_true_eq, decide_eq_false_iff_not, Bool.not_eq_true', Bool.not_eq_false', Bool.and_eq_true, Bool.or_eq_true, Bool.and_eq_false_iff, Bool.or_eq_false_iff, Option.isNone_some, Option.isSome_some, Option.isNone_none, Option.isSome_none, Int.not_lt, Int.not_le, beq_iff_eq, beq_eq_false_iff_ne, bne_iff_ne, ne_eq, Bool.not_not, Decidable.not_not] at h12
    have hvb : ¬ validB xs = true := by simpa using h12
    refine J.condT rfl rfl ?_
    refine J.seq rfl ?_
    refine J.region rfl ?_
    refine JO.pur rfl rfl rfl (Pur.assign rfl) ?_
    refine JO.pur rfl rfl rfl (Pur.assign rfl) ?_
    refine JO.pur rfl rfl rfl (Pur.assign rfl) ?_
    refine JO.nil ?_
    refine J.ret rfl rfl ?_
    exact ⟨_, _, ⟨by unfold runR; rw [if_neg hvb]; rfl, rfl⟩, rfl, SubC.out⟩
  · try simp only [decide_eq_true_eq, decide_eq_false_iff_not, Bool.not_eq_true', Bool.not_eq_false', Bool.and_eq_true, Bool.or_eq_true, Bool.and_eq_false_iff, Bool.or_eq_false_iff, Option.isNone_some, Option.isSome_some, Option.isNone_none, Option.isSome_none, Int.not_lt, Int.not_le, beq_iff_eq, beq_eq_false_iff_ne, bne_iff_ne, ne_eq, Bool.not_not, Decidable.not_not] at h12
    have hvb : validB xs = true := by simpa using h12
    have hv := valid_open hvb
    have hb6 := valid_len hvb
    refine J.condF rfl rfl ?_
    refine J.skip rfl ?_
    refine J.seq rfl ?_
    refine J.region rfl ?_
    refine JO.pur rfl rfl rfl (Pur.move rfl) ?_
    refine JO.pur rfl rfl rfl (Pur.move rfl) ?_
    refine JO.eff rfl rfl rfl (Eff.call rfl (play_ok (xs := xs) (cs := cs) rfl rfl hvb)) ?_
    rintro _ _ ⟨p, aa, ca, ac, cc, af, cf, rfl, rfl⟩
    refine JO.pur rfl rfl rfl (Pur.move rfl) ?_
    refine JO.pur rfl rfl rfl (Pur.extract rfl rfl) ?_
    refine JO.pur rfl rfl rfl (Pur.extract rfl rfl) ?_
    refine JO.pur rfl rfl rfl (Pur.extract rfl rfl) ?_
    refine JO.pur rfl rfl rfl (Pur.assign rfl) ?_
    refine JO.pur rfl rfl rfl (Pur.assign rfl) ?_
    refine JO.pur rfl rfl rfl (Pur.assign rfl) ?_
    refine JO.nil ?_
    refine J.seq rfl ?_
    refine J.region rfl ?_
    refine JO.pur rfl rfl rfl (Pur.move rfl) ?_
    refine JO.pur rfl rfl rfl (Pur.move rfl) ?_
    refine JO.pur rfl rfl rfl (Pur.assign rfl) ?_
    refine JO.pur rfl rfl rfl (Pur.assign rfl) ?_
    refine JO.pur rfl rfl rfl (Pur.assign rfl) ?_
    refine JO.nil ?_
    refine J.ret rfl rfl ?_
    exact ⟨_, _, ⟨by unfold runR; rw [if_pos hvb]; rfl, rfl⟩, rfl, SubC.out⟩

theorem rFreed_ok {L : List Asn} {a b : Option Addr} {n cp m cq : Nat} {xs : List Deed} {cs : List Bool} [SlIn deedE L a xs] [SlIn boolE L b cs] (hn : n = xs.length) (hm : m = cs.length) :
    CallS Try.prog 24 [.slice a n cp, .slice b m cq].toArray L (fun v M => ∃ a' c', v = .tuple #[.slice a' (frV xs cs).1.length c', .int .i64 (frV xs cs).2] ∧ M = sl intE a' c' (frV xs cs).1 :: L) := by
  subst hn
  subst hm
  refine CallS.ent ?_
  refine CallS.enter Try.func24 rfl rfl rfl rfl rfl ?_
  refine J.seq rfl ?_
  refine J.region rfl ?_
  refine JO.pur rfl rfl rfl (Pur.assign rfl) ?_
  refine JO.pur rfl rfl rfl (Pur.assign rfl) ?_
  refine JO.nil ?_
  refine J.seq rfl ?_
  refine J.seq rfl ?_
  refine J.region rfl ?_
  refine JO.pur rfl rfl rfl (Pur.move rfl) ?_
  refine JO.effR rfl rfl rfl (Eff.call rfl (rvalid_ok (xs := xs) rfl)) ?_
  refine JO.pur rfl rfl rfl (Pur.not rfl) ?_
  refine JO.nil ?_
  refine J.splitB 8 rfl (fun h8 => ?_) (fun h8 => ?_)
  · try simp only [decide_eq_true_eq, decide_eq_false_iff_not, Bool.not_eq_true', Bool.not_eq_false', Bool.and_eq_true, Bool.or_eq_true, Bool.and_eq_false_iff, Bool.or_eq_false_iff, Option.isNone_some, Option.isSome_some, Option.isNone_none, Option.isSome_none, Int.not_lt, Int.not_le, beq_iff_eq, beq_eq_false_iff_ne, bne_iff_ne, ne_eq, Bool.not_not, Decidable.not_not] at h8
    have hvb : ¬ validB xs = true := by simpa using h8
    refine J.condT rfl rfl ?_
    refine J.seq rfl ?_
    refine J.region rfl ?_
    refine JO.pur rfl rfl rfl (Pur.assign rfl) ?_
    refine JO.pur rfl rfl rfl (Pur.assign rfl) ?_
    refine JO.nil ?_
    refine J.ret rfl rfl ?_
    refine ⟨_, _, ⟨none, 0, by unfold frV; rw [if_neg hvb]; rfl, rfl⟩, rfl, fun h s => ?_⟩
    unfold frV; rw [if_neg hvb]
    exact sl_nil_new s
  · try simp only [decide_eq_true_eq, decide_eq_false_iff_not, Bool.not_eq_true', Bool.not_eq_false', Bool.and_eq_true, Bool.or_eq_true, Bool.and_eq_false_iff, Bool.or_eq_false_iff, Option.isNone_some, Option.isSome_some, Option.isNone_none, Option.isSome_none, Int.not_lt, Int.not_le, beq_iff_eq, beq_eq_false_iff_ne, bne_iff_ne, ne_eq, Bool.not_not, Decidable.not_not] at h8
    have hvb : validB xs = true := by simpa using h8
    have hv := valid_open hvb
    have hb6 := valid_len hvb
    refine J.condF rfl rfl ?_
    refine J.skip rfl ?_
    refine J.seq rfl ?_
    refine J.region rfl ?_
    refine JO.pur rfl rfl rfl (Pur.move rfl) ?_
    refine JO.pur rfl rfl rfl (Pur.move rfl) ?_
    refine JO.eff rfl rfl rfl (Eff.call rfl (rended_ok (xs := xs) (cs := cs) rfl rfl hvb)) ?_
    rintro _ _ ⟨p, aa, ca, ac, cc, af, cf, rfl, rfl⟩
    refine JO.pur rfl rfl rfl (Pur.nilCheck rfl) ?_
    refine JO.pur rfl rfl rfl (Pur.fieldAddr rfl) ?_
    refine JO.pur rfl rfl rfl (Pur.load rfl (CellIn.arrT (n := 16) (k := 2) (by rw [hs_len, (endV_good hv).v8]; rfl) rfl)) ?_
    refine JO.pur rfl rfl rfl (Pur.assign rfl) ?_
    refine JO.pur rfl rfl rfl (Pur.assign rfl) ?_
    refine JO.nil ?_
    refine J.ret rfl rfl ?_
    refine ⟨_, _, ⟨af, cf, by unfold frV; rw [if_pos hvb]; rfl, rfl⟩, rfl, fun h s => ?_⟩
    unfold frV; rw [if_pos hvb]
    exact SubC.out h s

end Go.Proofs.Ythdaopmfgmojnaa

/- The text ORMain. -/
set_option linter.unusedVariables false
set_option linter.unusedSimpArgs false
namespace Go.Proofs.Ythdaopmfgmojnaa
open Go Go.KK Ow

theorem rChoices_ok {L : List Asn} {a : Option Addr} {n cp : Nat} {xs : List Deed} [SlIn deedE L a xs] (hn : n = xs.length) :
    CallS Try.prog 29 [.slice a n cp].toArray L (fun v M => v = .tuple #[.int .i64 (chV xs).1, .int .i64 (chV xs).2] ∧ M = L) := by
  subst hn
  refine CallS.ent ?_
  refine CallS.enter Try.func29 rfl rfl rfl rfl rfl ?_
  refine J.seq rfl ?_
  refine J.region rfl ?_
  refine JO.pur rfl rfl rfl (Pur.assign rfl) ?_
  refine JO.pur rfl rfl rfl (Pur.assign rfl) ?_
  refine JO.nil ?_
  refine J.seq rfl ?_
  refine J.seq rfl ?_
  refine J.region rfl ?_
  refine JO.pur rfl rfl rfl (Pur.move rfl) ?_
  refine JO.effR rfl rfl rfl (Eff.call rfl (rvalid_ok (xs := xs) rfl)) ?_
  refine JO.pur rfl rfl rfl (Pur.not rfl) ?_
  refine JO.nil ?_
  refine J.splitB 8 rfl (fun h8 => ?_) (fun h8 => ?_)
  · try simp only [decide_eq_true_eq, decide_eq_false_iff_not, Bool.not_eq_true', Bool.not_eq_false', Bool.and_eq_true, Bool.or_eq_true, Bool.and_eq_false_iff, Bool.or_eq_false_iff, Option.isNone_some, Option.isSome_some, Option.isNone_none, Option.isSome_none, Int.not_lt, Int.not_le, beq_iff_eq, beq_eq_false_iff_ne, bne_iff_ne, ne_eq, Bool.not_not, Decidable.not_not] at h8
    have hvb : ¬ validB xs = true := by simpa using h8
    refine J.condT rfl rfl ?_
    refine J.seq rfl ?_
    refine J.region rfl ?_
    refine JO.pur rfl rfl rfl (Pur.assign rfl) ?_
    refine JO.pur rfl rfl rfl (Pur.assign rfl) ?_
    refine JO.nil ?_
    refine J.ret rfl rfl ?_
    exact ⟨_, _, ⟨by unfold chV; rw [if_neg hvb]; rfl, rfl⟩, rfl, SubC.out⟩
  · try simp only [decide_eq_true_eq, decide_eq_false_iff_not, Bool.not_eq_true', Bool.not_eq_false', Bool.and_eq_true, Bool.or_eq_true, Bool.and_eq_false_iff, Bool.or_eq_false_iff, Option.isNone_some, Option.isSome_some, Option.isNone_none, Option.isSome_none, Int.not_lt, Int.not_le, beq_iff_eq, beq_eq_false_iff_ne, bne_iff_ne, ne_eq, Bool.not_not, Decidable.not_not] at h8
    have hvb : validB xs = true := by simpa using h8
    have hv := valid_open hvb
    have hb6 := valid_len hvb
    refine J.condF rfl rfl ?_
    refine J.skip rfl ?_
    refine J.seq rfl ?_
    refine J.region rfl ?_
    refine JO.pur rfl rfl rfl (Pur.assign rfl) ?_
    refine JO.nil ?_
    refine J.seq rfl ?_
    refine J.seq rfl ?_
    refine J.region rfl ?_
    refine JO.pur rfl rfl rfl (Pur.assign rfl) ?_
    refine JO.nil ?_
    refine J.block rfl ?_
    refine J.loopF (ι := Nat) (fun q => q ≤ xs.length) (fun q => [(4, .int .i64 (eithers (xs.take q) : Nat)), (5, .int .i64 (q : Int))]) [(0, _)] (fun q => L) (fun q => xs.length - q) 0 rfl (.cons rfl rfl .nil) (.cons rfl rfl (.cons rfl rfl .nil)) (by first | exact fun _ h => h | exact SubC.out | (dsimp only; exact SubC.out)) (Nat.zero_le _) ?_
    rintro i hi ih0
    try dsimp only
    have hel := eith_le xs i
    refine J.seq rfl ?_
    refine J.seq rfl ?_
    refine J.region rfl ?_
    refine JO.pur rfl rfl rfl (Pur.move rfl) ?_
    refine JO.pur rfl rfl rfl (Pur.move rfl) ?_
    refine JO.pur rfl rfl rfl (Pur.len rfl) ?_
    refine JO.pur rfl rfl rfl (Pur.lss rfl rfl) ?_
    refine JO.nil ?_
    refine J.splitB 12 rfl (fun h12 => ?_) (fun h12 => ?_)
    · try simp only [decide_eq_true_eq, decide_eq_false_iff_not, Bool.not_eq_true', Bool.not_eq_false', Bool.and_eq_true, Bool.or_eq_true, Bool.and_eq_false_iff, Bool.or_eq_false_iff, Option.isNone_some, Option.isSome_some, Option.isNone_none, Option.isSome_none, Int.not_lt, Int.not_le, beq_iff_eq, beq_eq_false_iff_ne, bne_iff_ne, ne_eq, Bool.not_not, Decidable.not_not] at h12
      have hil : i < xs.length := by omega
      refine J.condT rfl rfl ?_
      refine J.skip rfl ?_
      refine J.seq rfl ?_
      refine J.block rfl ?_
      refine J.seq rfl ?_
      refine J.region rfl ?_
      refine JO.pur rfl rfl rfl (Pur.move rfl) ?_
      refine JO.pur rfl rfl rfl (Pur.move rfl) ?_
      refine JO.pur rfl rfl rfl (Pur.idx rfl rfl rfl (by first | rfl | (simp; done) | omega) rfl hil) ?_
      refine JO.pur rfl rfl rfl (Pur.fieldAddr rfl) ?_
      refine JO.pur rfl rfl rfl (Pur.load rfl (CellIn.el rfl (dd_get hil) rfl)) ?_
      refine JO.pur rfl rfl rfl (Pur.eqlT rfl rfl) ?_
      refine JO.nil ?_
      refine J.splitB 20 rfl (fun h20 => ?_) (fun h20 => ?_)
      · try simp only [decide_eq_true_eq, decide_eq_false_iff_not, Bool.not_eq_true', Bool.not_eq_false', Bool.and_eq_true, Bool.or_eq_true, Bool.and_eq_false_iff, Bool.or_eq_false_iff, Option.isNone_some, Option.isSome_some, Option.isNone_none, Option.isSome_none, Int.not_lt, Int.not_le, beq_iff_eq, beq_eq_false_iff_ne, bne_iff_ne, ne_eq, Bool.not_not, Decidable.not_not] at h20
        refine J.condT rfl rfl ?_
        refine J.region rfl ?_
        refine JO.pur rfl rfl rfl (Pur.move rfl) ?_
        refine JO.pur rfl rfl rfl (Pur.add rfl rfl (wr64 (by omega))) ?_
        refine JO.pur rfl rfl rfl (Pur.assign rfl) ?_
        refine JO.nil ?_
        refine J.inBlock ?_
        refine J.region rfl ?_
        refine JO.pur rfl rfl rfl (Pur.move rfl) ?_
        refine JO.pur rfl rfl rfl (Pur.add rfl rfl (wr64 (by omega))) ?_
        refine JO.pur rfl rfl rfl (Pur.assign rfl) ?_
        refine JO.nil ?_
        exact J.weaken (.cons rfl (congrArg (Value.int .i64) (by rw [eith_next hil, if_pos (show (dd xs i).act = sEither from h20)]; omega)) (.cons rfl (congrArg (Value.int .i64) (by omega)) (.cons rfl rfl .nil))) (by first | exact fun _ h => h | exact SubC.out | (dsimp only; exact SubC.out)) (ih0 (i + 1) (by omega) (by omega))
      · try simp only [decide_eq_true_eq, decide_eq_false_iff_not, Bool.not_eq_true', Bool.not_eq_false', Bool.and_eq_true, Bool.or_eq_true, Bool.and_eq_false_iff, Bool.or_eq_false_iff, Option.isNone_some, Option.isSome_some, Option.isNone_none, Option.isSome_none, Int.not_lt, Int.not_le, beq_iff_eq, beq_eq_false_iff_ne, bne_iff_ne, ne_eq, Bool.not_not, Decidable.not_not] at h20
        refine J.condF rfl rfl ?_
        refine J.skip rfl ?_
        refine J.inBlock ?_
        refine J.region rfl ?_
        refine JO.pur rfl rfl rfl (Pur.move rfl) ?_
        refine JO.pur rfl rfl rfl (Pur.add rfl rfl (wr64 (by omega))) ?_
        refine JO.pur rfl rfl rfl (Pur.assign rfl) ?_
        refine JO.nil ?_
        exact J.weaken (.cons rfl (congrArg (Value.int .i64) (by rw [eith_next hil, if_neg (show ¬ (dd xs i).act = sEither from h20)]; omega)) (.cons rfl (congrArg (Value.int .i64) (by omega)) (.cons rfl rfl .nil))) (by first | exact fun _ h => h | exact SubC.out | (dsimp only; exact SubC.out)) (ih0 (i + 1) (by omega) (by omega))
    · try simp only [decide_eq_true_eq, decide_eq_false_iff_not, Bool.not_eq_true', Bool.not_eq_false', Bool.and_eq_true, Bool.or_eq_true, Bool.and_eq_false_iff, Bool.or_eq_false_iff, Option.isNone_some, Option.isSome_some, Option.isNone_none, Option.isSome_none, Int.not_lt, Int.not_le, beq_iff_eq, beq_eq_false_iff_ne, bne_iff_ne, ne_eq, Bool.not_not, Decidable.not_not] at h12
      refine J.condF rfl rfl ?_
      refine J.exit rfl rfl ?_
      refine J.seq rfl ?_
      refine J.region rfl ?_
      refine JO.pur rfl rfl rfl (Pur.move rfl) ?_
      refine JO.pur rfl rfl rfl (Pur.assign rfl) ?_
      refine JO.pur rfl rfl rfl (Pur.assign rfl) ?_
      refine JO.nil ?_
      refine J.ret rfl rfl ?_
      obtain rfl : i = xs.length := by omega
      exact ⟨_, _, ⟨by unfold chV; rw [if_pos hvb, List.take_length]; rfl, rfl⟩, rfl, SubC.out⟩

set_option maxRecDepth 10000 in
theorem rStraight_ok {L : List Asn} {a b : Option Addr} {n cp m cq : Nat} {xs : List Deed} {cs : List Bool} [SlIn deedE L a xs] [SlIn boolE L b cs] (hn : n = xs.length) (hm : m = cs.length) :
    CallS Try.prog 33 [.slice a n cp, .slice b m cq].toArray L (fun v M => ∃ a' c', v = .tuple #[.slice a' (strV xs cs).1.length c', .int .i64 (strV xs cs).2] ∧ M = sl deedE a' c' (strV xs cs).1 :: L) := by
  subst hn
  subst hm
  refine CallS.ent ?_
  refine CallS.enter Try.func33 rfl rfl rfl rfl rfl ?_
  refine J.seq rfl ?_
  refine J.region rfl ?_
  refine JO.pur rfl rfl rfl (Pur.assign rfl) ?_
  refine JO.pur rfl rfl rfl (Pur.assign rfl) ?_
  refine JO.nil ?_
  refine J.seq rfl ?_
  refine J.seq rfl ?_
  refine J.region rfl ?_
  refine JO.pur rfl rfl rfl (Pur.move rfl) ?_
  refine JO.effR rfl rfl rfl (Eff.call rfl (rvalid_ok (xs := xs) rfl)) ?_
  refine JO.pur rfl rfl rfl (Pur.not rfl) ?_
  refine JO.nil ?_
  refine J.splitB 12 rfl (fun h12 => ?_) (fun h12 => ?_)
  · try simp only [decide_eq_true_eq, decide_eq_false_iff_not, Bool.not_eq_true', Bool.not_eq_false', Bool.and_eq_true, Bool.or_eq_true, Bool.and_eq_false_iff, Bool.or_eq_false_iff, Option.isNone_some, Option.isSome_some, Option.isNone_none, Option.isSome_none, Int.not_lt, Int.not_le, beq_iff_eq, beq_eq_false_iff_ne, bne_iff_ne, ne_eq, Bool.not_not, Decidable.not_not] at h12
    have hvb : ¬ validB xs = true := by simpa using h12
    refine J.condT rfl rfl ?_
    refine J.seq rfl ?_
    refine J.region rfl ?_
    refine JO.pur rfl rfl rfl (Pur.assign rfl) ?_
    refine JO.pur rfl rfl rfl (Pur.assign rfl) ?_
    refine JO.nil ?_
    refine J.ret rfl rfl ?_
    refine ⟨_, _, ⟨none, 0, by unfold strV; rw [if_neg hvb]; rfl, rfl⟩, rfl, fun h s => ?_⟩
    unfold strV; rw [if_neg hvb]
    exact sl_nil_new s
  · try simp only [decide_eq_true_eq, decide_eq_false_iff_not, Bool.not_eq_true', Bool.not_eq_false', Bool.and_eq_true, Bool.or_eq_true, Bool.and_eq_false_iff, Bool.or_eq_false_iff, Option.isNone_some, Option.isSome_some, Option.isNone_none, Option.isSome_none, Int.not_lt, Int.not_le, beq_iff_eq, beq_eq_false_iff_ne, bne_iff_ne, ne_eq, Bool.not_not, Decidable.not_not] at h12
    have hvb : validB xs = true := by simpa using h12
    have hv := valid_open hvb
    have hb6 := valid_len hvb
    refine J.condF rfl rfl ?_
    refine J.skip rfl ?_
    refine J.seq rfl ?_
    refine J.region rfl ?_
    refine JO.pur rfl rfl rfl (Pur.move rfl) ?_
    refine JO.pur rfl rfl rfl (Pur.move rfl) ?_
    refine JO.eff rfl rfl rfl (Eff.call rfl (come_ok (xs := xs) (cs := cs) rfl rfl hvb)) ?_
    rintro _ _ ⟨a6, c6, a7, c7, md, hml, rfl, rfl⟩
    refine JO.pur rfl rfl rfl (Pur.move rfl) ?_
    refine JO.pur rfl rfl rfl (Pur.extract rfl rfl) ?_
    refine JO.pur rfl rfl rfl (Pur.extract rfl rfl) ?_
    refine JO.pur rfl rfl rfl (Pur.assign rfl) ?_
    refine JO.pur rfl rfl rfl (Pur.assign rfl) ?_
    refine JO.nil ?_
    refine J.seq rfl ?_
    refine J.region rfl ?_
    refine JO.pur rfl rfl rfl (Pur.assign rfl) ?_
    refine JO.nil ?_
    refine J.seq rfl ?_
    refine J.seq rfl ?_
    obtain ⟨S, hS⟩ : ∃ S, S = (wayV xs cs).steps := ⟨_, rfl⟩
    rw [← hS]
    have hSl := fz_len S
    have hpl : ∀ i ∈ S, i < xs.length ∧ PlainD (dd xs i) := by rw [hS]; exact way_plain hv (Nat.le_refl _)
    have hS60 : S.length ≤ 60 := by rw [hS]; exact Nat.le_trans (wlen (Nat.le_refl _)).1 hb6
    refine J.region rfl ?_
    refine JO.pur rfl rfl rfl (Pur.assign rfl) ?_
    refine JO.nil ?_
    refine J.block rfl ?_
    refine J.loopF (ι := Nat × Option Addr × Nat) (fun q => q.1 ≤ S.length) (fun q => [(8, .slice q.2.1 q.1 q.2.2), (9, .int .i64 (q.1 : Int))]) [(0, _), (6, _)] (fun q => sl deedE q.2.1 q.2.2 ((S.take q.1).map (dd xs)) :: sl intE a6 c6 (fz S) :: sl boolE a7 c7 md :: L) (fun q => S.length - q.1) (0, none, 0) rfl (.cons rfl rfl (.cons rfl rfl .nil)) (.cons rfl rfl (.cons rfl rfl .nil)) (fun h s => by dsimp only; rw [List.take_zero, List.map_nil]; exact SubC.out h (sl_nil_new (E := deedE) s)) (Nat.zero_le _) ?_
    rintro ⟨k, a8, c8⟩ hk ih0
    try dsimp only
    dsimp only at hk
    refine J.seq rfl ?_
    refine J.seq rfl ?_
    refine J.region rfl ?_
    refine JO.pur rfl rfl rfl (Pur.move rfl) ?_
    refine JO.pur rfl rfl rfl (Pur.move rfl) ?_
    refine JO.pur rfl rfl rfl (Pur.len rfl) ?_
    refine JO.pur rfl rfl rfl (Pur.lss rfl rfl) ?_
    refine JO.nil ?_
    refine J.splitB 22 rfl (fun h22 => ?_) (fun h22 => ?_)
    · try simp only [decide_eq_true_eq, decide_eq_false_iff_not, Bool.not_eq_true', Bool.not_eq_false', Bool.and_eq_true, Bool.or_eq_true, Bool.and_eq_false_iff, Bool.or_eq_false_iff, Option.isNone_some, Option.isSome_some, Option.isNone_none, Option.isSome_none, Int.not_lt, Int.not_le, beq_iff_eq, beq_eq_false_iff_ne, bne_iff_ne, ne_eq, Bool.not_not, Decidable.not_not] at h22
      have hkl : k < S.length := by omega
      obtain ⟨j, hj⟩ : ∃ j, S[k]? = some j := ⟨_, List.getElem?_eq_getElem hkl⟩
      have hjl := (hpl j (List.mem_of_getElem? hj)).1
      have hx : (fz S)[k]? = some (j : Int) := by unfold fz; rw [List.getElem?_map, hj]; rfl
      have htl : ((S.take k).map (dd xs)).length = k := by simp; omega
      refine J.condT rfl rfl ?_
      refine J.skip rfl ?_
      refine J.seq rfl ?_
      refine J.block rfl ?_
      refine J.region rfl ?_
      refine JO.pur rfl rfl rfl (Pur.move rfl) ?_
      refine JO.pur rfl rfl rfl (Pur.move rfl) ?_
      refine JO.pur rfl rfl rfl (Pur.move rfl) ?_
      refine JO.pur rfl rfl rfl (Pur.move rfl) ?_
      refine JO.pur rfl rfl rfl (Pur.idx rfl rfl rfl (by first | rfl | (simp; done) | omega) rfl (by omega)) ?_
      refine JO.pur rfl rfl rfl (Pur.load rfl (CellIn.el0 rfl hx rfl)) ?_
      refine JO.pur rfl rfl rfl (Pur.idx rfl rfl rfl (by first | rfl | (simp; done) | omega) rfl hjl) ?_
      refine JO.pur rfl rfl rfl (Pur.loadA rfl rfl rfl (CellsIn.el rfl (dd_get hjl))) ?_
      refine JO.eff rfl rfl rfl (Eff.buildSlice deedE [dd xs j] rfl rfl rfl rfl rfl rfl rfl) ?_
      rintro _ _ ⟨b33, rfl, -, rfl⟩
      refine JO.eff rfl rfl rfl (Eff.append rfl rfl rfl rfl (by first | rfl | omega | (simp; done) | (simp; omega)) (by first | rfl | omega | (simp; done) | (simp; omega)) (by decide) (by first | omega | (simp only [List.length_cons, List.length_nil]; omega) | (simp; omega)) (by first | omega | (simp only [List.length_cons, List.length_nil]; omega) | (simp; omega)) (fun h => by cases h)) ?_
      rintro _ _ ⟨a34, c34, rfl, rfl⟩
      refine JO.pur rfl rfl rfl (Pur.assign rfl) ?_
      refine JO.nil ?_
      refine J.inBlock ?_
      refine J.region rfl ?_
      refine JO.pur rfl rfl rfl (Pur.move rfl) ?_
      refine JO.pur rfl rfl rfl (Pur.add rfl rfl (wr64 (by omega))) ?_
      refine JO.pur rfl rfl rfl (Pur.assign rfl) ?_
      refine JO.nil ?_
      exact J.weaken (.cons rfl (by dsimp only; rw [htl]; rfl) (.cons rfl (congrArg (Value.int .i64) (by first | rfl | (dsimp only; omega))) (.cons rfl rfl (.cons rfl rfl .nil)))) (fun h s => by dsimp only; rw [List.take_add_one, hj]; rw [List.map_append, show List.map (dd xs) (some j).toList = [dd xs j] from rfl]; exact SubC.out h s) (ih0 (k + 1, a34, c34) (by dsimp only; omega) (by dsimp only; omega))
    · try simp only [decide_eq_true_eq, decide_eq_false_iff_not, Bool.not_eq_true', Bool.not_eq_false', Bool.and_eq_true, Bool.or_eq_true, Bool.and_eq_false_iff, Bool.or_eq_false_iff, Option.isNone_some, Option.isSome_some, Option.isNone_none, Option.isSome_none, Int.not_lt, Int.not_le, beq_iff_eq, beq_eq_false_iff_ne, bne_iff_ne, ne_eq, Bool.not_not, Decidable.not_not] at h22
      refine J.condF rfl rfl ?_
      refine J.exit rfl rfl ?_
      refine J.seq rfl ?_
      refine J.region rfl ?_
      refine JO.pur rfl rfl rfl (Pur.move rfl) ?_
      refine JO.pur rfl rfl rfl (Pur.assign rfl) ?_
      refine JO.pur rfl rfl rfl (Pur.assign rfl) ?_
      refine JO.nil ?_
      refine J.ret rfl rfl ?_
      obtain rfl : k = S.length := by omega
      have hsm : (wayV xs cs).steps.map (dd xs) = S.map (dd xs) := by rw [hS]
      refine ⟨_, _, ⟨a8, c8, by unfold strV; rw [if_pos hvb, hsm, List.length_map]; rfl, rfl⟩, rfl, fun h s => ?_⟩
      unfold strV; rw [if_pos hvb, hsm]
      rw [List.take_length] at s
      exact SubC.out h s

set_option maxRecDepth 10000 in
theorem rLeaks_ok {L : List Asn} {a b : Option Addr} {n cp m cq : Nat} {xs : List Deed} {cs : List Bool} [SlIn deedE L a xs] [SlIn boolE L b cs] (hn : n = xs.length) (hm : m = cs.length) :
    CallS Try.prog 26 [.slice a n cp, .slice b m cq].toArray L (fun v M => ∃ a' c', v = .tuple #[.slice a' (lkV xs cs).1.length c', .int .i64 (lkV xs cs).2] ∧ M = sl intE a' c' (lkV xs cs).1 :: L) := by
  subst hn
  subst hm
  refine CallS.ent ?_
  refine CallS.enter Try.func26 rfl rfl rfl rfl rfl ?_
  refine J.seq rfl ?_
  refine J.region rfl ?_
  refine JO.pur rfl rfl rfl (Pur.assign rfl) ?_
  refine JO.pur rfl rfl rfl (Pur.assign rfl) ?_
  refine JO.nil ?_
  refine J.seq rfl ?_
  refine J.seq rfl ?_
  refine J.region rfl ?_
  refine JO.pur rfl rfl rfl (Pur.move rfl) ?_
  refine JO.effR rfl rfl rfl (Eff.call rfl (rvalid_ok (xs := xs) rfl)) ?_
  refine JO.pur rfl rfl rfl (Pur.not rfl) ?_
  refine JO.nil ?_
  refine J.splitB 11 rfl (fun h11 => ?_) (fun h11 => ?_)
  · try simp only [decide_eq_true_eq, decide_eq_false_iff_not, Bool.not_eq_true', Bool.not_eq_false', Bool.and_eq_true, Bool.or_eq_true, Bool.and_eq_false_iff, Bool.or_eq_false_iff, Option.isNone_some, Option.isSome_some, Option.isNone_none, Option.isSome_none, Int.not_lt, Int.not_le, beq_iff_eq, beq_eq_false_iff_ne, bne_iff_ne, ne_eq, Bool.not_not, Decidable.not_not] at h11
    have hvb : ¬ validB xs = true := by simpa using h11
    refine J.condT rfl rfl ?_
    refine J.seq rfl ?_
    refine J.region rfl ?_
    refine JO.pur rfl rfl rfl (Pur.assign rfl) ?_
    refine JO.pur rfl rfl rfl (Pur.assign rfl) ?_
    refine JO.nil ?_
    refine J.ret rfl rfl ?_
    refine ⟨_, _, ⟨none, 0, by unfold lkV; rw [if_neg hvb]; rfl, rfl⟩, rfl, fun h s => ?_⟩
    unfold lkV; rw [if_neg hvb]
    exact sl_nil_new s
  · try simp only [decide_eq_true_eq, decide_eq_false_iff_not, Bool.not_eq_true', Bool.not_eq_false', Bool.and_eq_true, Bool.or_eq_true, Bool.and_eq_false_iff, Bool.or_eq_false_iff, Option.isNone_some, Option.isSome_some, Option.isNone_none, Option.isSome_none, Int.not_lt, Int.not_le, beq_iff_eq, beq_eq_false_iff_ne, bne_iff_ne, ne_eq, Bool.not_not, Decidable.not_not] at h11
    have hvb : validB xs = true := by simpa using h11
    have hv := valid_open hvb
    have hb6 := valid_len hvb
    have gE := endV_good (cs := cs) hv
    have hE21 := gE.n21
    have hE1 := gE.n1
    have htl : (endV xs cs).alive.tail.length = (endV xs cs).alive.length - 1 := List.length_tail
    have hl1 : lk (endV xs cs).alive (0 + 1) = [] := by rw [lk_no gE.a0]; rfl
    refine J.condF rfl rfl ?_
    refine J.skip rfl ?_
    refine J.seq rfl ?_
    refine J.region rfl ?_
    refine JO.pur rfl rfl rfl (Pur.move rfl) ?_
    refine JO.pur rfl rfl rfl (Pur.move rfl) ?_
    refine JO.eff rfl rfl rfl (Eff.call rfl (rended_ok (xs := xs) (cs := cs) rfl rfl hvb)) ?_
    rintro _ _ ⟨p, aa, ca, ac, cc, af, cf, rfl, rfl⟩
    refine JO.pur rfl rfl rfl (Pur.assign rfl) ?_
    refine JO.nil ?_
    refine J.seq rfl ?_
    refine J.region rfl ?_
    refine JO.pur rfl rfl rfl (Pur.assign rfl) ?_
    refine JO.nil ?_
    refine J.seq rfl ?_
    refine J.seq rfl ?_
    refine J.region rfl ?_
    refine JO.pur rfl rfl rfl (Pur.assign rfl) ?_
    refine JO.nil ?_
    refine J.block rfl ?_
    refine J.loopF (ι := Nat × Option Addr × Nat) (fun q => q.1 ≤ (endV xs cs).alive.tail.length) (fun q => [(7, .slice q.2.1 (lk (endV xs cs).alive (q.1 + 1)).length q.2.2), (8, .int .i64 (q.1 : Int))]) [(6, _)] (fun q => sl intE q.2.1 q.2.2 (lk (endV xs cs).alive (q.1 + 1)) :: blk p (arr hE (hs (endV xs cs).vars) [.slice aa (endV xs cs).alive.tail.length ca, .slice ac (rc (endV xs cs)).length cc, .slice af (fz (endV xs cs).freed).length cf] 71) :: sl boolE aa ca (endV xs cs).alive.tail :: sl intE ac cc (rc (endV xs cs)) :: sl intE af cf (fz (endV xs cs).freed) :: L) (fun q => (endV xs cs).alive.tail.length - q.1) (0, none, 0) rfl (.cons rfl rfl .nil) (.cons rfl (by dsimp only; rw [hl1]; rfl) (.cons rfl rfl .nil)) (fun h s => by dsimp only; rw [show lk (endV xs cs).alive (0 + 1) = [] from hl1]; exact SubC.out h (sl_nil_new (E := intE) s)) (Nat.zero_le _) ?_
    rintro ⟨i, a7, c7⟩ hi ih0
    try dsimp only
    dsimp only at hi
    have hlk := lk_len (endV xs cs).alive (i + 1)
    refine J.seq rfl ?_
    refine J.seq rfl ?_
    refine J.region rfl ?_
    refine JO.pur rfl rfl rfl (Pur.move rfl) ?_
    refine JO.pur rfl rfl rfl (Pur.move rfl) ?_
    refine JO.pur rfl rfl rfl (Pur.nilCheck rfl) ?_
    refine JO.pur rfl rfl rfl (Pur.fieldAddr rfl) ?_
    refine JO.pur rfl rfl rfl (Pur.load rfl (CellIn.arrT (n := 16) (k := 0) (by rw [hs_len, gE.v8]; rfl) rfl)) ?_
    refine JO.pur rfl rfl rfl (Pur.len rfl) ?_
    refine JO.pur rfl rfl rfl (Pur.lss rfl rfl) ?_
    refine JO.nil ?_
    refine J.splitB 21 rfl (fun h21 => ?_) (fun h21 => ?_)
    · try simp only [decide_eq_true_eq, decide_eq_false_iff_not, Bool.not_eq_true', Bool.not_eq_false', Bool.and_eq_true, Bool.or_eq_true, Bool.and_eq_false_iff, Bool.or_eq_false_iff, Option.isNone_some, Option.isSome_some, Option.isNone_none, Option.isSome_none, Int.not_lt, Int.not_le, beq_iff_eq, beq_eq_false_iff_ne, bne_iff_ne, ne_eq, Bool.not_not, Decidable.not_not] at h21
      have hil : i + 1 < (endV xs cs).alive.length := by omega
      have htg := tail_get (l := (endV xs cs).alive) (o := i + 1) (by omega) hil
      refine J.condT rfl rfl ?_
      refine J.skip rfl ?_
      refine J.seq rfl ?_
      refine J.block rfl ?_
      refine J.seq rfl ?_
      refine J.region rfl ?_
      refine JO.pur rfl rfl rfl (Pur.move rfl) ?_
      refine JO.pur rfl rfl rfl (Pur.nilCheck rfl) ?_
      refine JO.pur rfl rfl rfl (Pur.fieldAddr rfl) ?_
      refine JO.pur rfl rfl rfl (Pur.load rfl (CellIn.arrT (n := 16) (k := 0) (by rw [hs_len, gE.v8]; rfl) rfl)) ?_
      refine JO.pur rfl rfl rfl (Pur.move rfl) ?_
      refine JO.pur rfl rfl rfl (Pur.idx rfl rfl rfl (by first | rfl | (simp; done) | omega) rfl (by omega)) ?_
      refine JO.pur rfl rfl rfl (Pur.load rfl (CellIn.el0 rfl htg rfl)) ?_
      refine JO.nil ?_
      refine J.splitB 30 rfl (fun h30 => ?_) (fun h30 => ?_)
      · try simp only [decide_eq_true_eq, decide_eq_false_iff_not, Bool.not_eq_true', Bool.not_eq_false', Bool.and_eq_true, Bool.or_eq_true, Bool.and_eq_false_iff, Bool.or_eq_false_iff, Option.isNone_some, Option.isSome_some, Option.isNone_none, Option.isSome_none, Int.not_lt, Int.not_le, beq_iff_eq, beq_eq_false_iff_ne, bne_iff_ne, ne_eq, Bool.not_not, Decidable.not_not] at h30
        have hal : (endV xs cs).alive.getD (i + 1) false = true := by simpa using h30
        refine J.condT rfl rfl ?_
        refine J.region rfl ?_
        refine JO.pur rfl rfl rfl (Pur.move rfl) ?_
        refine JO.pur rfl rfl rfl (Pur.move rfl) ?_
        refine JO.pur rfl rfl rfl (Pur.add rfl rfl (wr64 (by omega))) ?_
        refine JO.eff rfl rfl rfl (Eff.buildSlice intE [((i + 1 : Nat) : Int)] rfl rfl rfl rfl rfl rfl rfl) ?_
        rintro _ _ ⟨b34, rfl, -, rfl⟩
        refine JO.eff rfl rfl rfl (Eff.append rfl rfl rfl rfl (by first | rfl | omega | (simp; done) | (simp; omega)) (by first | rfl | omega | (simp; done) | (simp; omega)) (by decide) (by first | omega | (simp only [List.length_cons, List.length_nil]; omega) | (simp; omega)) (by first | omega | (simp only [List.length_cons, List.length_nil]; omega) | (simp; omega)) (fun h => by cases h)) ?_
        rintro _ _ ⟨a35, c35, rfl, rfl⟩
        refine JO.pur rfl rfl rfl (Pur.assign rfl) ?_
        refine JO.nil ?_
        refine J.inBlock ?_
        refine J.region rfl ?_
        refine JO.pur rfl rfl rfl (Pur.move rfl) ?_
        refine JO.pur rfl rfl rfl (Pur.add rfl rfl (wr64 (by omega))) ?_
        refine JO.pur rfl rfl rfl (Pur.assign rfl) ?_
        refine JO.nil ?_
        exact J.weaken (.cons rfl (by dsimp only; rw [lk_yes hal, List.length_append]) (.cons rfl (congrArg (Value.int .i64) (by first | rfl | (dsimp only; omega))) (.cons rfl rfl .nil))) (fun h s => by dsimp only; rw [lk_yes hal]; exact SubC.out h s) (ih0 (i + 1, a35, c35) (by dsimp only; omega) (by dsimp only; omega))
      · try simp only [decide_eq_true_eq, decide_eq_false_iff_not, Bool.not_eq_true', Bool.not_eq_false', Bool.and_eq_true, Bool.or_eq_true, Bool.and_eq_false_iff, Bool.or_eq_false_iff, Option.isNone_some, Option.isSome_some, Option.isNone_none, Option.isSome_none, Int.not_lt, Int.not_le, beq_iff_eq, beq_eq_false_iff_ne, bne_iff_ne, ne_eq, Bool.not_not, Decidable.not_not] at h30
        have hal : (endV xs cs).alive.getD (i + 1) false = false := by simpa using h30
        refine J.condF rfl rfl ?_
        refine J.skip rfl ?_
        refine J.inBlock ?_
        refine J.region rfl ?_
        refine JO.pur rfl rfl rfl (Pur.move rfl) ?_
        refine JO.pur rfl rfl rfl (Pur.add rfl rfl (wr64 (by omega))) ?_
        refine JO.pur rfl rfl rfl (Pur.assign rfl) ?_
        refine JO.nil ?_
        exact J.weaken (.cons rfl (by dsimp only; rw [lk_no hal]) (.cons rfl (congrArg (Value.int .i64) (by first | rfl | (dsimp only; omega))) (.cons rfl rfl .nil))) (fun h s => by dsimp only; rw [lk_no hal]; exact SubC.out h s) (ih0 (i + 1, a7, c7) (by dsimp only; omega) (by dsimp only; omega))
    · try simp only [decide_eq_true_eq, decide_eq_false_iff_not, Bool.not_eq_true', Bool.not_eq_false', Bool.and_eq_true, Bool.or_eq_true, Bool.and_eq_false_iff, Bool.or_eq_false_iff, Option.isNone_some, Option.isSome_some, Option.isNone_none, Option.isSome_none, Int.not_lt, Int.not_le, beq_iff_eq, beq_eq_false_iff_ne, bne_iff_ne, ne_eq, Bool.not_not, Decidable.not_not] at h21
      refine J.condF rfl rfl ?_
      refine J.exit rfl rfl ?_
      refine J.seq rfl ?_
      refine J.region rfl ?_
      refine JO.pur rfl rfl rfl (Pur.move rfl) ?_
      refine JO.pur rfl rfl rfl (Pur.assign rfl) ?_
      refine JO.pur rfl rfl rfl (Pur.assign rfl) ?_
      refine JO.nil ?_
      refine J.ret rfl rfl ?_
      have hie : i + 1 = (endV xs cs).alive.length := by omega
      refine ⟨_, _, ⟨a7, c7, by unfold lkV; rw [if_pos hvb, ← hie]; rfl, rfl⟩, rfl, fun h s => ?_⟩
      unfold lkV; rw [if_pos hvb, ← hie]
      exact SubC.out h s

end Go.Proofs.Ythdaopmfgmojnaa

/- The text OBack. -/
/-!
  What the document's judge comes to: how many choices lie in front of a deed, all lists of choices off a stack, how many share an object.
-/
set_option linter.unusedVariables false
set_option linter.unusedSimpArgs false
namespace Go.Proofs.Ythdaopmfgmojnaa
open Go Go.KK Ow
theorem cn_count {vs : List Vr} {ob : Int} : ∀ {n : Nat}, n ≤ vs.length → cn vs ob n = (((vs.take n).countP (fun v => decide (v = ⟨2, ob.toNat⟩)) : Nat) : Int)
  | 0, _ => by simp [cn]
  | n + 1, h => by
    have hn : n < vs.length := by omega
    rw [cn, cn_count (n := n) (by omega), List.take_add_one, List.getElem?_eq_getElem hn, Option.toList_some, List.countP_append]
    have e : vs.getD n default = vs[n] := by simp [List.getD_eq_getElem?_getD, hn]
    rw [e, List.countP_cons, List.countP_nil]
    by_cases h1 : vs[n] = ⟨2, ob.toNat⟩
    · rw [if_pos h1, if_pos (by simpa using h1)]; omega
    · rw [if_neg h1, if_neg (by simpa using h1)]; omega
theorem cn_rc {σ : Sx} (g : Ow.Good σ) {o : Nat} (h2 : o < σ.alive.length) : cn σ.vars (o : Int) 8 = if σ.kind.getD o 0 = 2 then σ.count.getD o 0 else 0 := by
  rw [cn_count (by rw [g.v8]; exact Nat.le_refl _), List.take_of_length_le (by rw [g.v8]; exact Nat.le_refl _), Int.toNat_natCast]
  by_cases hk : σ.kind.getD o 0 = 2
  · rw [if_pos hk, g.cnt o h2 hk]; rfl
  · rw [if_neg hk]
    by_cases hp : 0 < sharers σ o
    · obtain ⟨i, hi⟩ := sharers_ex hp
      have := g.shr i (by rw [hi])
      rw [hi] at this; exact absurd this hk
    · show ((sharers σ o : Nat) : Int) = 0; omega
theorem rc_at {σ : Sx} {o : Nat} (h1 : 1 ≤ o) (h2 : o < σ.alive.length) : (rc σ)[o - 1]? = some (if σ.kind.getD o 0 = 2 then σ.count.getD o 0 else 0) := by
  unfold rc
  rw [List.getElem?_map, List.getElem?_range (by omega)]
  simp only [Option.map_some, show o - 1 + 1 = o by omega]

/-! In front of a deed. -/
theorem wf_grow {l : List Deed} {c : List Bool} {n : Nat} : (∃ s, (wfold l c (n + 1)).steps = (wfold l c n).steps ++ s ∧ ∀ x ∈ s, x = n) ∧ (∃ m, (wfold l c (n + 1)).met = (wfold l c n).met ++ m ∧ ∀ x ∈ m, x = n) := by
  have h0 : (∃ s, (wfold l c n).steps = (wfold l c n).steps ++ s ∧ ∀ x ∈ s, x = n) := ⟨[], by simp, by simp⟩
  have h1 : (∃ m, (wfold l c n).met = (wfold l c n).met ++ m ∧ ∀ x ∈ m, x = n) := ⟨[], by simp, by simp⟩
  rw [wfold]
  cases hl : l[n]? with
  | none => exact ⟨h0, h1⟩
  | some d =>
    dsimp only
    unfold wstep
    split
    · split
      · exact ⟨h0, ⟨[n], rfl, by simp⟩⟩
      · exact ⟨h0, h1⟩
    · split
      · split <;> exact ⟨h0, h1⟩
      · split
        · split <;> exact ⟨h0, h1⟩
        · split
          · exact ⟨⟨[n], rfl, by simp⟩, h1⟩
          · exact ⟨h0, h1⟩
theorem wf_steps {l : List Deed} {c : List Bool} {q : Nat} : ∀ {n : Nat}, q ≤ n → ∃ s, (wfold l c n).steps = (wfold l c q).steps ++ s ∧ ∀ x ∈ s, q ≤ x ∧ x < n
  | 0, h => ⟨[], by obtain rfl : q = 0 := by omega
                    simp, by simp⟩
  | n + 1, h => by
    rcases Nat.eq_or_lt_of_le h with rfl | h
    · exact ⟨[], by simp, by simp⟩
    · obtain ⟨s, h1, h2⟩ := wf_steps (l := l) (c := c) (q := q) (n := n) (by omega)
      obtain ⟨⟨t, h3, h4⟩, _⟩ := wf_grow (l := l) (c := c) (n := n)
      refine ⟨s ++ t, by rw [h3, h1, List.append_assoc], fun x hx => ?_⟩
      rcases List.mem_append.1 hx with hx | hx
      · have := h2 x hx; omega
      · have := h4 x hx; omega
theorem wf_met {l : List Deed} {c : List Bool} {q : Nat} : ∀ {n : Nat}, q ≤ n → ∃ s, (wfold l c n).met = (wfold l c q).met ++ s ∧ ∀ x ∈ s, q ≤ x ∧ x < n
  | 0, h => ⟨[], by obtain rfl : q = 0 := by omega
                    simp, by simp⟩
  | n + 1, h => by
    rcases Nat.eq_or_lt_of_le h with rfl | h
    · exact ⟨[], by simp, by simp⟩
    · obtain ⟨s, h1, h2⟩ := wf_met (l := l) (c := c) (q := q) (n := n) (by omega)
      obtain ⟨_, ⟨t, h3, h4⟩⟩ := wf_grow (l := l) (c := c) (n := n)
      refine ⟨s ++ t, by rw [h3, h1, List.append_assoc], fun x hx => ?_⟩
      rcases List.mem_append.1 hx with hx | hx
      · have := h2 x hx; omega
      · have := h4 x hx; omega
theorem wf0 {l : List Deed} {c : List Bool} : (wfold l c 0).steps = [] ∧ (wfold l c 0).met = [] := ⟨rfl, rfl⟩
theorem steps_lt {l : List Deed} {c : List Bool} {q x : Nat} (h : x ∈ (wfold l c q).steps) : x < q := by
  obtain ⟨s, h1, h2⟩ := wf_steps (l := l) (c := c) (q := 0) (n := q) (by omega)
  rw [h1, wf0.1, List.nil_append] at h
  exact (h2 x h).2
/-- A place that the way comes to is not passed by: from one place of the way to the next, nothing is done between. -/
theorem not_passed {l : List Deed} {c : List Bool} {i q p : Nat} (hp : p ∈ (wayV l c).steps) (hip : i ≤ p) (hne : i ≠ p) (hq : q ≤ l.length) (hiq : i < q) (hst : (wfold l c q).steps = (wfold l c i).steps ∨ (wfold l c q).steps = (wfold l c i).steps ++ [i]) : q ≤ p := by
  rcases Nat.lt_or_ge p q with h | h
  · exfalso
    obtain ⟨s, h1, h2⟩ := wf_steps (l := l) (c := c) (q := q) (n := l.length) hq
    have hp2 : p ∈ (wfold l c q).steps := by
      have : p ∈ (wfold l c l.length).steps := hp
      rw [h1] at this
      rcases List.mem_append.1 this with h3 | h3
      · exact h3
      · have := h2 p h3; omega
    rcases hst with h3 | h3
    · rw [h3] at hp2; have := steps_lt hp2; omega
    · rw [h3] at hp2
      rcases List.mem_append.1 hp2 with h4 | h4
      · have := steps_lt h4; omega
      · simp at h4; omega
  · exact h
theorem lead_app {at' : Int} : ∀ {a b : List Nat}, (∀ x ∈ a, (x : Int) < at') → (∀ x ∈ b, ¬ (x : Int) < at') → lead (a ++ b) at' = a.length
  | [], b, _, h => by
    cases b with
    | nil => rfl
    | cons y r => unfold lead; rw [List.nil_append, List.takeWhile_cons, if_neg (by have := h y (by simp); simpa using this)]
  | y :: r, b, h1, h2 => by
    have ih := lead_app (a := r) (b := b) (fun x hx => h1 x (by simp [hx])) h2
    unfold lead at ih ⊢
    rw [List.cons_append, List.takeWhile_cons, if_pos (by have := h1 y (by simp); simpa using this), List.length_cons, ih, List.length_cons]
theorem lead_met {l : List Deed} {c : List Bool} {p : Nat} (h : p ≤ l.length) : lead (wayV l c).met (p : Int) = (wfold l c p).met.length := by
  obtain ⟨s, h1, h2⟩ := wf_met (l := l) (c := c) (q := p) (n := l.length) h
  obtain ⟨s0, h3, h4⟩ := wf_met (l := l) (c := c) (q := 0) (n := p) (by omega)
  rw [wf0.2, List.nil_append] at h3
  unfold wayV
  rw [h1]
  exact lead_app (fun x hx => by rw [h3] at hx; have := h4 x hx; omega) (fun x hx => by have := h2 x hx; omega)

/-! The stack. -/
def open8 (xs : List Deed) (c : List Bool) : Prop := c.length ≤ mt xs c
/-- What the lists on a stack come to, the top last. -/
def stk (xs : List Deed) : List (List Bool) → List (List Bool)
  | [] => []
  | c :: r => TT xs c ++ stk xs r
theorem Fut_nil (xs : List Deed) : Fut xs [] = TT xs [] := by unfold Fut; simp [rt]
theorem T_pos (l : List Deed) : ∀ (f : Nat) (c : List Bool), 1 ≤ (T l f c).length
  | 0, c => by simp [T]
  | f + 1, c => by
    rw [T]; split
    · simp
    · have := T_pos l f (c ++ [true]); simp; omega
theorem stk_len (xs : List Deed) : ∀ (td : List (List Bool)), td.length ≤ (stk xs td).length
  | [] => by simp [stk]
  | c :: r => by have := stk_len xs r; have h := T_pos xs (8 - c.length) c; simp only [stk, List.length_cons, List.length_append]; unfold TT; omega
def wgt : List (List Bool) → Nat
  | [] => 0
  | c :: r => 2 ^ (9 - c.length) + wgt r
theorem wgt_two {c : List Bool} {r : List (List Bool)} (h : c.length < 8) : wgt ((c ++ [true]) :: (c ++ [false]) :: r) + 0 = wgt (c :: r) := by
  simp only [wgt, List.length_append, List.length_singleton]
  obtain ⟨k, hk⟩ : ∃ k, 9 - c.length = k + 1 := ⟨8 - c.length, by omega⟩
  rw [hk, show 9 - (c.length + 1) = k by omega, Nat.pow_succ]; omega
theorem wgt_one {c : List Bool} {r : List (List Bool)} : wgt r < wgt (c :: r) := by
  have : 0 < 2 ^ (9 - c.length) := Nat.two_pow_pos _
  simp only [wgt]; omega
def wg2 : List (List Bool) → Nat
  | [] => 0
  | c :: r => (2 ^ (9 - c.length) - 1) + wg2 r
theorem wg2_two {c : List Bool} {r : List (List Bool)} (h : c.length < 8) : wg2 ((c ++ [true]) :: (c ++ [false]) :: r) < wg2 (c :: r) := by
  simp only [wg2, List.length_append, List.length_singleton]
  obtain ⟨k, hk⟩ : ∃ k, 9 - c.length = k + 1 := ⟨8 - c.length, by omega⟩
  have := Nat.two_pow_pos k
  rw [hk, show 9 - (c.length + 1) = k by omega, Nat.pow_succ]; omega
theorem wg2_one {c : List Bool} {r : List (List Bool)} (h : c.length ≤ 8) : wg2 r < wg2 (c :: r) := by
  have : 2 ^ 1 ≤ 2 ^ (9 - c.length) := Nat.pow_le_pow_right (by omega) (by omega)
  simp only [wg2]; omega
section
variable {α : Type} {E : Enc α}
theorem rows_unsnoc {hs : List Hdr} {hd : Hdr} {xss : List (List α)} {xs : List α} {L : List Asn} {h : Hp} (s : Sat h (rows E (hs ++ [hd]) (xss ++ [xs]) :: L)) :
    hd.n = xs.length ∧ Sat h (sl E hd.a hd.cap xs :: rows E hs xss :: L) := by
  obtain ⟨e, s4⟩ := rows_iff.1 s
  have hlen : hs.length = xss.length := by have := rows_len e; simpa using this
  simp only [List.map_append, List.map_cons, List.map_nil] at e
  obtain ⟨e1, e2⟩ := List.append_inj' e rfl
  have e3 : rowL E (hs ++ [hd]) (xss ++ [xs]) = rowL E hs xss ++ [sl E hd.a hd.cap xs] := by
    unfold rowL
    rw [List.zip_append hlen]; simp
  rw [e3] at s4
  have s5 : Sat h (sl E hd.a hd.cap xs :: (rowL E hs xss ++ L)) := Sat.perm (by simp) s4
  obtain ⟨k1, k2, d, l1, l2, a, s6⟩ := s5
  exact ⟨by simpa using e2, k1, k2, d, l1, l2, a, rows_iff.2 ⟨e1, s6⟩⟩
end
end Go.Proofs.Ythdaopmfgmojnaa
