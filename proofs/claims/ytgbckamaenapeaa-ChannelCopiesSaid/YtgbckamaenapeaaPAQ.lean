/-
  A part of the proof of the claim that this folder bears.
-/
import Derived.Test.YtgbckamaenapeaaPAN
import Derived.Test.YtgbckamaenapeaaPAP
import Derived.Test.YtgbckamaenapeaaPAL
import Derived.Test.YtgbckamaenapeaaKD
/- The text HLaw9. -/
set_option linter.unusedVariables false
set_option linter.unusedSimpArgs false
set_option maxRecDepth 10000
namespace Go.Proofs.Ytgbckamaenapeaa
open Go Go.KK Hf

def plF (F : Fl) (acs : List Ac) (yss : List (List UInt8)) : Nat → Fl
  | 0 => F
  | q + 1 => stepF (plF F acs yss q) (acs.getD q default).d (acs.getD q default).a (acs.getD q default).b (yss.getD q [])
theorem good_pl {F : Fl} {k : Nat} (g : Hf.Good F k) (acs : List Ac) (yss : List (List UInt8)) : ∀ q, Hf.Good (plF F acs yss q) (k + q)
  | 0 => g
  | q + 1 => good_step (good_pl g acs yss q) _ _ _ _
theorem asc_pl {F : Fl} {k : Nat} (g : Hf.Good F k) (a : Asc F) (acs : List Ac) (yss : List (List UInt8)) : ∀ q, Asc (plF F acs yss q)
  | 0 => a
  | q + 1 => asc_step (good_pl g acs yss q) (asc_pl g a acs yss q) _ _ _ _
theorem channelCopies_big {L : List Asn} {a b b2 : Option Addr} {n cap m cq m2 cq2 : Nat} {xs : List UInt8} {acs acs2 : List Ac} {yss yss2 : List (List UInt8)} [SlIn byE L a xs] [SlIn acE L b acs] [RowsR byE L (acs.map Ac.y) yss] [SlIn acE L b2 acs2] [RowsR byE L (acs2.map Ac.y) yss2] (hn : n = xs.length) (hm : m = acs.length) (hmx : acs.length ≤ 9223372036854775807) (hpl : ∀ ys ∈ yss, ys.length ≤ 9223372036854775807) (hm2 : m2 = acs2.length) (hmx2 : acs2.length ≤ 9223372036854775807) (hpl2 : ∀ ys ∈ yss2, ys.length ≤ 9223372036854775807) (hnil : a = none → n = 0 ∧ cap = 0) (hbig : ¬ xs.length ≤ 400) :
    CallS Try.prog 9 [.slice a n cap, .slice b m cq, .slice b2 m2 cq2].toArray L (fun v M => v = .bool true ∧ M = L) := by
  subst hn
  subst hm
  subst hm2
  refine CallS.fact (fun h s => RowsR.len (E := byE) (hs := acs.map Ac.y) (xss := yss) s) fun hnn => ?_
  have hhl : acs.length = yss.length := by have := rows_len hnn; simpa using this
  refine CallS.fact (fun h s => RowsR.len (E := byE) (hs := acs2.map Ac.y) (xss := yss2) s) fun hnn2 => ?_
  have hhl2 : acs2.length = yss2.length := by have := rows_len hnn2; simpa using this
  refine CallS.ent ?_
  refine CallS.enter Try.func9 rfl rfl rfl rfl rfl ?_
  refine J.seq rfl ?_
  refine J.region rfl ?_
  refine JO.pur rfl rfl rfl (Pur.assign rfl) ?_
  refine JO.nil ?_
  refine J.seq rfl ?_
  refine J.seq rfl ?_
  refine J.region rfl ?_
  refine JO.pur rfl rfl rfl (Pur.move rfl) ?_
  refine JO.effR rfl rfl rfl (Eff.call rfl (Many_ok (acs := acs) rfl hmx)) ?_
  refine JO.pur rfl rfl rfl (Pur.move rfl) ?_
  refine JO.splitB 16 rfl (fun h16 => ?_) (fun h16 => ?_)
  · try simp only [decide_eq_true_eq, decide_eq_false_iff_not, Bool.not_eq_true', Bool.not_eq_false', Bool.and_eq_true, Bool.or_eq_true, Bool.and_eq_false_iff, Bool.or_eq_false_iff, Option.isNone_some, Option.isSome_some, Option.isNone_none, Option.isSome_none, Int.not_lt, Int.not_le, beq_iff_eq, beq_eq_false_iff_ne, bne_iff_ne, ne_eq, Bool.not_not, Decidable.not_not] at h16
    refine JO.no rfl rfl rfl ?_
    refine JO.no rfl rfl rfl ?_
    refine JO.pur rfl rfl rfl (Pur.pickT rfl rfl) ?_
    refine JO.pur rfl rfl rfl (Pur.move rfl) ?_
    refine JO.no rfl rfl rfl ?_
    refine JO.no rfl rfl rfl ?_
    refine JO.no rfl rfl rfl ?_
    refine JO.pur rfl rfl rfl (Pur.pickT rfl rfl) ?_
    refine JO.nil ?_
    refine J.condT rfl rfl ?_
    refine J.seq rfl ?_
    refine J.region rfl ?_
    refine JO.effR rfl rfl rfl (Eff.call rfl (first_ok)) ?_
    refine JO.setv (u' := .bool true) 25 rfl (congrArg Value.bool (rfl)) ?_
    refine JO.pur rfl rfl rfl (Pur.assign rfl) ?_
    refine JO.nil ?_
    refine J.ret rfl rfl ?_
    exact ⟨_, _, ⟨rfl, rfl⟩, rfl, SubC.out⟩
  · try simp only [decide_eq_true_eq, decide_eq_false_iff_not, Bool.not_eq_true', Bool.not_eq_false', Bool.and_eq_true, Bool.or_eq_true, Bool.and_eq_false_iff, Bool.or_eq_false_iff, Option.isNone_some, Option.isSome_some, Option.isNone_none, Option.isSome_none, Int.not_lt, Int.not_le, beq_iff_eq, beq_eq_false_iff_ne, bne_iff_ne, ne_eq, Bool.not_not, Decidable.not_not] at h16
    refine JO.pur rfl rfl rfl (Pur.move rfl) ?_
    refine JO.effR rfl rfl rfl (Eff.call rfl (Many_ok (acs := acs2) rfl hmx2)) ?_
    refine JO.pur rfl rfl rfl (Pur.pickF rfl rfl) ?_
    refine JO.pur rfl rfl rfl (Pur.move rfl) ?_
    refine JO.splitB 20 rfl (fun h20 => ?_) (fun h20 => ?_)
    · try simp only [decide_eq_true_eq, decide_eq_false_iff_not, Bool.not_eq_true', Bool.not_eq_false', Bool.and_eq_true, Bool.or_eq_true, Bool.and_eq_false_iff, Bool.or_eq_false_iff, Option.isNone_some, Option.isSome_some, Option.isNone_none, Option.isSome_none, Int.not_lt, Int.not_le, beq_iff_eq, beq_eq_false_iff_ne, bne_iff_ne, ne_eq, Bool.not_not, Decidable.not_not] at h20
      refine JO.no rfl rfl rfl ?_
      refine JO.no rfl rfl rfl ?_
      refine JO.no rfl rfl rfl ?_
      refine JO.pur rfl rfl rfl (Pur.pickT rfl rfl) ?_
      refine JO.nil ?_
      refine J.condT rfl rfl ?_
      refine J.seq rfl ?_
      refine J.region rfl ?_
      refine JO.effR rfl rfl rfl (Eff.call rfl (first_ok)) ?_
      refine JO.setv (u' := .bool true) 25 rfl (congrArg Value.bool (rfl)) ?_
      refine JO.pur rfl rfl rfl (Pur.assign rfl) ?_
      refine JO.nil ?_
      refine J.ret rfl rfl ?_
      exact ⟨_, _, ⟨rfl, rfl⟩, rfl, SubC.out⟩
    · try simp only [decide_eq_true_eq, decide_eq_false_iff_not, Bool.not_eq_true', Bool.not_eq_false', Bool.and_eq_true, Bool.or_eq_true, Bool.and_eq_false_iff, Bool.or_eq_false_iff, Option.isNone_some, Option.isSome_some, Option.isNone_none, Option.isSome_none, Int.not_lt, Int.not_le, beq_iff_eq, beq_eq_false_iff_ne, bne_iff_ne, ne_eq, Bool.not_not, Decidable.not_not] at h20
      refine JO.pur rfl rfl rfl (Pur.move rfl) ?_
      refine JO.pur rfl rfl rfl (Pur.len rfl) ?_
      refine JO.pur rfl rfl rfl (Pur.gtr rfl rfl) ?_
      refine JO.pur rfl rfl rfl (Pur.pickF rfl rfl) ?_
      refine JO.nil ?_
      refine J.splitB 24 rfl (fun h24 => ?_) (fun h24 => ?_)
      · try simp only [decide_eq_true_eq, decide_eq_false_iff_not, Bool.not_eq_true', Bool.not_eq_false', Bool.and_eq_true, Bool.or_eq_true, Bool.and_eq_false_iff, Bool.or_eq_false_iff, Option.isNone_some, Option.isSome_some, Option.isNone_none, Option.isSome_none, Int.not_lt, Int.not_le, beq_iff_eq, beq_eq_false_iff_ne, bne_iff_ne, ne_eq, Bool.not_not, Decidable.not_not] at h24
        refine J.condT rfl rfl ?_
        refine J.seq rfl ?_
        refine J.region rfl ?_
        refine JO.effR rfl rfl rfl (Eff.call rfl (first_ok)) ?_
        refine JO.setv (u' := .bool true) 25 rfl (congrArg Value.bool (rfl)) ?_
        refine JO.pur rfl rfl rfl (Pur.assign rfl) ?_
        refine JO.nil ?_
        refine J.ret rfl rfl ?_
        exact ⟨_, _, ⟨rfl, rfl⟩, rfl, SubC.out⟩
      · try simp only [decide_eq_true_eq, decide_eq_false_iff_not, Bool.not_eq_true', Bool.not_eq_false', Bool.and_eq_true, Bool.or_eq_true, Bool.and_eq_false_iff, Bool.or_eq_false_iff, Option.isNone_some, Option.isSome_some, Option.isNone_none, Option.isSome_none, Int.not_lt, Int.not_le, beq_iff_eq, beq_eq_false_iff_ne, bne_iff_ne, ne_eq, Bool.not_not, Decidable.not_not] at h24
        refine J.condF rfl rfl ?_
        refine J.skip rfl ?_
        refine J.seq rfl ?_
        refine J.region rfl ?_
        refine JO.pur rfl rfl rfl (Pur.move rfl) ?_
        refine JO.eff rfl rfl rfl (Eff.call rfl (Begin_big (ys := xs) rfl hbig)) ?_
        rintro _ _ ⟨rfl, rfl⟩
        refine JO.pur rfl rfl rfl (Pur.move rfl) ?_
        refine JO.pur rfl rfl rfl (Pur.extract rfl rfl) ?_
        refine JO.pur rfl rfl rfl (Pur.extract rfl rfl) ?_
        refine JO.pur rfl rfl rfl (Pur.assign rfl) ?_
        refine JO.pur rfl rfl rfl (Pur.assign rfl) ?_
        refine JO.nil ?_
        refine J.seq rfl ?_
        refine J.seq rfl ?_
        refine J.region rfl ?_
        refine JO.pur rfl rfl rfl (Pur.move rfl) ?_
        refine JO.pur rfl rfl rfl (Pur.eqlPtrNil rfl) ?_
        refine JO.setv (u' := .bool true) 32 rfl (congrArg Value.bool (rfl)) ?_
        refine JO.nil ?_
        refine J.condT rfl rfl ?_
        refine J.seq rfl ?_
        refine J.region rfl ?_
        refine JO.effR rfl rfl rfl (Eff.call rfl (first_ok)) ?_
        refine JO.setv (u' := .bool true) 33 rfl (congrArg Value.bool (rfl)) ?_
        refine JO.pur rfl rfl rfl (Pur.assign rfl) ?_
        refine JO.nil ?_
        refine J.ret rfl rfl ?_
        exact ⟨_, _, ⟨rfl, rfl⟩, rfl, SubC.out⟩

theorem channelCopies_fit {L : List Asn} {a b b2 : Option Addr} {n cap m cq m2 cq2 : Nat} {xs : List UInt8} {acs acs2 : List Ac} {yss yss2 : List (List UInt8)} [SlIn byE L a xs] [SlIn acE L b acs] [RowsR byE L (acs.map Ac.y) yss] [SlIn acE L b2 acs2] [RowsR byE L (acs2.map Ac.y) yss2] (hn : n = xs.length) (hm : m = acs.length) (hmx : acs.length ≤ 9223372036854775807) (hpl : ∀ ys ∈ yss, ys.length ≤ 9223372036854775807) (hm2 : m2 = acs2.length) (hmx2 : acs2.length ≤ 9223372036854775807) (hpl2 : ∀ ys ∈ yss2, ys.length ≤ 9223372036854775807) (hnil : a = none → n = 0 ∧ cap = 0) (hx : xs.length ≤ 400) :
    CallS Try.prog 9 [.slice a n cap, .slice b m cq, .slice b2 m2 cq2].toArray L (fun v M => v = .bool true ∧ M = L) := by
  subst hn
  subst hm
  subst hm2
  refine CallS.fact (fun h s => RowsR.len (E := byE) (hs := acs.map Ac.y) (xss := yss) s) fun hnn => ?_
  have hhl : acs.length = yss.length := by have := rows_len hnn; simpa using this
  refine CallS.fact (fun h s => RowsR.len (E := byE) (hs := acs2.map Ac.y) (xss := yss2) s) fun hnn2 => ?_
  have hhl2 : acs2.length = yss2.length := by have := rows_len hnn2; simpa using this
  refine CallS.ent ?_
  refine CallS.enter Try.func9 rfl rfl rfl rfl rfl ?_
  refine J.seq rfl ?_
  refine J.region rfl ?_
  refine JO.pur rfl rfl rfl (Pur.assign rfl) ?_
  refine JO.nil ?_
  refine J.seq rfl ?_
  refine J.seq rfl ?_
  refine J.region rfl ?_
  refine JO.pur rfl rfl rfl (Pur.move rfl) ?_
  refine JO.effR rfl rfl rfl (Eff.call rfl (Many_ok (acs := acs) rfl hmx)) ?_
  refine JO.pur rfl rfl rfl (Pur.move rfl) ?_
  refine JO.splitB 16 rfl (fun h16 => ?_) (fun h16 => ?_)
  · try simp only [decide_eq_true_eq, decide_eq_false_iff_not, Bool.not_eq_true', Bool.not_eq_false', Bool.and_eq_true, Bool.or_eq_true, Bool.and_eq_false_iff, Bool.or_eq_false_iff, Option.isNone_some, Option.isSome_some, Option.isNone_none, Option.isSome_none, Int.not_lt, Int.not_le, beq_iff_eq, beq_eq_false_iff_ne, bne_iff_ne, ne_eq, Bool.not_not, Decidable.not_not] at h16
    refine JO.no rfl rfl rfl ?_
    refine JO.no rfl rfl rfl ?_
    refine JO.pur rfl rfl rfl (Pur.pickT rfl rfl) ?_
    refine JO.pur rfl rfl rfl (Pur.move rfl) ?_
    refine JO.no rfl rfl rfl ?_
    refine JO.no rfl rfl rfl ?_
    refine JO.no rfl rfl rfl ?_
    refine JO.pur rfl rfl rfl (Pur.pickT rfl rfl) ?_
    refine JO.nil ?_
    refine J.condT rfl rfl ?_
    refine J.seq rfl ?_
    refine J.region rfl ?_
    refine JO.effR rfl rfl rfl (Eff.call rfl (first_ok)) ?_
    refine JO.setv (u' := .bool true) 25 rfl (congrArg Value.bool (rfl)) ?_
    refine JO.pur rfl rfl rfl (Pur.assign rfl) ?_
    refine JO.nil ?_
    refine J.ret rfl rfl ?_
    exact ⟨_, _, ⟨rfl, rfl⟩, rfl, SubC.out⟩
  · try simp only [decide_eq_true_eq, decide_eq_false_iff_not, Bool.not_eq_true', Bool.not_eq_false', Bool.and_eq_true, Bool.or_eq_true, Bool.and_eq_false_iff, Bool.or_eq_false_iff, Option.isNone_some, Option.isSome_some, Option.isNone_none, Option.isSome_none, Int.not_lt, Int.not_le, beq_iff_eq, beq_eq_false_iff_ne, bne_iff_ne, ne_eq, Bool.not_not, Decidable.not_not] at h16
    refine JO.pur rfl rfl rfl (Pur.move rfl) ?_
    refine JO.effR rfl rfl rfl (Eff.call rfl (Many_ok (acs := acs2) rfl hmx2)) ?_
    refine JO.pur rfl rfl rfl (Pur.pickF rfl rfl) ?_
    refine JO.pur rfl rfl rfl (Pur.move rfl) ?_
    refine JO.splitB 20 rfl (fun h20 => ?_) (fun h20 => ?_)
    · try simp only [decide_eq_true_eq, decide_eq_false_iff_not, Bool.not_eq_true', Bool.not_eq_false', Bool.and_eq_true, Bool.or_eq_true, Bool.and_eq_false_iff, Bool.or_eq_false_iff, Option.isNone_some, Option.isSome_some, Option.isNone_none, Option.isSome_none, Int.not_lt, Int.not_le, beq_iff_eq, beq_eq_false_iff_ne, bne_iff_ne, ne_eq, Bool.not_not, Decidable.not_not] at h20
      refine JO.no rfl rfl rfl ?_
      refine JO.no rfl rfl rfl ?_
      refine JO.no rfl rfl rfl ?_
      refine JO.pur rfl rfl rfl (Pur.pickT rfl rfl) ?_
      refine JO.nil ?_
      refine J.condT rfl rfl ?_
      refine J.seq rfl ?_
      refine J.region rfl ?_
      refine JO.effR rfl rfl rfl (Eff.call rfl (first_ok)) ?_
      refine JO.setv (u' := .bool true) 25 rfl (congrArg Value.bool (rfl)) ?_
      refine JO.pur rfl rfl rfl (Pur.assign rfl) ?_
      refine JO.nil ?_
      refine J.ret rfl rfl ?_
      exact ⟨_, _, ⟨rfl, rfl⟩, rfl, SubC.out⟩
    · try simp only [decide_eq_true_eq, decide_eq_false_iff_not, Bool.not_eq_true', Bool.not_eq_false', Bool.and_eq_true, Bool.or_eq_true, Bool.and_eq_false_iff, Bool.or_eq_false_iff, Option.isNone_some, Option.isSome_some, Option.isNone_none, Option.isSome_none, Int.not_lt, Int.not_le, beq_iff_eq, beq_eq_false_iff_ne, bne_iff_ne, ne_eq, Bool.not_not, Decidable.not_not] at h20
      refine JO.pur rfl rfl rfl (Pur.move rfl) ?_
      refine JO.pur rfl rfl rfl (Pur.len rfl) ?_
      refine JO.pur rfl rfl rfl (Pur.gtr rfl rfl) ?_
      refine JO.pur rfl rfl rfl (Pur.pickF rfl rfl) ?_
      refine JO.nil ?_
      refine J.splitB 24 rfl (fun h24 => ?_) (fun h24 => ?_)
      · try simp only [decide_eq_true_eq, decide_eq_false_iff_not, Bool.not_eq_true', Bool.not_eq_false', Bool.and_eq_true, Bool.or_eq_true, Bool.and_eq_false_iff, Bool.or_eq_false_iff, Option.isNone_some, Option.isSome_some, Option.isNone_none, Option.isSome_none, Int.not_lt, Int.not_le, beq_iff_eq, beq_eq_false_iff_ne, bne_iff_ne, ne_eq, Bool.not_not, Decidable.not_not] at h24
        refine J.condT rfl rfl ?_
        refine J.seq rfl ?_
        refine J.region rfl ?_
        refine JO.effR rfl rfl rfl (Eff.call rfl (first_ok)) ?_
        refine JO.setv (u' := .bool true) 25 rfl (congrArg Value.bool (rfl)) ?_
        refine JO.pur rfl rfl rfl (Pur.assign rfl) ?_
        refine JO.nil ?_
        refine J.ret rfl rfl ?_
        exact ⟨_, _, ⟨rfl, rfl⟩, rfl, SubC.out⟩
      · try simp only [decide_eq_true_eq, decide_eq_false_iff_not, Bool.not_eq_true', Bool.not_eq_false', Bool.and_eq_true, Bool.or_eq_true, Bool.and_eq_false_iff, Bool.or_eq_false_iff, Option.isNone_some, Option.isSome_some, Option.isNone_none, Option.isSome_none, Int.not_lt, Int.not_le, beq_iff_eq, beq_eq_false_iff_ne, bne_iff_ne, ne_eq, Bool.not_not, Decidable.not_not] at h24
        refine J.condF rfl rfl ?_
        refine J.skip rfl ?_
        refine J.seq rfl ?_
        have hac : acs.length ≤ 120 := by
          have h9 : manyV acs = false := by simpa using h16
          unfold manyV at h9
          have h8 := (Bool.or_eq_false_iff.1 h9).2
          have := of_decide_eq_false h8
          omega
        have hac2 : acs2.length ≤ 120 := by
          have h9 : manyV acs2 = false := by simpa using h20
          unfold manyV at h9
          have h8 := (Bool.or_eq_false_iff.1 h9).2
          have := of_decide_eq_false h8
          omega
        refine J.region rfl ?_
        refine JO.pur rfl rfl rfl (Pur.move rfl) ?_
        refine JO.eff rfl rfl rfl (Eff.call rfl (Begin_ok (ys := xs) rfl hx hnil)) ?_
        rintro _ _ ⟨p, q, pr, rfl, rfl⟩
        refine JO.pur rfl rfl rfl (Pur.move rfl) ?_
        refine JO.pur rfl rfl rfl (Pur.extract rfl rfl) ?_
        refine JO.pur rfl rfl rfl (Pur.extract rfl rfl) ?_
        refine JO.pur rfl rfl rfl (Pur.assign rfl) ?_
        refine JO.pur rfl rfl rfl (Pur.assign rfl) ?_
        refine JO.nil ?_
        refine J.seq rfl ?_
        refine J.seq rfl ?_
        refine J.region rfl ?_
        refine JO.pur rfl rfl rfl (Pur.move rfl) ?_
        refine JO.pur rfl rfl rfl (Pur.eqlPtrNil rfl) ?_
        refine JO.setv (u' := .bool false) 32 rfl (congrArg Value.bool (rfl)) ?_
        refine JO.nil ?_
        refine J.condF rfl rfl ?_
        refine J.skip rfl ?_
        refine J.seq rfl ?_
        refine J.seq rfl ?_
        refine J.region rfl ?_
        refine JO.pur rfl rfl rfl (Pur.assign rfl) ?_
        refine JO.nil ?_
        refine J.block rfl ?_
        refine J.loopF (ι := Nat) (fun w => w ≤ acs.length) (fun w => [(9, .int .i64 (w : Int))]) [(1, _), (2, _), (7, _)] (fun w => FA p (plF (newF xs) acs yss w) :: RA q (plF (newF xs) acs yss w) :: blk pr (.cells #[.pointer (some ⟨p, 0, none⟩), .pointer (some ⟨q, 0, none⟩)] 68) :: L) (fun w => acs.length - w) 0 rfl (.cons rfl rfl (.cons rfl rfl (.cons rfl rfl .nil))) (.cons rfl rfl .nil) (fun h s => by rw [plF]; exact SubC.out h s) (Nat.zero_le _) ?_
        rintro k hk ih0
        try dsimp only
        refine J.seq rfl ?_
        refine J.seq rfl ?_
        refine J.region rfl ?_
        refine JO.pur rfl rfl rfl (Pur.move rfl) ?_
        refine JO.pur rfl rfl rfl (Pur.move rfl) ?_
        refine JO.pur rfl rfl rfl (Pur.len rfl) ?_
        refine JO.pur rfl rfl rfl (Pur.lss rfl rfl) ?_
        refine JO.nil ?_
        refine J.splitB 37 rfl (fun h37 => ?_) (fun h37 => ?_)
        · try simp only [decide_eq_true_eq, decide_eq_false_iff_not, Bool.not_eq_true', Bool.not_eq_false', Bool.and_eq_true, Bool.or_eq_true, Bool.and_eq_false_iff, Bool.or_eq_false_iff, Option.isNone_some, Option.isSome_some, Option.isNone_none, Option.isSome_none, Int.not_lt, Int.not_le, beq_iff_eq, beq_eq_false_iff_ne, bne_iff_ne, ne_eq, Bool.not_not, Decidable.not_not] at h37
          have hkl : k < acs.length := by omega
          obtain ⟨x, hxd⟩ : ∃ x, x = acs.getD k default := ⟨_, rfl⟩
          have hxx : acs[k]? = some x := by rw [hxd, List.getD_eq_getElem?_getD, List.getElem?_eq_getElem hkl]; rfl
          have hH : (acs.map Ac.y)[k]? = some x.y := by rw [List.getElem?_map, hxx]; rfl
          have hC := getD_part (parts := yss) (k := k) (by omega)
          have hdn := hdr_n hnn hH hC
          have hyl : (yss.getD k []).length ≤ 9223372036854775807 := hpl _ (List.mem_of_getElem? hC)
          have hst : (plF (newF xs) acs yss (k + 1)) = stepF (plF (newF xs) acs yss k) x.d x.a x.b (yss.getD k []) := by rw [plF, hxd]
          refine J.fact (fun h s => RowsR.fit (E := byE) (hs := acs.map Ac.y) (xss := yss) s hH hC) fun hfit => ?_
          have gk := (good_pl (good_new hx) acs yss k).more (j := k) (by omega)
          refine J.condT rfl rfl ?_
          refine J.skip rfl ?_
          refine J.seq rfl ?_
          refine J.block rfl ?_
          refine J.region rfl ?_
          refine JO.pur rfl rfl rfl (Pur.move rfl) ?_
          refine JO.pur rfl rfl rfl (Pur.move rfl) ?_
          refine JO.pur rfl rfl rfl (Pur.move rfl) ?_
          refine JO.pur rfl rfl rfl (Pur.idx rfl rfl rfl (by first | rfl | (simp; done) | omega) rfl (by omega)) ?_
          refine JO.pur rfl rfl rfl (Pur.loadA rfl rfl rfl (CellsIn.el rfl hxx)) ?_
          refine JO.setv (u' := .agg #[.int .i64 x.d, .int .i64 x.a, .int .i64 x.b, .slice x.y.a x.y.n x.y.cap]) 44 rfl rfl ?_
          refine JO.eff rfl rfl rfl (Eff.call rfl (@Do_ok L p q pr (plF (newF xs) acs yss k) x.d x.a x.b x.y.a x.y.n x.y.cap (yss.getD k []) (RowsR.row (E := byE) (hs := acs.map Ac.y) (xss := yss) inferInstance hH hC) hdn hyl hfit.1 k gk (by omega))) ?_
          rintro _ _ ⟨rfl, rfl⟩
          rw [← hst]
          refine JO.nil ?_
          refine J.inBlock ?_
          refine J.region rfl ?_
          refine JO.pur rfl rfl rfl (Pur.move rfl) ?_
          refine JO.pur rfl rfl rfl (Pur.add rfl rfl (wr64 (by omega))) ?_
          refine JO.pur rfl rfl rfl (Pur.assign rfl) ?_
          refine JO.nil ?_
          exact J.weaken (.cons rfl (congrArg (Value.int .i64) (by first | rfl | (dsimp only; omega))) (.cons rfl rfl (.cons rfl rfl (.cons rfl rfl .nil)))) (by first | exact fun _ h => h | exact SubC.out | (dsimp only; exact SubC.out)) (ih0 (k + 1) (by omega) (by omega))
        · try simp only [decide_eq_true_eq, decide_eq_false_iff_not, Bool.not_eq_true', Bool.not_eq_false', Bool.and_eq_true, Bool.or_eq_true, Bool.and_eq_false_iff, Bool.or_eq_false_iff, Option.isNone_some, Option.isSome_some, Option.isNone_none, Option.isSome_none, Int.not_lt, Int.not_le, beq_iff_eq, beq_eq_false_iff_ne, bne_iff_ne, ne_eq, Bool.not_not, Decidable.not_not] at h37
          obtain rfl : k = acs.length := by omega
          obtain ⟨F1, hF1⟩ : ∃ F1, F1 = (plF (newF xs) acs yss acs.length) := ⟨_, rfl⟩
          have g1 : Hf.Good F1 120 := by rw [hF1]; exact (good_pl (good_new hx) acs yss acs.length).more (by omega)
          have a1 : Asc F1 := by rw [hF1]; exact asc_pl (good_new hx) asc_new acs yss acs.length
          rw [← hF1]
          refine J.condF rfl rfl ?_
          refine J.exit rfl rfl ?_
          refine J.seq rfl ?_
          refine J.region rfl ?_
          refine JO.pur rfl rfl rfl (Pur.move rfl) ?_
          refine JO.pur rfl rfl rfl (Pur.nilCheck rfl) ?_
          refine JO.pur rfl rfl rfl (Pur.fieldAddr rfl) ?_
          refine JO.pur rfl rfl rfl (Pur.load rfl (CellIn.blk rfl)) ?_
          refine JO.eff rfl rfl rfl (Eff.call rfl (CopyS_ok g1 (by omega))) ?_
          rintro _ _ ⟨p2, rfl, rfl⟩
          refine JO.pur rfl rfl rfl (Pur.assign rfl) ?_
          refine JO.nil ?_
          refine J.seq rfl ?_
          refine J.seq rfl ?_
          refine J.region rfl ?_
          refine JO.pur rfl rfl rfl (Pur.move rfl) ?_
          refine JO.pur rfl rfl rfl (Pur.eqlPtrNil rfl) ?_
          refine JO.setv (u' := .bool false) 52 rfl (congrArg Value.bool (rfl)) ?_
          refine JO.pur rfl rfl rfl (Pur.move rfl) ?_
          refine JO.pur rfl rfl rfl (Pur.move rfl) ?_
          refine JO.pur rfl rfl rfl (Pur.move rfl) ?_
          refine JO.pur rfl rfl rfl (Pur.nilCheck rfl) ?_
          refine JO.pur rfl rfl rfl (Pur.fieldAddr rfl) ?_
          refine JO.pur rfl rfl rfl (Pur.load rfl (CellIn.blk rfl)) ?_
          refine JO.effR rfl rfl rfl (Eff.call rfl (SameS_ok (p1 := p2) (p2 := p) (fun c hc => by have := g1.mks c hc; omega))) ?_
          refine JO.setv (u' := .bool true) 59 rfl (congrArg Value.bool (rfl)) ?_
          refine JO.pur rfl rfl rfl (Pur.not rfl) ?_
          refine JO.pur rfl rfl rfl (Pur.pickF rfl rfl) ?_
          refine JO.nil ?_
          refine J.condF rfl rfl ?_
          refine J.skip rfl ?_
          refine J.seq rfl ?_
          refine J.region rfl ?_
          refine JO.pur rfl rfl rfl (Pur.move rfl) ?_
          refine JO.pur rfl rfl rfl (Pur.nilCheck rfl) ?_
          refine JO.pur rfl rfl rfl (Pur.fieldAddr rfl) ?_
          refine JO.pur rfl rfl rfl (Pur.load rfl (CellIn.blk rfl)) ?_
          refine JO.imp (M := FA p F1 :: FS p2 F1 :: RA q F1 :: blk pr (.cells #[.pointer (some ⟨p, 0, none⟩), .pointer (some ⟨q, 0, none⟩)] 68) :: L) (fun h s => SubC.out h s) ?_
          refine JO.eff rfl rfl rfl (Eff.call rfl (Bytes_ok (F := F1) g1.b4)) ?_
          rintro _ _ ⟨a66, c66, rfl, rfl⟩
          refine JO.pur rfl rfl rfl (Pur.convBS (E := byE) (e := 5) (by kernel_rfl) (by kernel_rfl) (by kernel_rfl) rfl rfl rfl (fun _ => rfl)) ?_
          refine JO.pur rfl rfl rfl (Pur.assign rfl) ?_
          refine JO.nil ?_
          refine J.seq rfl ?_
          refine J.region rfl ?_
          refine JO.pur rfl rfl rfl (Pur.move rfl) ?_
          refine JO.pur rfl rfl rfl (Pur.move rfl) ?_
          refine JO.pur rfl rfl rfl (Pur.nilCheck rfl) ?_
          refine JO.pur rfl rfl rfl (Pur.fieldAddr rfl) ?_
          refine JO.pur rfl rfl rfl (Pur.load rfl (CellIn.blk rfl)) ?_
          refine JO.setv (u' := .pointer (some ⟨q, 0, none⟩)) 72 rfl rfl ?_
          refine JO.pur rfl rfl rfl (Pur.build (cs := [_, _]) rfl rfl) ?_
          refine JO.eff rfl rfl rfl (Eff.box (cs := [_, _]) rfl rfl) ?_
          rintro _ _ ⟨b74, rfl, rfl⟩
          refine JO.pur rfl rfl rfl (Pur.assign rfl) ?_
          refine JO.nil ?_
          refine J.seq rfl ?_
          refine J.seq rfl ?_
          refine J.region rfl ?_
          refine JO.pur rfl rfl rfl (Pur.assign rfl) ?_
          refine JO.nil ?_
          refine J.block rfl ?_
          refine J.loopF (ι := Nat) (fun w => w ≤ acs2.length) (fun w => [(13, .int .i64 (w : Int))]) [(2, _), (7, _), (11, _), (12, _)] (fun w => FS p2 (plF F1 acs2 yss2 w) :: RA q (plF F1 acs2 yss2 w) :: blk b74 (.cells #[.pointer (some ⟨p2, 0, none⟩), .pointer (some ⟨q, 0, none⟩)] 68) :: FA p F1 :: blk pr (.cells #[.pointer (some ⟨p, 0, none⟩), .pointer (some ⟨q, 0, none⟩)] 68) :: sl byE a66 c66 F1.bytes :: L) (fun w => acs2.length - w) 0 rfl (.cons rfl rfl (.cons rfl rfl (.cons rfl rfl (.cons rfl rfl .nil)))) (.cons rfl rfl .nil) (fun h s => by rw [plF]; exact SubC.out h s) (Nat.zero_le _) ?_
          rintro k hk ih1
          try dsimp only
          refine J.seq rfl ?_
          refine J.seq rfl ?_
          refine J.region rfl ?_
          refine JO.pur rfl rfl rfl (Pur.move rfl) ?_
          refine JO.pur rfl rfl rfl (Pur.move rfl) ?_
          refine JO.pur rfl rfl rfl (Pur.len rfl) ?_
          refine JO.pur rfl rfl rfl (Pur.lss rfl rfl) ?_
          refine JO.nil ?_
          refine J.splitB 78 rfl (fun h78 => ?_) (fun h78 => ?_)
          · try simp only [decide_eq_true_eq, decide_eq_false_iff_not, Bool.not_eq_true', Bool.not_eq_false', Bool.and_eq_true, Bool.or_eq_true, Bool.and_eq_false_iff, Bool.or_eq_false_iff, Option.isNone_some, Option.isSome_some, Option.isNone_none, Option.isSome_none, Int.not_lt, Int.not_le, beq_iff_eq, beq_eq_false_iff_ne, bne_iff_ne, ne_eq, Bool.not_not, Decidable.not_not] at h78
            have hkl : k < acs2.length := by omega
            obtain ⟨x, hxd⟩ : ∃ x, x = acs2.getD k default := ⟨_, rfl⟩
            have hxx : acs2[k]? = some x := by rw [hxd, List.getD_eq_getElem?_getD, List.getElem?_eq_getElem hkl]; rfl
            have hH : (acs2.map Ac.y)[k]? = some x.y := by rw [List.getElem?_map, hxx]; rfl
            have hC := getD_part (parts := yss2) (k := k) (by omega)
            have hdn := hdr_n hnn2 hH hC
            have hyl : (yss2.getD k []).length ≤ 9223372036854775807 := hpl2 _ (List.mem_of_getElem? hC)
            have hst : (plF F1 acs2 yss2 (k + 1)) = stepF (plF F1 acs2 yss2 k) x.d x.a x.b (yss2.getD k []) := by rw [plF, hxd]
            refine J.fact (fun h s => RowsR.fit (E := byE) (hs := acs2.map Ac.y) (xss := yss2) s hH hC) fun hfit => ?_
            have gk := good_pl g1 acs2 yss2 k
            have gk1 := good_pl g1 acs2 yss2 (k + 1)
            have ak1 := asc_pl g1 a1 acs2 yss2 (k + 1)
            refine J.condT rfl rfl ?_
            refine J.skip rfl ?_
            refine J.seq rfl ?_
            refine J.block rfl ?_
            refine J.seq rfl ?_
            refine J.region rfl ?_
            refine JO.pur rfl rfl rfl (Pur.move rfl) ?_
            refine JO.pur rfl rfl rfl (Pur.move rfl) ?_
            refine JO.pur rfl rfl rfl (Pur.move rfl) ?_
            refine JO.pur rfl rfl rfl (Pur.idx rfl rfl rfl (by first | rfl | (simp; done) | omega) rfl (by omega)) ?_
            refine JO.pur rfl rfl rfl (Pur.loadA rfl rfl rfl (CellsIn.el rfl hxx)) ?_
            refine JO.setv (u' := .agg #[.int .i64 x.d, .int .i64 x.a, .int .i64 x.b, .slice x.y.a x.y.n x.y.cap]) 85 rfl rfl ?_
            refine JO.eff rfl rfl rfl (Eff.call rfl (@sDo_ok (FA p F1 :: blk pr (.cells #[.pointer (some ⟨p, 0, none⟩), .pointer (some ⟨q, 0, none⟩)] 68) :: sl byE a66 c66 F1.bytes :: L) p2 q b74 (plF F1 acs2 yss2 k) x.d x.a x.b x.y.a x.y.n x.y.cap (yss2.getD k []) (RowsR.row (E := byE) (hs := acs2.map Ac.y) (xss := yss2) inferInstance hH hC) hdn hyl hfit.1 (120 + k) gk (by omega))) ?_
            rintro _ _ ⟨rfl, rfl⟩
            rw [← hst]
            refine JO.setv (u' := .bool true) 86 rfl (congrArg Value.bool (rfl)) ?_
            refine JO.pur rfl rfl rfl (Pur.not rfl) ?_
            refine JO.pur rfl rfl rfl (Pur.move rfl) ?_
            refine JO.pur rfl rfl rfl (Pur.move rfl) ?_
            refine JO.pur rfl rfl rfl (Pur.move rfl) ?_
            refine JO.pur rfl rfl rfl (Pur.move rfl) ?_
            refine JO.pur rfl rfl rfl (Pur.idx rfl rfl rfl (by first | rfl | (simp; done) | omega) rfl (by omega)) ?_
            refine JO.pur rfl rfl rfl (Pur.fieldAddr rfl) ?_
            refine JO.pur rfl rfl rfl (Pur.load rfl (CellIn.el rfl hxx rfl)) ?_
            refine JO.setv (u' := .int .i64 x.a) 94 rfl rfl ?_
            refine JO.eff rfl rfl rfl (Eff.call rfl (sAlike_ok (n := x.a) gk1 (by omega) ak1)) ?_
            rintro _ _ ⟨rfl, rfl⟩
            refine JO.setv (u' := .bool true) 95 rfl (congrArg Value.bool (rfl)) ?_
            refine JO.pur rfl rfl rfl (Pur.not rfl) ?_
            refine JO.pur rfl rfl rfl (Pur.pickF rfl rfl) ?_
            refine JO.nil ?_
            refine J.condF rfl rfl ?_
            refine J.skip rfl ?_
            refine J.inBlock ?_
            refine J.region rfl ?_
            refine JO.pur rfl rfl rfl (Pur.move rfl) ?_
            refine JO.pur rfl rfl rfl (Pur.add rfl rfl (wr64 (by omega))) ?_
            refine JO.pur rfl rfl rfl (Pur.assign rfl) ?_
            refine JO.nil ?_
            exact J.weaken (.cons rfl (congrArg (Value.int .i64) (by first | rfl | (dsimp only; omega))) (.cons rfl rfl (.cons rfl rfl (.cons rfl rfl (.cons rfl rfl .nil))))) (by first | exact fun _ h => h | exact SubC.out | (dsimp only; exact SubC.out)) (ih1 (k + 1) (by omega) (by omega))
          · try simp only [decide_eq_true_eq, decide_eq_false_iff_not, Bool.not_eq_true', Bool.not_eq_false', Bool.and_eq_true, Bool.or_eq_true, Bool.and_eq_false_iff, Bool.or_eq_false_iff, Option.isNone_some, Option.isSome_some, Option.isNone_none, Option.isSome_none, Int.not_lt, Int.not_le, beq_iff_eq, beq_eq_false_iff_ne, bne_iff_ne, ne_eq, Bool.not_not, Decidable.not_not] at h78
            obtain rfl : k = acs2.length := by omega
            refine J.condF rfl rfl ?_
            refine J.exit rfl rfl ?_
            refine J.seq rfl ?_
            refine J.region rfl ?_
            refine JO.pur rfl rfl rfl (Pur.move rfl) ?_
            refine JO.pur rfl rfl rfl (Pur.nilCheck rfl) ?_
            refine JO.pur rfl rfl rfl (Pur.fieldAddr rfl) ?_
            refine JO.pur rfl rfl rfl (Pur.load rfl (CellIn.blk rfl)) ?_
            refine JO.imp (M := FA p F1 :: blk pr (.cells #[.pointer (some ⟨p, 0, none⟩), .pointer (some ⟨q, 0, none⟩)] 68) :: sl byE a66 c66 F1.bytes :: L) (fun h s => SubC.out h s) ?_
            refine JO.eff rfl rfl rfl (Eff.call rfl (Bytes_ok (F := F1) g1.b4)) ?_
            rintro _ _ ⟨a102, c102, rfl, rfl⟩
            refine JO.pur rfl rfl rfl (Pur.convBS (E := byE) (e := 5) (by kernel_rfl) (by kernel_rfl) (by kernel_rfl) rfl rfl rfl (fun _ => rfl)) ?_
            refine JO.pur rfl rfl rfl (Pur.move rfl) ?_
            refine JO.pur rfl rfl rfl (Pur.eqlT rfl rfl) ?_
            refine JO.setv (u' := .bool true) 105 rfl (congrArg Value.bool (by simp)) ?_
            refine JO.pur rfl rfl rfl (Pur.move rfl) ?_
            refine JO.effR rfl rfl rfl (Eff.call rfl (first_ok)) ?_
            refine JO.setv (u' := .bool true) 107 rfl (congrArg Value.bool (rfl)) ?_
            refine JO.pur rfl rfl rfl (Pur.pickT rfl rfl) ?_
            refine JO.pur rfl rfl rfl (Pur.assign rfl) ?_
            refine JO.nil ?_
            refine J.ret rfl rfl ?_
            exact ⟨_, _, ⟨rfl, rfl⟩, rfl, SubC.out⟩

theorem channelCopies_ok {L : List Asn} {a b b2 : Option Addr} {n cap m cq m2 cq2 : Nat} {xs : List UInt8} {acs acs2 : List Ac} {yss yss2 : List (List UInt8)} [SlIn byE L a xs] [SlIn acE L b acs] [RowsR byE L (acs.map Ac.y) yss] [SlIn acE L b2 acs2] [RowsR byE L (acs2.map Ac.y) yss2] (hn : n = xs.length) (hm : m = acs.length) (hmx : acs.length ≤ 9223372036854775807) (hpl : ∀ ys ∈ yss, ys.length ≤ 9223372036854775807) (hm2 : m2 = acs2.length) (hmx2 : acs2.length ≤ 9223372036854775807) (hpl2 : ∀ ys ∈ yss2, ys.length ≤ 9223372036854775807) (hnil : a = none → n = 0 ∧ cap = 0) : CallS Try.prog 9 [.slice a n cap, .slice b m cq, .slice b2 m2 cq2].toArray L (fun v M => v = .bool true ∧ M = L) := by
  by_cases hx : xs.length ≤ 400
  · exact channelCopies_fit hn hm hmx hpl hm2 hmx2 hpl2 hnil hx
  · exact channelCopies_big hn hm hmx hpl hm2 hmx2 hpl2 hnil hx
end Go.Proofs.Ytgbckamaenapeaa

/- The text HActs2. -/
/-! How a list of deeds that is handed in is read. -/
set_option linter.unusedVariables false
set_option linter.unusedSimpArgs false
namespace Go.Proofs.Ytgbckamaenapeaa
open Go Go.KK Hf
theorem act_mk (g : Nat → Value) (hg : ∀ k κ, k ≠ 3 → ([0, 0, 0] : List Nat)[k]? = some κ → isV κ (g k)) (h : Hdr) (h3 : g 3 = .slice h.a h.n h.cap) : ∃ x : Ac, x.y = h ∧ ∀ k u, k < 4 → (acE.enc x)[k]? = some u → u = g k := by
  obtain ⟨d, hd⟩ := hg 0 0 (by decide) rfl
  obtain ⟨a, ha⟩ := hg 1 0 (by decide) rfl
  obtain ⟨b, hb⟩ := hg 2 0 (by decide) rfl
  refine ⟨⟨d, a, b, h⟩, rfl, fun k u _ hu => ?_⟩
  match k, hu with
  | 0, hu => exact (Option.some.inj hu).symm.trans hd.symm
  | 1, hu => exact (Option.some.inj hu).symm.trans ha.symm
  | 2, hu => exact (Option.some.inj hu).symm.trans hb.symm
  | 3, hu => exact (Option.some.inj hu).symm.trans h3.symm
  | k + 4, hu => simp [acE] at hu
theorem act_hint {fs : Array Field} (he : Try.prog.underlying 57 = some (.struct fs)) : ∀ j f, fs[j]? = some f → (j = 3 → f.type = 24) ∧ (j ≠ 3 → ∃ κ, ([0, 0, 0] : List Nat)[j]? = some κ ∧ kindB Try.prog f.type = some κ) := by
  rw [Try.underlying57] at he
  cases he
  intro j f hj
  match j, hj with
  | 0, hj => injection (show some _ = some f from hj) with e; subst e; exact ⟨fun e => (by cases e), fun _ => ⟨0, rfl, by kernel_rfl⟩⟩
  | 1, hj => injection (show some _ = some f from hj) with e; subst e; exact ⟨fun e => (by cases e), fun _ => ⟨0, rfl, by kernel_rfl⟩⟩
  | 2, hj => injection (show some _ = some f from hj) with e; subst e; exact ⟨fun e => (by cases e), fun _ => ⟨0, rfl, by kernel_rfl⟩⟩
  | 3, hj => injection (show some _ = some f from hj) with e; subst e; exact ⟨fun _ => rfl, fun e => absurd rfl e⟩
  | n + 4, hj => simp at hj
end Go.Proofs.Ytgbckamaenapeaa
