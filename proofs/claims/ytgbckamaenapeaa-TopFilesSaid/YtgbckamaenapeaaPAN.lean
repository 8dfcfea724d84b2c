/-
  A part of the proof of the claim that this folder bears.
-/
import Derived.Test.YtgbckamaenapeaaPAF
import Derived.Test.YtgbckamaenapeaaPAL
import Derived.Test.YtgbckamaenapeaaPAM
/- The text HLaw10. -/
set_option linter.unusedVariables false
set_option linter.unusedSimpArgs false
set_option maxRecDepth 10000
namespace Go.Proofs.Ytgbckamaenapeaa
open Go Go.KK Hf

theorem tw3_begin {size : Int} {parts : List (List UInt8)} (hok : ¬ badC size parts.length) {B : List UInt8} {m : Nat} (hm : m < parts.length) : beginF (TW size parts B ((m + 1 : Nat) : Int) m (fun _ => 0) (fun _ => 0)) (cutA size parts.length m) (cutA size parts.length (m + 1)) true = (TW size parts B ((m + 1 + 1 : Nat) : Int) (m + 1) (fun _ => 0) (fun _ => 0), ((m + 1 : Nat) : Int), 0) := tw2_begin hok hm (by omega)
theorem one_begin {size : Int} {parts : List (List UInt8)} (hok : ¬ badC size parts.length) {B : List UInt8} {m : Nat} (hm : m < parts.length) : beginF ⟨B, ((m + 1 : Nat) : Int), []⟩ (cutA size parts.length m) (cutA size parts.length (m + 1)) true = (⟨B, ((m + 1 + 1 : Nat) : Int), [Wt size parts m 0 0]⟩, ((m + 1 : Nat) : Int), 0) := tw2_one hok hm (by omega)
def opnN (m : Nat) : Nat → Nat := fun i => if i < m then i + 1 else 0
theorem opnN_step (k : Nat) : updN (opnN k) k (k + 1) = opnN (k + 1) := by
  funext i
  unfold updN opnN
  by_cases e : i = k
  · rw [if_pos e, if_pos (by omega), e]
  · rw [if_neg e]
    by_cases h : i < k
    · rw [if_pos h, if_pos (by omega)]
    · rw [if_neg h, if_neg (by omega)]
theorem opnN_at {m i : Nat} (h : i < m) : opnN m i = i + 1 := by unfold opnN; rw [if_pos h]
theorem opnN_zero : opnN 0 = fun _ => 0 := by funext i; simp [opnN]
def whN (parts : List (List UInt8)) (k : Nat) : Nat → Nat := fun i => if i < k then (parts.getD i []).length else 0
theorem whN_step (parts : List (List UInt8)) (k : Nat) : updN (whN parts k) k (parts.getD k []).length = whN parts (k + 1) := by
  funext i
  unfold updN whN
  by_cases e : i = k
  · rw [if_pos e, if_pos (by omega), e]
  · rw [if_neg e]
    by_cases h : i < k
    · rw [if_pos h, if_pos (by omega)]
    · rw [if_neg h, if_neg (by omega)]
theorem whN_zero (parts : List (List UInt8)) : whN parts 0 = fun _ => 0 := by funext i; simp [whN]
theorem whN_le (parts : List (List UInt8)) (k i : Nat) : whN parts k i ≤ (parts.getD i []).length := by unfold whN; split <;> omega
theorem whN_at (parts : List (List UInt8)) (k : Nat) : whN parts k k = 0 := by unfold whN; rw [if_neg (by omega)]
theorem topFiles_ok {L : List Asn} {a b : Option Addr} {n cap m cq : Nat} {hs : List Hdr} {parts : List (List UInt8)} {picks : List Int} [SlIn hbE L a hs] [RowsR byE L hs parts] [SlIn intE L b picks] (hn : n = hs.length) (hm : m = picks.length) (hpl : ∀ ys ∈ parts, ys.length ≤ 9223372036854775807) (size : Int) :
    CallS Try.prog 10 [.int .i64 size, .slice a n cap, .slice b m cq].toArray L (fun v M => v = .bool true ∧ M = L) := by
  subst hn
  subst hm
  refine CallS.fact (fun h s => RowsR.len (E := byE) (hs := hs) (xss := parts) s) fun hnn => ?_
  have hhl : hs.length = parts.length := rows_len hnn
  refine CallS.ent ?_
  refine CallS.enter Try.func10 rfl rfl rfl rfl rfl ?_
  refine J.seq rfl ?_
  refine J.region rfl ?_
  refine JO.pur rfl rfl rfl (Pur.assign rfl) ?_
  refine JO.nil ?_
  refine J.seq rfl ?_
  refine J.region rfl ?_
  refine JO.pur rfl rfl rfl (Pur.move rfl) ?_
  refine JO.pur rfl rfl rfl (Pur.move rfl) ?_
  refine JO.pur rfl rfl rfl (Pur.len rfl) ?_
  refine JO.eff rfl rfl rfl (Eff.call rfl (Cuts_ok size (hs.length : Int))) ?_
  rintro _ _ ⟨a28, c28, rfl, rfl⟩
  rw [hhl]
  refine JO.pur rfl rfl rfl (Pur.move rfl) ?_
  refine JO.pur rfl rfl rfl (Pur.extract rfl rfl) ?_
  refine JO.pur rfl rfl rfl (Pur.extract rfl rfl) ?_
  refine JO.pur rfl rfl rfl (Pur.assign rfl) ?_
  refine JO.pur rfl rfl rfl (Pur.assign rfl) ?_
  refine JO.nil ?_
  refine J.seq rfl ?_
  refine J.seq rfl ?_
  refine J.region rfl ?_
  refine JO.pur rfl rfl rfl (Pur.move rfl) ?_
  refine JO.pur rfl rfl rfl (Pur.neqI rfl rfl) ?_
  refine JO.pur rfl rfl rfl (Pur.move rfl) ?_
  refine JO.splitB 33 rfl (fun h33 => ?_) (fun h33 => ?_)
  · try simp only [decide_eq_true_eq, decide_eq_false_iff_not, Bool.not_eq_true', Bool.not_eq_false', Bool.and_eq_true, Bool.or_eq_true, Bool.and_eq_false_iff, Bool.or_eq_false_iff, Option.isNone_some, Option.isSome_some, Option.isNone_none, Option.isSome_none, Int.not_lt, Int.not_le, beq_iff_eq, beq_eq_false_iff_ne, bne_iff_ne, ne_eq, Bool.not_not, Decidable.not_not] at h33
    refine JO.no rfl rfl rfl ?_
    refine JO.no rfl rfl rfl ?_
    refine JO.no rfl rfl rfl ?_
    refine JO.pur rfl rfl rfl (Pur.pickT rfl rfl) ?_
    refine JO.nil ?_
    refine J.condT rfl rfl ?_
    refine J.seq rfl ?_
    refine J.region rfl ?_
    refine JO.effR rfl rfl rfl (Eff.call rfl (first_ok)) ?_
    refine JO.setv (u' := .bool true) 38 rfl (congrArg Value.bool (rfl)) ?_
    refine JO.pur rfl rfl rfl (Pur.assign rfl) ?_
    refine JO.nil ?_
    refine J.ret rfl rfl ?_
    exact ⟨_, _, ⟨rfl, rfl⟩, rfl, SubC.out⟩
  · try simp only [decide_eq_true_eq, decide_eq_false_iff_not, Bool.not_eq_true', Bool.not_eq_false', Bool.and_eq_true, Bool.or_eq_true, Bool.and_eq_false_iff, Bool.or_eq_false_iff, Option.isNone_some, Option.isSome_some, Option.isNone_none, Option.isSome_none, Int.not_lt, Int.not_le, beq_iff_eq, beq_eq_false_iff_ne, bne_iff_ne, ne_eq, Bool.not_not, Decidable.not_not] at h33
    have hok := cut_of (size := size) (n := parts.length) (by simpa using h33)
    have hin := cut_in hok
    have hcl := cut_len hok
    refine JO.pur rfl rfl rfl (Pur.move rfl) ?_
    refine JO.pur rfl rfl rfl (Pur.len rfl) ?_
    refine JO.pur rfl rfl rfl (Pur.gtr rfl rfl) ?_
    refine JO.pur rfl rfl rfl (Pur.pickF rfl rfl) ?_
    refine JO.nil ?_
    refine J.splitB 37 rfl (fun h37 => ?_) (fun h37 => ?_)
    · try simp only [decide_eq_true_eq, decide_eq_false_iff_not, Bool.not_eq_true', Bool.not_eq_false', Bool.and_eq_true, Bool.or_eq_true, Bool.and_eq_false_iff, Bool.or_eq_false_iff, Option.isNone_some, Option.isSome_some, Option.isNone_none, Option.isSome_none, Int.not_lt, Int.not_le, beq_iff_eq, beq_eq_false_iff_ne, bne_iff_ne, ne_eq, Bool.not_not, Decidable.not_not] at h37
      refine J.condT rfl rfl ?_
      refine J.seq rfl ?_
      refine J.region rfl ?_
      refine JO.effR rfl rfl rfl (Eff.call rfl (first_ok)) ?_
      refine JO.setv (u' := .bool true) 38 rfl (congrArg Value.bool (rfl)) ?_
      refine JO.pur rfl rfl rfl (Pur.assign rfl) ?_
      refine JO.nil ?_
      refine J.ret rfl rfl ?_
      exact ⟨_, _, ⟨rfl, rfl⟩, rfl, SubC.out⟩
    · try simp only [decide_eq_true_eq, decide_eq_false_iff_not, Bool.not_eq_true', Bool.not_eq_false', Bool.and_eq_true, Bool.or_eq_true, Bool.and_eq_false_iff, Bool.or_eq_false_iff, Option.isNone_some, Option.isSome_some, Option.isNone_none, Option.isSome_none, Int.not_lt, Int.not_le, beq_iff_eq, beq_eq_false_iff_ne, bne_iff_ne, ne_eq, Bool.not_not, Decidable.not_not] at h37
      refine J.condF rfl rfl ?_
      refine J.skip rfl ?_
      refine J.seq rfl ?_
      refine J.region rfl ?_
      refine JO.eff rfl rfl rfl (Eff.call rfl (@New_ok _ none 0 0 [] SlIn.nil rfl (by decide) (fun _ => ⟨rfl, rfl⟩))) ?_
      rintro _ _ ⟨p, rfl, rfl⟩
      refine JO.pur rfl rfl rfl (Pur.move rfl) ?_
      refine JO.pur rfl rfl rfl (Pur.extract rfl rfl) ?_
      refine JO.pur rfl rfl rfl (Pur.extract rfl rfl) ?_
      refine JO.pur rfl rfl rfl (Pur.assign rfl) ?_
      refine JO.pur rfl rfl rfl (Pur.assign rfl) ?_
      refine JO.nil ?_
      refine J.seq rfl ?_
      refine J.region rfl ?_
      refine JO.eff rfl rfl rfl (Eff.call rfl (@New_ok _ none 0 0 [] SlIn.nil rfl (by decide) (fun _ => ⟨rfl, rfl⟩))) ?_
      rintro _ _ ⟨p2, rfl, rfl⟩
      refine JO.pur rfl rfl rfl (Pur.move rfl) ?_
      refine JO.pur rfl rfl rfl (Pur.extract rfl rfl) ?_
      refine JO.pur rfl rfl rfl (Pur.extract rfl rfl) ?_
      refine JO.pur rfl rfl rfl (Pur.assign rfl) ?_
      refine JO.pur rfl rfl rfl (Pur.assign rfl) ?_
      refine JO.nil ?_
      refine J.seq rfl ?_
      refine J.seq rfl ?_
      refine J.region rfl ?_
      refine JO.pur rfl rfl rfl (Pur.move rfl) ?_
      refine JO.pur rfl rfl rfl (Pur.neqI rfl rfl) ?_
      refine JO.setv (u' := .bool false) 48 rfl (congrArg Value.bool (rfl)) ?_
      refine JO.pur rfl rfl rfl (Pur.move rfl) ?_
      refine JO.pur rfl rfl rfl (Pur.move rfl) ?_
      refine JO.pur rfl rfl rfl (Pur.neqI rfl rfl) ?_
      refine JO.setv (u' := .bool false) 51 rfl (congrArg Value.bool (rfl)) ?_
      refine JO.pur rfl rfl rfl (Pur.pickF rfl rfl) ?_
      refine JO.pur rfl rfl rfl (Pur.move rfl) ?_
      refine JO.pur rfl rfl rfl (Pur.move rfl) ?_
      refine JO.pur rfl rfl rfl (Pur.eqlPtrNil rfl) ?_
      refine JO.setv (u' := .bool false) 55 rfl (congrArg Value.bool (rfl)) ?_
      refine JO.pur rfl rfl rfl (Pur.pickF rfl rfl) ?_
      refine JO.pur rfl rfl rfl (Pur.move rfl) ?_
      refine JO.pur rfl rfl rfl (Pur.move rfl) ?_
      refine JO.pur rfl rfl rfl (Pur.eqlPtrNil rfl) ?_
      refine JO.setv (u' := .bool false) 59 rfl (congrArg Value.bool (rfl)) ?_
      refine JO.pur rfl rfl rfl (Pur.pickF rfl rfl) ?_
      refine JO.pur rfl rfl rfl (Pur.move rfl) ?_
      refine JO.pur rfl rfl rfl (Pur.move rfl) ?_
      refine JO.pur rfl rfl rfl (Pur.len rfl) ?_
      refine JO.pur rfl rfl rfl (Pur.move rfl) ?_
      refine JO.pur rfl rfl rfl (Pur.len rfl) ?_
      refine JO.pur rfl rfl rfl (Pur.neqI rfl rfl) ?_
      refine JO.setv (u' := .bool false) 66 rfl (congrArg Value.bool (decide_eq_false (by rw [hcl]; omega))) ?_
      refine JO.pur rfl rfl rfl (Pur.pickF rfl rfl) ?_
      refine JO.nil ?_
      refine J.condF rfl rfl ?_
      refine J.skip rfl ?_
      refine J.seq rfl ?_
      refine J.mask0 (n := 8) [] rfl Try.mixed rfl (by kernel_rfl) ?_
      refine JM.take 0 (fun _ h => h) rfl (by kernel_rfl) rfl rfl rfl (m' := 1) rfl (Pur.move rfl) ?_
      refine JM.take 1 (fun _ h => h) rfl (by kernel_rfl) rfl rfl rfl (m' := 3) rfl (Pur.len rfl) ?_
      refine JM.take 3 (fun _ h => h) rfl (by kernel_rfl) rfl rfl rfl (m' := 11) rfl (Pur.move rfl) ?_
      refine JM.take 4 (fun _ h => h) rfl (by kernel_rfl) rfl rfl rfl (m' := 27) rfl (Pur.len rfl) ?_
      refine JM.many (rs := [2, 5]) (by kernel_rfl) rfl (fun i hi => ?_)
      simp only [List.mem_cons, List.not_mem_nil, or_false] at hi
      rcases hi with rfl | rfl
      · skip
        refine JMi.eff rfl rfl rfl rfl (m' := 31) rfl (Eff.make intE 0 (n := parts.length) rfl rfl rfl rfl rfl (by decide) (by omega) (by omega)) ?_
        rintro _ _ ⟨b70, rfl, rfl⟩
        refine ⟨.inr (fun _ h => h.tail), ?_⟩
        refine JM.take 6 (fun _ h => h.tail) rfl (by kernel_rfl) rfl rfl rfl (m' := 95) rfl (Pur.assign rfl) ?_
        refine JM.one (i := 5) (by kernel_rfl) ?_
        refine JMi.eff rfl rfl rfl rfl (m' := 127) rfl (Eff.make intE 0 (n := parts.length) rfl rfl rfl rfl rfl (by decide) (by omega) (by omega)) ?_
        rintro _ _ ⟨b73, rfl, rfl⟩
        refine ⟨.inr (fun _ h => h.tail.tail), ?_⟩
        refine JM.take 7 (fun _ h => h.tail.tail) rfl (by kernel_rfl) rfl rfl rfl (m' := 255) rfl (Pur.assign rfl) ?_
        refine JM.done rfl ?_
        refine J.seq rfl ?_
        refine J.seq rfl ?_
        refine J.region rfl ?_
        refine JO.pur rfl rfl rfl (Pur.assign rfl) ?_
        refine JO.nil ?_
        refine J.block rfl ?_
        refine J.loopF (ι := Nat) (fun q => q ≤ parts.length ∧ Hf.Good (TW size parts [] ((q + 1 : Nat) : Int) q (fun _ => 0) (fun _ => 0)) q ∧ ∀ i, i < q → fits size parts i) (fun q => [(15, .int .i64 (q : Int))]) [(1, _), (2, _), (7, _), (9, _), (11, _), (13, _), (14, _)] (fun q => FA p (TW size parts [] ((q + 1 : Nat) : Int) q (fun _ => 0) (fun _ => 0)) :: sl intE (some ⟨b70, 0, none⟩) parts.length (natsL parts.length (opnN q)) :: sl intE (some ⟨b73, 0, none⟩) parts.length (natsL parts.length (fun _ => 0)) :: FA p2 (newF []) :: sl pairE a28 c28 (cutsV size (parts.length : Int)).1 :: L) (fun q => parts.length - q) 0 rfl (.cons rfl rfl (.cons rfl rfl (.cons rfl rfl (.cons rfl rfl (.cons rfl rfl (.cons rfl rfl (.cons rfl rfl .nil))))))) (.cons rfl rfl .nil) (fun h s => by rw [opnN_zero, natsL_zero]; show Sat h (FA p (newF []) :: sl intE (some ⟨b70, 0, none⟩) parts.length (List.replicate parts.length 0) :: sl intE (some ⟨b73, 0, none⟩) parts.length (List.replicate parts.length 0) :: FA p2 (newF []) :: sl pairE a28 c28 (cutsV size (parts.length : Int)).1 :: L); exact SubC.out h s) ⟨Nat.zero_le _, good_new (bs := []) (by decide), fun i hi => by omega⟩ ?_
        rintro k ⟨hk, hg, hft0⟩ ih0
        try dsimp only
        refine J.seq rfl ?_
        refine J.seq rfl ?_
        refine J.region rfl ?_
        refine JO.pur rfl rfl rfl (Pur.move rfl) ?_
        refine JO.pur rfl rfl rfl (Pur.move rfl) ?_
        refine JO.pur rfl rfl rfl (Pur.len rfl) ?_
        refine JO.pur rfl rfl rfl (Pur.lss rfl rfl) ?_
        refine JO.nil ?_
        refine J.splitB 77 rfl (fun h77 => ?_) (fun h77 => ?_)
        · try simp only [decide_eq_true_eq, decide_eq_false_iff_not, Bool.not_eq_true', Bool.not_eq_false', Bool.and_eq_true, Bool.or_eq_true, Bool.and_eq_false_iff, Bool.or_eq_false_iff, Option.isNone_some, Option.isSome_some, Option.isNone_none, Option.isSome_none, Int.not_lt, Int.not_le, beq_iff_eq, beq_eq_false_iff_ne, bne_iff_ne, ne_eq, Bool.not_not, Decidable.not_not] at h77
          have hkp : k < parts.length := by omega
          obtain ⟨hd, hH⟩ : ∃ hd, hs[k]? = some hd := ⟨_, List.getElem?_eq_getElem (by omega)⟩
          have hC := getD_part hkp
          have hdn := hdr_n hnn hH hC
          have hcg := cut_get hok (k := k) (by omega)
          have hc1 := cut_nonneg hok (k := k) (by omega)
          have hc2 := cut_nonneg hok (k := k + 1) (by omega)
          have hcm := cut_mono hok (k := k) (by omega)
          have hnl0 := natsL_len parts.length (opnN k)
          have hg2 := good_begin hg (cutA size parts.length k) (cutA size parts.length (k + 1)) true
          rw [tw3_begin hok hkp] at hg2
          refine J.condT rfl rfl ?_
          refine J.skip rfl ?_
          refine J.seq rfl ?_
          refine J.block rfl ?_
          refine J.seq rfl ?_
          refine J.seq rfl ?_
          refine J.quiet rfl Try.mixed (by kernel_rfl) ?_
          refine JQ.pur rfl rfl rfl (Pur.move rfl) ?_
          refine JQ.pur rfl rfl rfl (Pur.move rfl) ?_
          refine JQ.pur rfl rfl rfl (Pur.idx rfl rfl rfl (by first | rfl | (simp; done) | omega) rfl (by omega)) ?_
          refine JQ.pur rfl rfl rfl (Pur.load rfl (CellIn.el0 rfl hH rfl)) ?_
          refine JQ.pur rfl rfl rfl (Pur.len rfl) ?_
          refine JQ.pur rfl rfl rfl (Pur.move rfl) ?_
          refine JQ.pur rfl rfl rfl (Pur.move rfl) ?_
          refine JQ.pur rfl rfl rfl (Pur.idx rfl rfl rfl (by first | rfl | (simp; done) | omega) rfl (by rw [hcl]; omega)) ?_
          refine JQ.pur rfl rfl rfl (Pur.idxA (k := 1) rfl rfl rfl (by decide)) ?_
          refine JQ.pur rfl rfl rfl (Pur.load rfl (CellIn.el rfl hcg rfl)) ?_
          refine JQ.setv (u' := .int .i64 (cutA size (parts.length : Int) (k + 1))) 89 rfl rfl ?_
          refine JQ.pur rfl rfl rfl (Pur.move rfl) ?_
          refine JQ.pur rfl rfl rfl (Pur.move rfl) ?_
          refine JQ.pur rfl rfl rfl (Pur.idx rfl rfl rfl (by first | rfl | (simp; done) | omega) rfl (by rw [hcl]; omega)) ?_
          refine JQ.pur rfl rfl rfl (Pur.idxA (k := 0) rfl rfl rfl (by decide)) ?_
          refine JQ.pur rfl rfl rfl (Pur.load rfl (CellIn.el rfl hcg rfl)) ?_
          refine JQ.setv (u' := .int .i64 (cutA size (parts.length : Int) k)) 94 rfl rfl ?_
          refine JQ.pur rfl rfl rfl (Pur.sub rfl rfl (wr64 (by omega))) ?_
          refine JQ.pur rfl rfl rfl (Pur.gtr rfl rfl) ?_
          refine JQ.nil ?_
          refine J.splitB 96 rfl (fun h96 => ?_) (fun h96 => ?_)
          · try simp only [decide_eq_true_eq, decide_eq_false_iff_not, Bool.not_eq_true', Bool.not_eq_false', Bool.and_eq_true, Bool.or_eq_true, Bool.and_eq_false_iff, Bool.or_eq_false_iff, Option.isNone_some, Option.isSome_some, Option.isNone_none, Option.isSome_none, Int.not_lt, Int.not_le, beq_iff_eq, beq_eq_false_iff_ne, bne_iff_ne, ne_eq, Bool.not_not, Decidable.not_not] at h96
            refine J.condT rfl rfl ?_
            refine J.seq rfl ?_
            refine J.region rfl ?_
            refine JO.effR rfl rfl rfl (Eff.call rfl (first_ok)) ?_
            refine JO.setv (u' := .bool true) 97 rfl (congrArg Value.bool (rfl)) ?_
            refine JO.pur rfl rfl rfl (Pur.assign rfl) ?_
            refine JO.nil ?_
            refine J.ret rfl rfl ?_
            exact ⟨_, _, ⟨rfl, rfl⟩, rfl, SubC.out⟩
          · try simp only [decide_eq_true_eq, decide_eq_false_iff_not, Bool.not_eq_true', Bool.not_eq_false', Bool.and_eq_true, Bool.or_eq_true, Bool.and_eq_false_iff, Bool.or_eq_false_iff, Option.isNone_some, Option.isSome_some, Option.isNone_none, Option.isSome_none, Int.not_lt, Int.not_le, beq_iff_eq, beq_eq_false_iff_ne, bne_iff_ne, ne_eq, Bool.not_not, Decidable.not_not] at h96
            have hfk : fits size parts k := by unfold fits; omega
            have hft1 : ∀ i, i < k + 1 → fits size parts i := fun i hi => by
              rcases Nat.lt_or_ge i k with h | h
              · exact hft0 i h
              · rw [show i = k by omega]; exact hfk
            refine J.condF rfl rfl ?_
            refine J.skip rfl ?_
            refine J.seq rfl ?_
            refine J.mask1 (n := 17) [] rfl Try.mixed rfl (by kernel_rfl) ?_
            refine JM.take 0 (fun _ h => h.tail) rfl (by kernel_rfl) rfl rfl rfl (m' := 1) rfl (Pur.move rfl) ?_
            refine JM.take 1 (fun _ h => h.tail) rfl (by kernel_rfl) rfl rfl rfl (m' := 3) rfl (Pur.move rfl) ?_
            refine JM.take 2 (fun _ h => h.tail) rfl (by kernel_rfl) rfl rfl rfl (m' := 7) rfl (Pur.move rfl) ?_
            refine JM.take 3 (fun _ h => h.tail) rfl (by kernel_rfl) rfl rfl rfl (m' := 15) rfl (Pur.idx rfl rfl rfl (by first | rfl | (simp; done) | omega) rfl (by rw [hcl]; omega)) ?_
            refine JM.take 4 (fun _ h => h.tail) rfl (by kernel_rfl) rfl rfl rfl (m' := 31) rfl (Pur.idxA (k := 0) rfl rfl rfl (by decide)) ?_
            refine JM.take 5 (fun _ h => h.tail) rfl (by kernel_rfl) rfl rfl rfl (m' := 63) rfl (Pur.load rfl (CellIn.el rfl hcg rfl)) ?_
            refine JM.setv (u' := .int .i64 (cutA size (parts.length : Int) k)) 104 rfl rfl ?_
            refine JM.take 6 (fun _ h => h.tail) rfl (by kernel_rfl) rfl rfl rfl (m' := 127) rfl (Pur.move rfl) ?_
            refine JM.take 7 (fun _ h => h.tail) rfl (by kernel_rfl) rfl rfl rfl (m' := 255) rfl (Pur.move rfl) ?_
            refine JM.take 8 (fun _ h => h.tail) rfl (by kernel_rfl) rfl rfl rfl (m' := 511) rfl (Pur.idx rfl rfl rfl (by first | rfl | (simp; done) | omega) rfl (by rw [hcl]; omega)) ?_
            refine JM.take 9 (fun _ h => h.tail) rfl (by kernel_rfl) rfl rfl rfl (m' := 1023) rfl (Pur.idxA (k := 1) rfl rfl rfl (by decide)) ?_
            refine JM.take 10 (fun _ h => h.tail) rfl (by kernel_rfl) rfl rfl rfl (m' := 2047) rfl (Pur.load rfl (CellIn.el rfl hcg rfl)) ?_
            refine JM.setv (u' := .int .i64 (cutA size (parts.length : Int) (k + 1))) 109 rfl rfl ?_
            refine JM.one (i := 11) (by kernel_rfl) ?_
            refine JMi.eff rfl rfl rfl rfl (m' := 4095) rfl (Eff.call rfl (Writer_ok hg (by omega))) ?_
            rintro _ _ ⟨rfl, rfl⟩
            refine ⟨.inr (fun _ h => h.tail), ?_⟩
            rw [tw3_begin hok hkp]
            refine JM.take 12 (fun _ h => h.tail) rfl (by kernel_rfl) rfl rfl rfl (m' := 8191) rfl (Pur.move rfl) ?_
            refine JM.take 13 (fun _ h => h.tail) rfl (by kernel_rfl) rfl rfl rfl (m' := 16383) rfl (Pur.extract rfl rfl) ?_
            refine JM.take 14 (fun _ h => h.tail) rfl (by kernel_rfl) rfl rfl rfl (m' := 32767) rfl (Pur.extract rfl rfl) ?_
            refine JM.take 15 (fun _ h => h.tail) rfl (by kernel_rfl) rfl rfl rfl (m' := 65535) rfl (Pur.assign rfl) ?_
            refine JM.take 16 (fun _ h => h.tail) rfl (by kernel_rfl) rfl rfl rfl (m' := 131071) rfl (Pur.assign rfl) ?_
            refine JM.done rfl ?_
            refine J.seq rfl ?_
            refine J.seq rfl ?_
            refine J.region rfl ?_
            refine JO.pur rfl rfl rfl (Pur.move rfl) ?_
            refine JO.pur rfl rfl rfl (Pur.neqI rfl rfl) ?_
            refine JO.setv (u' := .bool false) 114 rfl (congrArg Value.bool (rfl)) ?_
            refine JO.nil ?_
            refine J.condF rfl rfl ?_
            refine J.skip rfl ?_
            refine J.region rfl ?_
            refine JO.pur rfl rfl rfl (Pur.move rfl) ?_
            refine JO.pur rfl rfl rfl (Pur.move rfl) ?_
            refine JO.pur rfl rfl rfl (Pur.move rfl) ?_
            refine JO.pur rfl rfl rfl (Pur.idx rfl rfl rfl (by first | rfl | (simp; done) | omega) rfl (by rw [natsL_len]; omega)) ?_
            refine JO.effN rfl rfl (Eff.storeS0 (z' := ((k + 1 : Nat) : Int)) rfl rfl rfl rfl (natsL_get hkp) .head) ?_
            rintro _ _ ⟨rfl, rfl⟩
            refine JO.nil ?_
            refine J.inBlock ?_
            refine J.region rfl ?_
            refine JO.pur rfl rfl rfl (Pur.move rfl) ?_
            refine JO.pur rfl rfl rfl (Pur.add rfl rfl (wr64 (by omega))) ?_
            refine JO.pur rfl rfl rfl (Pur.assign rfl) ?_
            refine JO.nil ?_
            exact J.weaken (.cons rfl (congrArg (Value.int .i64) (by first | rfl | (dsimp only; omega))) (.cons rfl rfl (.cons rfl rfl (.cons rfl rfl (.cons rfl rfl (.cons rfl rfl (.cons rfl rfl (.cons rfl rfl .nil)))))))) (fun h s => by rw [natsL_set, opnN_step] at s; exact SubC.out h s) (ih0 (k + 1) ⟨by omega, hg2, hft1⟩ (by omega))
        · try simp only [decide_eq_true_eq, decide_eq_false_iff_not, Bool.not_eq_true', Bool.not_eq_false', Bool.and_eq_true, Bool.or_eq_true, Bool.and_eq_false_iff, Bool.or_eq_false_iff, Option.isNone_some, Option.isSome_some, Option.isNone_none, Option.isSome_none, Int.not_lt, Int.not_le, beq_iff_eq, beq_eq_false_iff_ne, bne_iff_ne, ne_eq, Bool.not_not, Decidable.not_not] at h77
          obtain rfl : k = parts.length := by omega
          have hft : ∀ i, i < parts.length → fits size parts i := hft0
          refine J.condF rfl rfl ?_
          refine J.exit rfl rfl ?_
          refine J.seq rfl ?_
          refine J.seq rfl ?_
          refine J.region rfl ?_
          refine JO.pur rfl rfl rfl (Pur.assign rfl) ?_
          refine JO.nil ?_
          refine J.block rfl ?_
          refine J.loopF (ι := Nat × (Nat → Nat) × (Nat → Nat)) (fun q => q.1 ≤ picks.length ∧ (∀ i, i < parts.length → q.2.2 i ≤ q.2.1 i ∧ q.2.1 i ≤ (parts.getD i []).length) ∧ Hf.Good (TW size parts (IM size parts q.2.2) ((parts.length + 1 : Nat) : Int) parts.length q.2.1 q.2.2) parts.length) (fun q => [(18, .int .i64 (q.1 : Int))]) [(1, _), (2, _), (7, _), (9, _), (11, _), (13, _), (14, _)] (fun q => FA p (TW size parts (IM size parts q.2.2) ((parts.length + 1 : Nat) : Int) parts.length q.2.1 q.2.2) :: sl intE (some ⟨b73, 0, none⟩) parts.length (natsL parts.length q.2.1) :: sl intE (some ⟨b70, 0, none⟩) parts.length (natsL parts.length (opnN parts.length)) :: FA p2 (newF []) :: sl pairE a28 c28 (cutsV size (parts.length : Int)).1 :: L) (fun q => picks.length - q.1) (0, (fun _ => 0), (fun _ => 0)) rfl (.cons rfl rfl (.cons rfl rfl (.cons rfl rfl (.cons rfl rfl (.cons rfl rfl (.cons rfl rfl (.cons rfl rfl .nil))))))) (.cons rfl rfl .nil) (fun h s => by dsimp only; rw [IM_zero]; exact SubC.out h s) ⟨Nat.zero_le _, fun i hi => ⟨Nat.le_refl _, Nat.zero_le _⟩, by dsimp only; rw [IM_zero]; exact hg⟩ ?_
          rintro ⟨k, at1, w1⟩ ⟨hk, hw, hgd⟩ ih1
          try dsimp only
          dsimp only at hk hw hgd
          refine J.seq rfl ?_
          refine J.seq rfl ?_
          refine J.region rfl ?_
          refine JO.pur rfl rfl rfl (Pur.move rfl) ?_
          refine JO.pur rfl rfl rfl (Pur.move rfl) ?_
          refine JO.pur rfl rfl rfl (Pur.len rfl) ?_
          refine JO.pur rfl rfl rfl (Pur.lss rfl rfl) ?_
          refine JO.nil ?_
          refine J.splitB 122 rfl (fun h122 => ?_) (fun h122 => ?_)
          · try simp only [decide_eq_true_eq, decide_eq_false_iff_not, Bool.not_eq_true', Bool.not_eq_false', Bool.and_eq_true, Bool.or_eq_true, Bool.and_eq_false_iff, Bool.or_eq_false_iff, Option.isNone_some, Option.isSome_some, Option.isNone_none, Option.isSome_none, Int.not_lt, Int.not_le, beq_iff_eq, beq_eq_false_iff_ne, bne_iff_ne, ne_eq, Bool.not_not, Decidable.not_not] at h122
            have hnl0 := natsL_len parts.length at1
            have hnl1 := natsL_len parts.length (opnN parts.length)
            obtain ⟨pv, hpk⟩ : ∃ pv, picks[k]? = some pv := ⟨_, List.getElem?_eq_getElem (by omega)⟩
            refine J.condT rfl rfl ?_
            refine J.skip rfl ?_
            refine J.seq rfl ?_
            refine J.block rfl ?_
            refine J.seq rfl ?_
            refine J.region rfl ?_
            refine JO.pur rfl rfl rfl (Pur.move rfl) ?_
            refine JO.pur rfl rfl rfl (Pur.move rfl) ?_
            refine JO.pur rfl rfl rfl (Pur.idx rfl rfl rfl (by first | rfl | (simp; done) | omega) rfl (by omega)) ?_
            refine JO.pur rfl rfl rfl (Pur.load rfl (CellIn.el0 rfl hpk rfl)) ?_
            refine JO.pur rfl rfl rfl (Pur.assign rfl) ?_
            refine JO.nil ?_
            refine J.seq rfl ?_
            refine J.quiet rfl Try.mixed (by kernel_rfl) ?_
            refine JQ.pur rfl rfl rfl (Pur.move rfl) ?_
            refine JQ.pur rfl rfl rfl (Pur.geq rfl rfl) ?_
            refine JQ.pur rfl rfl rfl (Pur.move rfl) ?_
            refine JQ.splitB 131 rfl (fun h131 => ?_) (fun h131 => ?_)
            · try simp only [decide_eq_true_eq, decide_eq_false_iff_not, Bool.not_eq_true', Bool.not_eq_false', Bool.and_eq_true, Bool.or_eq_true, Bool.and_eq_false_iff, Bool.or_eq_false_iff, Option.isNone_some, Option.isSome_some, Option.isNone_none, Option.isSome_none, Int.not_lt, Int.not_le, beq_iff_eq, beq_eq_false_iff_ne, bne_iff_ne, ne_eq, Bool.not_not, Decidable.not_not] at h131
              refine JQ.pur rfl rfl rfl (Pur.move rfl) ?_
              refine JQ.pur rfl rfl rfl (Pur.move rfl) ?_
              refine JQ.pur rfl rfl rfl (Pur.len rfl) ?_
              refine JQ.pur rfl rfl rfl (Pur.lss rfl rfl) ?_
              refine JQ.pur rfl rfl rfl (Pur.pickT rfl rfl) ?_
              refine JQ.pur rfl rfl rfl (Pur.move rfl) ?_
              refine JQ.splitB 137 rfl (fun h137 => ?_) (fun h137 => ?_)
              · try simp only [decide_eq_true_eq, decide_eq_false_iff_not, Bool.not_eq_true', Bool.not_eq_false', Bool.and_eq_true, Bool.or_eq_true, Bool.and_eq_false_iff, Bool.or_eq_false_iff, Option.isNone_some, Option.isSome_some, Option.isNone_none, Option.isSome_none, Int.not_lt, Int.not_le, beq_iff_eq, beq_eq_false_iff_ne, bne_iff_ne, ne_eq, Bool.not_not, Decidable.not_not] at h137
                have hp0 : 0 ≤ pv := by omega
                have hpl2 : pv.toNat < parts.length := by omega
                obtain ⟨hd, hH⟩ : ∃ hd, hs[pv.toNat]? = some hd := ⟨_, List.getElem?_eq_getElem (by omega)⟩
                have hC := getD_part hpl2
                have hdn := hdr_n hnn hH hC
                have hyl : (parts.getD pv.toNat []).length ≤ 9223372036854775807 := hpl _ (List.mem_of_getElem? hC)
                have hatg : (natsL parts.length at1)[pv.toNat]? = some ((at1 pv.toNat : Nat) : Int) := natsL_get hpl2
                have hwi := hw pv.toNat hpl2
                refine JQ.pur rfl rfl rfl (Pur.move rfl) ?_
                refine JQ.pur rfl rfl rfl (Pur.move rfl) ?_
                refine JQ.pur rfl rfl rfl (Pur.idx rfl rfl rfl (by first | rfl | (simp; done) | omega) (Int.toNat_of_nonneg hp0).symm (by rw [natsL_len]; omega)) ?_
                refine JQ.pur rfl rfl rfl (Pur.load rfl (CellIn.el0 rfl hatg rfl)) ?_
                refine JQ.pur rfl rfl rfl (Pur.move rfl) ?_
                refine JQ.pur rfl rfl rfl (Pur.move rfl) ?_
                refine JQ.pur rfl rfl rfl (Pur.idx rfl rfl rfl (by first | rfl | (simp; done) | omega) (Int.toNat_of_nonneg hp0).symm (by omega)) ?_
                refine JQ.pur rfl rfl rfl (Pur.load rfl (CellIn.el0 rfl hH rfl)) ?_
                refine JQ.pur rfl rfl rfl (Pur.len rfl) ?_
                refine JQ.pur rfl rfl rfl (Pur.lss rfl rfl) ?_
                refine JQ.pur rfl rfl rfl (Pur.pickT rfl rfl) ?_
                refine JQ.nil ?_
                refine J.splitB 148 rfl (fun h148 => ?_) (fun h148 => ?_)
                · try simp only [decide_eq_true_eq, decide_eq_false_iff_not, Bool.not_eq_true', Bool.not_eq_false', Bool.and_eq_true, Bool.or_eq_true, Bool.and_eq_false_iff, Bool.or_eq_false_iff, Option.isNone_some, Option.isSome_some, Option.isNone_none, Option.isSome_none, Int.not_lt, Int.not_le, beq_iff_eq, beq_eq_false_iff_ne, bne_iff_ne, ne_eq, Bool.not_not, Decidable.not_not] at h148
                  have hlt : at1 pv.toNat < (parts.getD pv.toNat []).length := by omega
                  have hw1 := tw2_write hok (B := IM size parts w1) (nx := ((parts.length + 1 : Nat) : Int)) (m := parts.length) (a := at1) (w := w1) (i := pv.toNat) (b := at1 pv.toNat + 1) hpl2 hwi.1 (by omega) hlt (hft _ hpl2)
                  have hopg : (natsL parts.length (opnN parts.length))[pv.toNat]? = some ((pv.toNat + 1 : Nat) : Int) := by rw [natsL_get hpl2, opnN_at hpl2]
                  have hg2 := good_write hgd ((pv.toNat + 1 : Nat) : Int) (((parts.getD pv.toNat []).drop (at1 pv.toNat)).take (at1 pv.toNat + 1 - at1 pv.toNat))
                  rw [hw1] at hg2
                  have hwa : ∀ i, i < parts.length → w1 i ≤ updN at1 pv.toNat (at1 pv.toNat + 1) i ∧ updN at1 pv.toNat (at1 pv.toNat + 1) i ≤ (parts.getD i []).length := fun i hi => by
                    by_cases e : i = pv.toNat
                    · subst e; rw [updN_at]; omega
                    · rw [updN_ne e]; exact hw i hi
                  have hw2 := tw2_commit hok hft (nx := ((parts.length + 1 : Nat) : Int)) (m := parts.length) (a := updN at1 pv.toNat (at1 pv.toNat + 1)) (w := w1) (i := pv.toNat) hwa (Nat.le_refl _) hpl2
                  rw [updN_at] at hw2
                  have hg3 := good_commit hg2 ((pv.toNat + 1 : Nat) : Int)
                  rw [hw2] at hg3
                  have hwb : ∀ i, i < parts.length → updN w1 pv.toNat (at1 pv.toNat + 1) i ≤ updN at1 pv.toNat (at1 pv.toNat + 1) i ∧ updN at1 pv.toNat (at1 pv.toNat + 1) i ≤ (parts.getD i []).length := fun i hi => by
                    by_cases e : i = pv.toNat
                    · subst e; rw [updN_at, updN_at]; omega
                    · rw [updN_ne e, updN_ne e]; exact hw i hi
                  refine J.fact (fun h s => RowsR.fit (E := byE) (hs := hs) (xss := parts) s hH hC) fun hfit => ?_
                  have hne : ¬ hd.a = none := fun e => by have := hfit.1 e; omega
                  refine J.condT rfl rfl ?_
                  refine J.seq rfl ?_
                  refine J.seq rfl ?_
                  refine J.mask1 (n := 35) [] rfl Try.mixed rfl (by kernel_rfl) ?_
                  refine JM.take 0 (fun _ h => h.tail) rfl (by kernel_rfl) rfl rfl rfl (m' := 1) rfl (Pur.move rfl) ?_
                  refine JM.take 1 (fun _ h => h.tail) rfl (by kernel_rfl) rfl rfl rfl (m' := 3) rfl (Pur.move rfl) ?_
                  refine JM.take 2 (fun _ h => h.tail) rfl (by kernel_rfl) rfl rfl rfl (m' := 7) rfl (Pur.move rfl) ?_
                  refine JM.take 3 (fun _ h => h.tail) rfl (by kernel_rfl) rfl rfl rfl (m' := 15) rfl (Pur.idx rfl rfl rfl (by first | rfl | (simp; done) | omega) (Int.toNat_of_nonneg hp0).symm (by rw [natsL_len]; omega)) ?_
                  refine JM.take 4 (fun _ h => h.tail) rfl (by kernel_rfl) rfl rfl rfl (m' := 31) rfl (Pur.load rfl (CellIn.el0 rfl hopg rfl)) ?_
                  refine JM.take 5 (fun _ h => h.tail) rfl (by kernel_rfl) rfl rfl rfl (m' := 63) rfl (Pur.move rfl) ?_
                  refine JM.take 6 (fun _ h => h.tail) rfl (by kernel_rfl) rfl rfl rfl (m' := 127) rfl (Pur.move rfl) ?_
                  refine JM.take 7 (fun _ h => h.tail) rfl (by kernel_rfl) rfl rfl rfl (m' := 255) rfl (Pur.idx rfl rfl rfl (by first | rfl | (simp; done) | omega) (Int.toNat_of_nonneg hp0).symm (by omega)) ?_
                  refine JM.take 8 (fun _ h => h.tail) rfl (by kernel_rfl) rfl rfl rfl (m' := 511) rfl (Pur.load rfl (CellIn.el0 rfl hH rfl)) ?_
                  refine JM.take 9 (fun _ h => h.tail) rfl (by kernel_rfl) rfl rfl rfl (m' := 1023) rfl (Pur.move rfl) ?_
                  refine JM.take 10 (fun _ h => h.tail) rfl (by kernel_rfl) rfl rfl rfl (m' := 2047) rfl (Pur.move rfl) ?_
                  refine JM.take 11 (fun _ h => h.tail) rfl (by kernel_rfl) rfl rfl rfl (m' := 4095) rfl (Pur.idx rfl rfl rfl (by first | rfl | (simp; done) | omega) (Int.toNat_of_nonneg hp0).symm (by rw [natsL_len]; omega)) ?_
                  refine JM.take 12 (fun _ h => h.tail) rfl (by kernel_rfl) rfl rfl rfl (m' := 8191) rfl (Pur.load rfl (CellIn.el0 rfl hatg rfl)) ?_
                  refine JM.take 13 (fun _ h => h.tail) rfl (by kernel_rfl) rfl rfl rfl (m' := 16383) rfl (Pur.move rfl) ?_
                  refine JM.take 14 (fun _ h => h.tail) rfl (by kernel_rfl) rfl rfl rfl (m' := 32767) rfl (Pur.move rfl) ?_
                  refine JM.take 15 (fun _ h => h.tail) rfl (by kernel_rfl) rfl rfl rfl (m' := 65535) rfl (Pur.idx rfl rfl rfl (by first | rfl | (simp; done) | omega) (Int.toNat_of_nonneg hp0).symm (by rw [natsL_len]; omega)) ?_
                  refine JM.take 16 (fun _ h => h.tail) rfl (by kernel_rfl) rfl rfl rfl (m' := 131071) rfl (Pur.load rfl (CellIn.el0 rfl hatg rfl)) ?_
                  refine JM.take 17 (fun _ h => h.tail) rfl (by kernel_rfl) rfl rfl rfl (m' := 262143) rfl (Pur.add rfl rfl (wr64 (by omega))) ?_
                  refine JM.take 18 (fun _ h => h.tail) rfl (by kernel_rfl) rfl rfl rfl (m' := 524287) rfl (Pur.slice2 rfl rfl rfl rfl (show ((at1 pv.toNat : Nat) : Int) + 1 = ((at1 pv.toNat + 1 : Nat) : Int) by omega) (by omega) (by omega)) ?_
                  refine JM.one (i := 19) (by kernel_rfl) ?_
                  refine JMi.eff rfl rfl rfl rfl (m' := 1048575) rfl (Eff.call rfl (@Write_ok _ _ _ _ _ _ _ (((parts.getD pv.toNat []).drop (at1 pv.toNat)).take (at1 pv.toNat + 1 - at1 pv.toNat)) (SlIn.takeN (SlIn.dropN (cap := hd.cap) (RowsR.row (E := byE) inferInstance hH hC) rfl (at1 pv.toNat) (by omega)) (at1 pv.toNat + 1 - at1 pv.toNat)) (by rw [List.length_take, List.length_drop]; omega) (by rw [List.length_take]; omega) (fun e => absurd (tail_none e) hne) parts.length hgd (by omega))) ?_
                  rintro _ _ ⟨rfl, rfl⟩
                  refine ⟨.inr (fun _ h => h.tail), ?_⟩
                  rw [hw1]
                  refine JM.take 20 (fun _ h => h.tail) rfl (by kernel_rfl) rfl rfl rfl (m' := 2097151) rfl (Pur.neqI rfl rfl) ?_
                  refine JM.setv (u' := .bool false) 169 rfl (congrArg Value.bool (rfl)) ?_
                  refine JM.take 21 (fun _ h => h.tail) rfl (by kernel_rfl) rfl rfl rfl (m' := 4194303) rfl (Pur.move rfl) ?_
                  refine JM.take 22 (fun _ h => h.tail) rfl (by kernel_rfl) rfl rfl rfl (m' := 8388607) rfl (Pur.move rfl) ?_
                  refine JM.take 23 (fun _ h => h.tail) rfl (by kernel_rfl) rfl rfl rfl (m' := 16777215) rfl (Pur.rem rfl rfl (by decide)) ?_
                  refine JM.take 24 (fun _ h => h.tail) rfl (by kernel_rfl) rfl rfl rfl (m' := 33554431) rfl (Pur.eqlI rfl rfl) ?_
                  refine JM.take 25 (fun _ h => h.tail) rfl (by kernel_rfl) rfl rfl rfl (m' := 67108863) rfl (Pur.move rfl) ?_
                  refine JM.splitB 174 rfl (fun h174 => ?_) (fun h174 => ?_)
                  · try simp only [decide_eq_true_eq, decide_eq_false_iff_not, Bool.not_eq_true', Bool.not_eq_false', Bool.and_eq_true, Bool.or_eq_true, Bool.and_eq_false_iff, Bool.or_eq_false_iff, Option.isNone_some, Option.isSome_some, Option.isNone_none, Option.isSome_none, Int.not_lt, Int.not_le, beq_iff_eq, beq_eq_false_iff_ne, bne_iff_ne, ne_eq, Bool.not_not, Decidable.not_not] at h174
                    refine JM.take 26 (fun _ h => h.tail) rfl (by kernel_rfl) rfl rfl rfl (m' := 134217727) rfl (Pur.move rfl) ?_
                    refine JM.take 27 (fun _ h => h.tail) rfl (by kernel_rfl) rfl rfl rfl (m' := 268435455) rfl (Pur.move rfl) ?_
                    refine JM.take 28 (fun _ h => h.tail) rfl (by kernel_rfl) rfl rfl rfl (m' := 536870911) rfl (Pur.move rfl) ?_
                    refine JM.take 29 (fun _ h => h.tail) rfl (by kernel_rfl) rfl rfl rfl (m' := 1073741823) rfl (Pur.idx rfl rfl rfl (by first | rfl | (simp; done) | omega) (Int.toNat_of_nonneg hp0).symm (by rw [natsL_len]; omega)) ?_
                    refine JM.take 30 (fun _ h => h.tail) rfl (by kernel_rfl) rfl rfl rfl (m' := 2147483647) rfl (Pur.load rfl (CellIn.el0 rfl hopg rfl)) ?_
                    refine JM.one (i := 31) (by kernel_rfl) ?_
                    refine JMi.eff rfl rfl rfl rfl (m' := 4294967295) rfl (Eff.call rfl (Commit_ok (n := ((pv.toNat + 1 : Nat) : Int)) hg2 (by omega))) ?_
                    rintro _ _ ⟨rfl, rfl⟩
                    refine ⟨.inr (fun _ h => h.tail), ?_⟩
                    rw [hw2]
                    refine JM.take 32 (fun _ h => h.tail) rfl (by kernel_rfl) rfl rfl rfl (m' := 8589934591) rfl (Pur.neqI rfl rfl) ?_
                    refine JM.setv (u' := .bool false) 181 rfl (congrArg Value.bool (rfl)) ?_
                    refine JM.take 33 (fun _ h => h.tail) rfl (by kernel_rfl) rfl rfl rfl (m' := 17179869183) rfl (Pur.pickT rfl rfl) ?_
                    refine JM.take 34 (fun _ h => h.tail) rfl (by kernel_rfl) rfl rfl rfl (m' := 34359738367) rfl (Pur.pickF rfl rfl) ?_
                    refine JM.done rfl ?_
                    refine J.condF rfl rfl ?_
                    refine J.skip rfl ?_
                    refine J.region rfl ?_
                    refine JO.pur rfl rfl rfl (Pur.move rfl) ?_
                    refine JO.pur rfl rfl rfl (Pur.move rfl) ?_
                    refine JO.pur rfl rfl rfl (Pur.idx rfl rfl rfl (by first | rfl | (simp; done) | omega) (Int.toNat_of_nonneg hp0).symm (by rw [natsL_len]; omega)) ?_
                    refine JO.pur rfl rfl rfl (Pur.load rfl (CellIn.el0 rfl hatg rfl)) ?_
                    refine JO.pur rfl rfl rfl (Pur.add rfl rfl (wr64 (by omega))) ?_
                    refine JO.pur rfl rfl rfl (Pur.idx rfl rfl rfl (by first | rfl | (simp; done) | omega) (Int.toNat_of_nonneg hp0).symm (by rw [natsL_len]; omega)) ?_
                    refine JO.effN rfl rfl (Eff.storeS0 (z' := ((at1 pv.toNat + 1 : Nat) : Int)) rfl rfl rfl rfl hatg .head) ?_
                    rintro _ _ ⟨rfl, rfl⟩
                    refine JO.nil ?_
                    refine J.inBlock ?_
                    refine J.region rfl ?_
                    refine JO.pur rfl rfl rfl (Pur.move rfl) ?_
                    refine JO.pur rfl rfl rfl (Pur.add rfl rfl (wr64 (by omega))) ?_
                    refine JO.pur rfl rfl rfl (Pur.assign rfl) ?_
                    refine JO.nil ?_
                    first
                      | exact J.weaken (.cons rfl (congrArg (Value.int .i64) (by first | rfl | (dsimp only; omega))) (.cons rfl rfl (.cons rfl rfl (.cons rfl rfl (.cons rfl rfl (.cons rfl rfl (.cons rfl rfl (.cons rfl rfl .nil)))))))) (by first | exact fun _ h => h | exact SubC.out | (dsimp only; exact SubC.out)) (ih1 (k + 1, at1, w1) ⟨(by dsimp only; omega), hw, hgd⟩ (by dsimp only; omega))
                      | exact J.weaken (.cons rfl (congrArg (Value.int .i64) (by first | rfl | (dsimp only; omega))) (.cons rfl rfl (.cons rfl rfl (.cons rfl rfl (.cons rfl rfl (.cons rfl rfl (.cons rfl rfl (.cons rfl rfl .nil)))))))) (fun h s => by rw [natsL_set] at s; exact SubC.out h s) (ih1 (k + 1, updN at1 pv.toNat (at1 pv.toNat + 1), w1) ⟨(by dsimp only; omega), hwa, hg2⟩ (by dsimp only; omega))
                      | exact J.weaken (.cons rfl (congrArg (Value.int .i64) (by first | rfl | (dsimp only; omega))) (.cons rfl rfl (.cons rfl rfl (.cons rfl rfl (.cons rfl rfl (.cons rfl rfl (.cons rfl rfl (.cons rfl rfl .nil)))))))) (fun h s => by rw [natsL_set] at s; exact SubC.out h s) (ih1 (k + 1, updN at1 pv.toNat (at1 pv.toNat + 1), updN w1 pv.toNat (at1 pv.toNat + 1)) ⟨(by dsimp only; omega), hwb, hg3⟩ (by dsimp only; omega))
                  · try simp only [decide_eq_true_eq, decide_eq_false_iff_not, Bool.not_eq_true', Bool.not_eq_false', Bool.and_eq_true, Bool.or_eq_true, Bool.and_eq_false_iff, Bool.or_eq_false_iff, Option.isNone_some, Option.isSome_some, Option.isNone_none, Option.isSome_none, Int.not_lt, Int.not_le, beq_iff_eq, beq_eq_false_iff_ne, bne_iff_ne, ne_eq, Bool.not_not, Decidable.not_not] at h174
                    refine JM.takeNo 26 (fun _ h => h.tail) rfl (by kernel_rfl) rfl rfl rfl (m' := 134217727) rfl ?_
                    refine JM.takeNo 27 (fun _ h => h.tail) rfl (by kernel_rfl) rfl rfl rfl (m' := 268435455) rfl ?_
                    refine JM.takeNo 28 (fun _ h => h.tail) rfl (by kernel_rfl) rfl rfl rfl (m' := 536870911) rfl ?_
                    refine JM.takeNo 29 (fun _ h => h.tail) rfl (by kernel_rfl) rfl rfl rfl (m' := 1073741823) rfl ?_
                    refine JM.takeNo 30 (fun _ h => h.tail) rfl (by kernel_rfl) rfl rfl rfl (m' := 2147483647) rfl ?_
                    refine JM.one (i := 31) (by kernel_rfl) ?_
                    refine JMi.no rfl rfl rfl rfl (m' := 4294967295) rfl (fun _ h => h.tail) ?_
                    refine JM.takeNo 32 (fun _ h => h.tail) rfl (by kernel_rfl) rfl rfl rfl (m' := 8589934591) rfl ?_
                    refine JM.take 33 (fun _ h => h.tail) rfl (by kernel_rfl) rfl rfl rfl (m' := 17179869183) rfl (Pur.pickF rfl rfl) ?_
                    refine JM.take 34 (fun _ h => h.tail) rfl (by kernel_rfl) rfl rfl rfl (m' := 34359738367) rfl (Pur.pickF rfl rfl) ?_
                    refine JM.done rfl ?_
                    refine J.condF rfl rfl ?_
                    refine J.skip rfl ?_
                    refine J.region rfl ?_
                    refine JO.pur rfl rfl rfl (Pur.move rfl) ?_
                    refine JO.pur rfl rfl rfl (Pur.move rfl) ?_
                    refine JO.pur rfl rfl rfl (Pur.idx rfl rfl rfl (by first | rfl | (simp; done) | omega) (Int.toNat_of_nonneg hp0).symm (by rw [natsL_len]; omega)) ?_
                    refine JO.pur rfl rfl rfl (Pur.load rfl (CellIn.el0 rfl hatg rfl)) ?_
                    refine JO.pur rfl rfl rfl (Pur.add rfl rfl (wr64 (by omega))) ?_
                    refine JO.pur rfl rfl rfl (Pur.idx rfl rfl rfl (by first | rfl | (simp; done) | omega) (Int.toNat_of_nonneg hp0).symm (by rw [natsL_len]; omega)) ?_
                    refine JO.effN rfl rfl (Eff.storeS0 (z' := ((at1 pv.toNat + 1 : Nat) : Int)) rfl rfl rfl rfl hatg .head) ?_
                    rintro _ _ ⟨rfl, rfl⟩
                    refine JO.nil ?_
                    refine J.inBlock ?_
                    refine J.region rfl ?_
                    refine JO.pur rfl rfl rfl (Pur.move rfl) ?_
                    refine JO.pur rfl rfl rfl (Pur.add rfl rfl (wr64 (by omega))) ?_
                    refine JO.pur rfl rfl rfl (Pur.assign rfl) ?_
                    refine JO.nil ?_
                    first
                      | exact J.weaken (.cons rfl (congrArg (Value.int .i64) (by first | rfl | (dsimp only; omega))) (.cons rfl rfl (.cons rfl rfl (.cons rfl rfl (.cons rfl rfl (.cons rfl rfl (.cons rfl rfl (.cons rfl rfl .nil)))))))) (by first | exact fun _ h => h | exact SubC.out | (dsimp only; exact SubC.out)) (ih1 (k + 1, at1, w1) ⟨(by dsimp only; omega), hw, hgd⟩ (by dsimp only; omega))
                      | exact J.weaken (.cons rfl (congrArg (Value.int .i64) (by first | rfl | (dsimp only; omega))) (.cons rfl rfl (.cons rfl rfl (.cons rfl rfl (.cons rfl rfl (.cons rfl rfl (.cons rfl rfl (.cons rfl rfl .nil)))))))) (fun h s => by rw [natsL_set] at s; exact SubC.out h s) (ih1 (k + 1, updN at1 pv.toNat (at1 pv.toNat + 1), w1) ⟨(by dsimp only; omega), hwa, hg2⟩ (by dsimp only; omega))
                      | exact J.weaken (.cons rfl (congrArg (Value.int .i64) (by first | rfl | (dsimp only; omega))) (.cons rfl rfl (.cons rfl rfl (.cons rfl rfl (.cons rfl rfl (.cons rfl rfl (.cons rfl rfl (.cons rfl rfl .nil)))))))) (fun h s => by rw [natsL_set] at s; exact SubC.out h s) (ih1 (k + 1, updN at1 pv.toNat (at1 pv.toNat + 1), updN w1 pv.toNat (at1 pv.toNat + 1)) ⟨(by dsimp only; omega), hwb, hg3⟩ (by dsimp only; omega))
                · try simp only [decide_eq_true_eq, decide_eq_false_iff_not, Bool.not_eq_true', Bool.not_eq_false', Bool.and_eq_true, Bool.or_eq_true, Bool.and_eq_false_iff, Bool.or_eq_false_iff, Option.isNone_some, Option.isSome_some, Option.isNone_none, Option.isSome_none, Int.not_lt, Int.not_le, beq_iff_eq, beq_eq_false_iff_ne, bne_iff_ne, ne_eq, Bool.not_not, Decidable.not_not] at h148
                  refine J.condF rfl rfl ?_
                  refine J.skip rfl ?_
                  refine J.inBlock ?_
                  refine J.region rfl ?_
                  refine JO.pur rfl rfl rfl (Pur.move rfl) ?_
                  refine JO.pur rfl rfl rfl (Pur.add rfl rfl (wr64 (by omega))) ?_
                  refine JO.pur rfl rfl rfl (Pur.assign rfl) ?_
                  refine JO.nil ?_
                  first
                    | exact J.weaken (.cons rfl (congrArg (Value.int .i64) (by first | rfl | (dsimp only; omega))) (.cons rfl rfl (.cons rfl rfl (.cons rfl rfl (.cons rfl rfl (.cons rfl rfl (.cons rfl rfl (.cons rfl rfl .nil)))))))) (by first | exact fun _ h => h | exact SubC.out | (dsimp only; exact SubC.out)) (ih1 (k + 1, at1, w1) ⟨(by dsimp only; omega), hw, hgd⟩ (by dsimp only; omega))
                    | exact J.weaken (.cons rfl (congrArg (Value.int .i64) (by first | rfl | (dsimp only; omega))) (.cons rfl rfl (.cons rfl rfl (.cons rfl rfl (.cons rfl rfl (.cons rfl rfl (.cons rfl rfl (.cons rfl rfl .nil)))))))) (fun h s => by rw [natsL_set] at s; exact SubC.out h s) (ih1 (k + 1, updN at1 pv.toNat (at1 pv.toNat + 1), w1) ⟨(by dsimp only; omega), hwa, hg2⟩ (by dsimp only; omega))
                    | exact J.weaken (.cons rfl (congrArg (Value.int .i64) (by first | rfl | (dsimp only; omega))) (.cons rfl rfl (.cons rfl rfl (.cons rfl rfl (.cons rfl rfl (.cons rfl rfl (.cons rfl rfl (.cons rfl rfl .nil)))))))) (fun h s => by rw [natsL_set] at s; exact SubC.out h s) (ih1 (k + 1, updN at1 pv.toNat (at1 pv.toNat + 1), updN w1 pv.toNat (at1 pv.toNat + 1)) ⟨(by dsimp only; omega), hwb, hg3⟩ (by dsimp only; omega))
              · try simp only [decide_eq_true_eq, decide_eq_false_iff_not, Bool.not_eq_true', Bool.not_eq_false', Bool.and_eq_true, Bool.or_eq_true, Bool.and_eq_false_iff, Bool.or_eq_false_iff, Option.isNone_some, Option.isSome_some, Option.isNone_none, Option.isSome_none, Int.not_lt, Int.not_le, beq_iff_eq, beq_eq_false_iff_ne, bne_iff_ne, ne_eq, Bool.not_not, Decidable.not_not] at h137
                refine JQ.no rfl rfl rfl ?_
                refine JQ.no rfl rfl rfl ?_
                refine JQ.no rfl rfl rfl ?_
                refine JQ.no rfl rfl rfl ?_
                refine JQ.no rfl rfl rfl ?_
                refine JQ.no rfl rfl rfl ?_
                refine JQ.no rfl rfl rfl ?_
                refine JQ.no rfl rfl rfl ?_
                refine JQ.no rfl rfl rfl ?_
                refine JQ.no rfl rfl rfl ?_
                refine JQ.pur rfl rfl rfl (Pur.pickF rfl rfl) ?_
                refine JQ.nil ?_
                refine J.condF rfl rfl ?_
                refine J.skip rfl ?_
                refine J.inBlock ?_
                refine J.region rfl ?_
                refine JO.pur rfl rfl rfl (Pur.move rfl) ?_
                refine JO.pur rfl rfl rfl (Pur.add rfl rfl (wr64 (by omega))) ?_
                refine JO.pur rfl rfl rfl (Pur.assign rfl) ?_
                refine JO.nil ?_
                first
                  | exact J.weaken (.cons rfl (congrArg (Value.int .i64) (by first | rfl | (dsimp only; omega))) (.cons rfl rfl (.cons rfl rfl (.cons rfl rfl (.cons rfl rfl (.cons rfl rfl (.cons rfl rfl (.cons rfl rfl .nil)))))))) (by first | exact fun _ h => h | exact SubC.out | (dsimp only; exact SubC.out)) (ih1 (k + 1, at1, w1) ⟨(by dsimp only; omega), hw, hgd⟩ (by dsimp only; omega))
                  | exact J.weaken (.cons rfl (congrArg (Value.int .i64) (by first | rfl | (dsimp only; omega))) (.cons rfl rfl (.cons rfl rfl (.cons rfl rfl (.cons rfl rfl (.cons rfl rfl (.cons rfl rfl (.cons rfl rfl .nil)))))))) (fun h s => by rw [natsL_set] at s; exact SubC.out h s) (ih1 (k + 1, updN at1 pv.toNat (at1 pv.toNat + 1), w1) ⟨(by dsimp only; omega), hwa, hg2⟩ (by dsimp only; omega))
                  | exact J.weaken (.cons rfl (congrArg (Value.int .i64) (by first | rfl | (dsimp only; omega))) (.cons rfl rfl (.cons rfl rfl (.cons rfl rfl (.cons rfl rfl (.cons rfl rfl (.cons rfl rfl (.cons rfl rfl .nil)))))))) (fun h s => by rw [natsL_set] at s; exact SubC.out h s) (ih1 (k + 1, updN at1 pv.toNat (at1 pv.toNat + 1), updN w1 pv.toNat (at1 pv.toNat + 1)) ⟨(by dsimp only; omega), hwb, hg3⟩ (by dsimp only; omega))
            · try simp only [decide_eq_true_eq, decide_eq_false_iff_not, Bool.not_eq_true', Bool.not_eq_false', Bool.and_eq_true, Bool.or_eq_true, Bool.and_eq_false_iff, Bool.or_eq_false_iff, Option.isNone_some, Option.isSome_some, Option.isNone_none, Option.isSome_none, Int.not_lt, Int.not_le, beq_iff_eq, beq_eq_false_iff_ne, bne_iff_ne, ne_eq, Bool.not_not, Decidable.not_not] at h131
              refine JQ.no rfl rfl rfl ?_
              refine JQ.no rfl rfl rfl ?_
              refine JQ.no rfl rfl rfl ?_
              refine JQ.no rfl rfl rfl ?_
              refine JQ.pur rfl rfl rfl (Pur.pickF rfl rfl) ?_
              refine JQ.pur rfl rfl rfl (Pur.move rfl) ?_
              refine JQ.no rfl rfl rfl ?_
              refine JQ.no rfl rfl rfl ?_
              refine JQ.no rfl rfl rfl ?_
              refine JQ.no rfl rfl rfl ?_
              refine JQ.no rfl rfl rfl ?_
              refine JQ.no rfl rfl rfl ?_
              refine JQ.no rfl rfl rfl ?_
              refine JQ.no rfl rfl rfl ?_
              refine JQ.no rfl rfl rfl ?_
              refine JQ.no rfl rfl rfl ?_
              refine JQ.pur rfl rfl rfl (Pur.pickF rfl rfl) ?_
              refine JQ.nil ?_
              refine J.condF rfl rfl ?_
              refine J.skip rfl ?_
              refine J.inBlock ?_
              refine J.region rfl ?_
              refine JO.pur rfl rfl rfl (Pur.move rfl) ?_
              refine JO.pur rfl rfl rfl (Pur.add rfl rfl (wr64 (by omega))) ?_
              refine JO.pur rfl rfl rfl (Pur.assign rfl) ?_
              refine JO.nil ?_
              first
                | exact J.weaken (.cons rfl (congrArg (Value.int .i64) (by first | rfl | (dsimp only; omega))) (.cons rfl rfl (.cons rfl rfl (.cons rfl rfl (.cons rfl rfl (.cons rfl rfl (.cons rfl rfl (.cons rfl rfl .nil)))))))) (by first | exact fun _ h => h | exact SubC.out | (dsimp only; exact SubC.out)) (ih1 (k + 1, at1, w1) ⟨(by dsimp only; omega), hw, hgd⟩ (by dsimp only; omega))
                | exact J.weaken (.cons rfl (congrArg (Value.int .i64) (by first | rfl | (dsimp only; omega))) (.cons rfl rfl (.cons rfl rfl (.cons rfl rfl (.cons rfl rfl (.cons rfl rfl (.cons rfl rfl (.cons rfl rfl .nil)))))))) (fun h s => by rw [natsL_set] at s; exact SubC.out h s) (ih1 (k + 1, updN at1 pv.toNat (at1 pv.toNat + 1), w1) ⟨(by dsimp only; omega), hwa, hg2⟩ (by dsimp only; omega))
                | exact J.weaken (.cons rfl (congrArg (Value.int .i64) (by first | rfl | (dsimp only; omega))) (.cons rfl rfl (.cons rfl rfl (.cons rfl rfl (.cons rfl rfl (.cons rfl rfl (.cons rfl rfl (.cons rfl rfl .nil)))))))) (fun h s => by rw [natsL_set] at s; exact SubC.out h s) (ih1 (k + 1, updN at1 pv.toNat (at1 pv.toNat + 1), updN w1 pv.toNat (at1 pv.toNat + 1)) ⟨(by dsimp only; omega), hwb, hg3⟩ (by dsimp only; omega))
          · try simp only [decide_eq_true_eq, decide_eq_false_iff_not, Bool.not_eq_true', Bool.not_eq_false', Bool.and_eq_true, Bool.or_eq_true, Bool.and_eq_false_iff, Bool.or_eq_false_iff, Option.isNone_some, Option.isSome_some, Option.isNone_none, Option.isSome_none, Int.not_lt, Int.not_le, beq_iff_eq, beq_eq_false_iff_ne, bne_iff_ne, ne_eq, Bool.not_not, Decidable.not_not] at h122
            obtain rfl : k = picks.length := by omega
            obtain ⟨at2, hat2⟩ : ∃ at2, at2 = at1 := ⟨_, rfl⟩
            rw [← hat2] at hw hgd ⊢
            refine J.condF rfl rfl ?_
            refine J.exit rfl rfl ?_
            refine J.seq rfl ?_
            refine J.seq rfl ?_
            refine J.region rfl ?_
            refine JO.pur rfl rfl rfl (Pur.move rfl) ?_
            refine JO.pur rfl rfl rfl (Pur.len rfl) ?_
            refine JO.pur rfl rfl rfl (Pur.sub rfl rfl (wr64 (by omega))) ?_
            refine JO.pur rfl rfl rfl (Pur.assign rfl) ?_
            refine JO.nil ?_
            refine J.block rfl ?_
            refine J.loopF (ι := Nat × (Nat → Nat)) (fun q => q.1 ≤ parts.length ∧ (∀ i, i < parts.length → q.2 i ≤ (parts.getD i []).length) ∧ (∀ i, i < q.1 → q.2 i ≤ at2 i) ∧ (∀ i, i < parts.length → q.1 ≤ i → q.2 i = (parts.getD i []).length) ∧ Hf.Good (TW size parts (IM size parts q.2) ((parts.length + 1 : Nat) : Int) q.1 at2 q.2) parts.length) (fun q => [(20, .int .i64 ((q.1 : Int) - 1))]) [(1, _), (7, _), (9, _), (11, _), (13, _), (14, _)] (fun q => FA p (TW size parts (IM size parts q.2) ((parts.length + 1 : Nat) : Int) q.1 at2 q.2) :: sl intE (some ⟨b73, 0, none⟩) parts.length (natsL parts.length at2) :: sl intE (some ⟨b70, 0, none⟩) parts.length (natsL parts.length (opnN parts.length)) :: FA p2 (newF []) :: sl pairE a28 c28 (cutsV size (parts.length : Int)).1 :: L) (fun q => q.1) (parts.length, w1) rfl (.cons rfl rfl (.cons rfl rfl (.cons rfl rfl (.cons rfl rfl (.cons rfl rfl (.cons rfl rfl .nil)))))) (.cons rfl rfl .nil) (by first | exact fun _ h => h | exact SubC.out | (dsimp only; exact SubC.out)) ⟨Nat.le_refl _, fun i hi => by have := hw i hi; dsimp only; omega, fun i hi => (hw i hi).1, fun i hi h => by dsimp only at h; omega, hgd⟩ ?_
            rintro ⟨k, w2⟩ ⟨hk, hwl, hwa2, hwe, hgd2⟩ ih2
            try dsimp only
            dsimp only at hk hwl hwa2 hwe hgd2
            refine J.seq rfl ?_
            refine J.seq rfl ?_
            refine J.region rfl ?_
            refine JO.pur rfl rfl rfl (Pur.move rfl) ?_
            refine JO.pur rfl rfl rfl (Pur.geq rfl rfl) ?_
            refine JO.nil ?_
            refine J.splitB 194 rfl (fun h194 => ?_) (fun h194 => ?_)
            · try simp only [decide_eq_true_eq, decide_eq_false_iff_not, Bool.not_eq_true', Bool.not_eq_false', Bool.and_eq_true, Bool.or_eq_true, Bool.and_eq_false_iff, Bool.or_eq_false_iff, Option.isNone_some, Option.isSome_some, Option.isNone_none, Option.isSome_none, Int.not_lt, Int.not_le, beq_iff_eq, beq_eq_false_iff_ne, bne_iff_ne, ne_eq, Bool.not_not, Decidable.not_not] at h194
              have hnl0 := natsL_len parts.length at2
              have hnl1 := natsL_len parts.length (opnN parts.length)
              obtain ⟨j, rfl⟩ : ∃ j, k = j + 1 := ⟨k - 1, by omega⟩
              have hjp : j < parts.length := by omega
              obtain ⟨hd, hH⟩ : ∃ hd, hs[j]? = some hd := ⟨_, List.getElem?_eq_getElem (by omega)⟩
              have hC := getD_part hjp
              have hdn := hdr_n hnn hH hC
              have hyl : (parts.getD j []).length ≤ 9223372036854775807 := hpl _ (List.mem_of_getElem? hC)
              have hatg : (natsL parts.length at2)[j]? = some ((at2 j : Nat) : Int) := natsL_get hjp
              have hopg : (natsL parts.length (opnN parts.length))[j]? = some ((j + 1 : Nat) : Int) := by rw [natsL_get hjp, opnN_at hjp]
              have haj := (hw j hjp).2
              refine J.fact (fun h s => RowsR.fit (E := byE) (hs := hs) (xss := parts) s hH hC) fun hfit => ?_
              have hw1 := tw2_write hok (B := IM size parts w2) (nx := ((parts.length + 1 : Nat) : Int)) (m := j + 1) (a := at2) (w := w2) (i := j) (b := (parts.getD j []).length) (by omega) (hwa2 j (by omega)) haj (Nat.le_refl _) (hft _ hjp)
              rw [List.take_of_length_le (show ((parts.getD j []).drop (at2 j)).length ≤ (parts.getD j []).length - at2 j by rw [List.length_drop]; omega)] at hw1
              have hg2 := good_write hgd2 ((j + 1 : Nat) : Int) ((parts.getD j []).drop (at2 j))
              rw [hw1] at hg2
              have hw2 := tw2_close hok hft (nx := ((parts.length + 1 : Nat) : Int)) (m := j) (a := updN at2 j (parts.getD j []).length) (w := w2) hwl hjp (by rw [updN_at]; exact hwl j hjp) (by rw [updN_at]; exact Nat.le_refl _)
              have hcg2 := TW_congr (size := size) (parts := parts) (B := IM size parts (updN w2 j (parts.getD j []).length)) (nx := ((parts.length + 1 : Nat) : Int)) (m := j) (a := updN at2 j (parts.getD j []).length) (w := w2) (a' := at2) (w' := updN w2 j (parts.getD j []).length) (fun i hi => updN_ne (by omega)) (fun i hi => (updN_ne (by omega)).symm)
              rw [updN_at, hcg2] at hw2
              have hg4 := good_close hg2 ((j + 1 : Nat) : Int)
              rw [hw2] at hg4
              have hwl2 : ∀ i, i < parts.length → updN w2 j (parts.getD j []).length i ≤ (parts.getD i []).length := fun i hi => by
                by_cases e : i = j
                · subst e; rw [updN_at]; omega
                · rw [updN_ne e]; exact hwl i hi
              have hwa3 : ∀ i, i < j → updN w2 j (parts.getD j []).length i ≤ at2 i := fun i hi => by rw [updN_ne (by omega)]; exact hwa2 i (by omega)
              have hwe2 : ∀ i, i < parts.length → j ≤ i → updN w2 j (parts.getD j []).length i = (parts.getD i []).length := fun i hi h => by
                by_cases e : i = j
                · subst e; rw [updN_at]
                · rw [updN_ne e]; exact hwe i hi (by omega)
              refine J.condT rfl rfl ?_
              refine J.skip rfl ?_
              refine J.seq rfl ?_
              refine J.block rfl ?_
              refine J.seq rfl ?_
              refine J.mask1 (n := 25) [] rfl Try.mixed rfl (by kernel_rfl) ?_
              refine JM.take 0 (fun _ h => h.tail) rfl (by kernel_rfl) rfl rfl rfl (m' := 1) rfl (Pur.move rfl) ?_
              refine JM.take 1 (fun _ h => h.tail) rfl (by kernel_rfl) rfl rfl rfl (m' := 3) rfl (Pur.move rfl) ?_
              refine JM.take 2 (fun _ h => h.tail) rfl (by kernel_rfl) rfl rfl rfl (m' := 7) rfl (Pur.move rfl) ?_
              refine JM.take 3 (fun _ h => h.tail) rfl (by kernel_rfl) rfl rfl rfl (m' := 15) rfl (Pur.idx rfl rfl rfl (by first | rfl | (simp; done) | omega) (show ((j + 1 : Nat) : Int) - 1 = (j : Int) by omega) (by rw [natsL_len]; omega)) ?_
              refine JM.take 4 (fun _ h => h.tail) rfl (by kernel_rfl) rfl rfl rfl (m' := 31) rfl (Pur.load rfl (CellIn.el0 rfl hopg rfl)) ?_
              refine JM.take 5 (fun _ h => h.tail) rfl (by kernel_rfl) rfl rfl rfl (m' := 63) rfl (Pur.move rfl) ?_
              refine JM.take 6 (fun _ h => h.tail) rfl (by kernel_rfl) rfl rfl rfl (m' := 127) rfl (Pur.move rfl) ?_
              refine JM.take 7 (fun _ h => h.tail) rfl (by kernel_rfl) rfl rfl rfl (m' := 255) rfl (Pur.idx rfl rfl rfl (by first | rfl | (simp; done) | omega) (show ((j + 1 : Nat) : Int) - 1 = (j : Int) by omega) (by omega)) ?_
              refine JM.take 8 (fun _ h => h.tail) rfl (by kernel_rfl) rfl rfl rfl (m' := 511) rfl (Pur.load rfl (CellIn.el0 rfl hH rfl)) ?_
              refine JM.take 9 (fun _ h => h.tail) rfl (by kernel_rfl) rfl rfl rfl (m' := 1023) rfl (Pur.move rfl) ?_
              refine JM.take 10 (fun _ h => h.tail) rfl (by kernel_rfl) rfl rfl rfl (m' := 2047) rfl (Pur.move rfl) ?_
              refine JM.take 11 (fun _ h => h.tail) rfl (by kernel_rfl) rfl rfl rfl (m' := 4095) rfl (Pur.idx rfl rfl rfl (by first | rfl | (simp; done) | omega) (show ((j + 1 : Nat) : Int) - 1 = (j : Int) by omega) (by rw [natsL_len]; omega)) ?_
              refine JM.take 12 (fun _ h => h.tail) rfl (by kernel_rfl) rfl rfl rfl (m' := 8191) rfl (Pur.load rfl (CellIn.el0 rfl hatg rfl)) ?_
              refine JM.take 13 (fun _ h => h.tail) rfl (by kernel_rfl) rfl rfl rfl (m' := 16383) rfl (Pur.slice1 rfl rfl rfl (by omega) (by omega)) ?_
              refine JM.one (i := 14) (by kernel_rfl) ?_
              refine JMi.eff rfl rfl rfl rfl (m' := 32767) rfl (Eff.call rfl (@Write_ok _ _ _ _ _ _ _ ((parts.getD j []).drop (at2 j)) (SlIn.dropN (cap := hd.cap) (RowsR.row (E := byE) inferInstance hH hC) rfl (at2 j) (by omega)) (by rw [List.length_drop]; omega) (by rw [List.length_drop]; omega) (fun e => by have := hfit.1 (tail_none e); omega) parts.length hgd2 (by omega))) ?_
              rintro _ _ ⟨rfl, rfl⟩
              refine ⟨.inr (fun _ h => h.tail), ?_⟩
              rw [hw1]
              refine JM.take 15 (fun _ h => h.tail) rfl (by kernel_rfl) rfl rfl rfl (m' := 65535) rfl (Pur.neqI rfl rfl) ?_
              refine JM.setv (u' := .bool false) 212 rfl (congrArg Value.bool (rfl)) ?_
              refine JM.take 16 (fun _ h => h.tail) rfl (by kernel_rfl) rfl rfl rfl (m' := 131071) rfl (Pur.move rfl) ?_
              refine JM.take 17 (fun _ h => h.tail) rfl (by kernel_rfl) rfl rfl rfl (m' := 262143) rfl (Pur.move rfl) ?_
              refine JM.take 18 (fun _ h => h.tail) rfl (by kernel_rfl) rfl rfl rfl (m' := 524287) rfl (Pur.move rfl) ?_
              refine JM.take 19 (fun _ h => h.tail) rfl (by kernel_rfl) rfl rfl rfl (m' := 1048575) rfl (Pur.move rfl) ?_
              refine JM.take 20 (fun _ h => h.tail) rfl (by kernel_rfl) rfl rfl rfl (m' := 2097151) rfl (Pur.idx rfl rfl rfl (by first | rfl | (simp; done) | omega) (show ((j + 1 : Nat) : Int) - 1 = (j : Int) by omega) (by rw [natsL_len]; omega)) ?_
              refine JM.take 21 (fun _ h => h.tail) rfl (by kernel_rfl) rfl rfl rfl (m' := 4194303) rfl (Pur.load rfl (CellIn.el0 rfl hopg rfl)) ?_
              refine JM.one (i := 22) (by kernel_rfl) ?_
              refine JMi.eff rfl rfl rfl rfl (m' := 8388607) rfl (Eff.call rfl (Close_ok (n := ((j + 1 : Nat) : Int)) hg2 (by omega))) ?_
              rintro _ _ ⟨rfl, rfl⟩
              refine ⟨.inr (fun _ h => h.tail), ?_⟩
              rw [hw2]
              refine JM.take 23 (fun _ h => h.tail) rfl (by kernel_rfl) rfl rfl rfl (m' := 16777215) rfl (Pur.neqI rfl rfl) ?_
              refine JM.setv (u' := .bool false) 220 rfl (congrArg Value.bool (rfl)) ?_
              refine JM.take 24 (fun _ h => h.tail) rfl (by kernel_rfl) rfl rfl rfl (m' := 33554431) rfl (Pur.pickF rfl rfl) ?_
              refine JM.done rfl ?_
              refine J.condF rfl rfl ?_
              refine J.skip rfl ?_
              refine J.inBlock ?_
              refine J.region rfl ?_
              refine JO.pur rfl rfl rfl (Pur.move rfl) ?_
              refine JO.pur rfl rfl rfl (Pur.sub rfl rfl (wr64 (by omega))) ?_
              refine JO.pur rfl rfl rfl (Pur.assign rfl) ?_
              refine JO.nil ?_
              exact J.weaken (.cons rfl (congrArg (Value.int .i64) (by dsimp only; omega)) (.cons rfl rfl (.cons rfl rfl (.cons rfl rfl (.cons rfl rfl (.cons rfl rfl (.cons rfl rfl .nil))))))) (by first | exact fun _ h => h | exact SubC.out | (dsimp only; exact SubC.out)) (ih2 (j, updN w2 j (parts.getD j []).length) ⟨(by dsimp only; omega), hwl2, hwa3, hwe2, hg4⟩ (by dsimp only; omega))
            · try simp only [decide_eq_true_eq, decide_eq_false_iff_not, Bool.not_eq_true', Bool.not_eq_false', Bool.and_eq_true, Bool.or_eq_true, Bool.and_eq_false_iff, Bool.or_eq_false_iff, Option.isNone_some, Option.isSome_some, Option.isNone_none, Option.isSome_none, Int.not_lt, Int.not_le, beq_iff_eq, beq_eq_false_iff_ne, bne_iff_ne, ne_eq, Bool.not_not, Decidable.not_not] at h194
              obtain rfl : k = 0 := by omega
              refine J.condF rfl rfl ?_
              refine J.exit rfl rfl ?_
              refine J.seq rfl ?_
              refine J.seq rfl ?_
              refine J.region rfl ?_
              refine JO.pur rfl rfl rfl (Pur.assign rfl) ?_
              refine JO.nil ?_
              refine J.block rfl ?_
              refine J.loopF (ι := Nat) (fun q => q ≤ parts.length ∧ Hf.Good (Fl.mk (IM size parts (whN parts q)) ((q + 1 : Nat) : Int) []) q) (fun q => [(21, .int .i64 (q : Int))]) [(1, _), (7, _), (9, _), (11, _)] (fun q => FA p2 (Fl.mk (IM size parts (whN parts q)) ((q + 1 : Nat) : Int) []) :: FA p (TW size parts (IM size parts w2) ((parts.length + 1 : Nat) : Int) 0 at2 w2) :: sl pairE a28 c28 (cutsV size (parts.length : Int)).1 :: L) (fun q => parts.length - q) 0 rfl (.cons rfl rfl (.cons rfl rfl (.cons rfl rfl (.cons rfl rfl .nil)))) (.cons rfl rfl .nil) (fun h s => by rw [whN_zero, IM_zero]; show Sat h (FA p2 (newF []) :: FA p (TW size parts (IM size parts w2) ((parts.length + 1 : Nat) : Int) 0 at2 w2) :: sl pairE a28 c28 (cutsV size (parts.length : Int)).1 :: L); exact SubC.out h s) ⟨Nat.zero_le _, by rw [whN_zero, IM_zero]; exact good_new (bs := []) (by decide)⟩ ?_
              rintro k ⟨hk, hgh⟩ ih3
              try dsimp only
              refine J.seq rfl ?_
              refine J.seq rfl ?_
              refine J.region rfl ?_
              refine JO.pur rfl rfl rfl (Pur.move rfl) ?_
              refine JO.pur rfl rfl rfl (Pur.move rfl) ?_
              refine JO.pur rfl rfl rfl (Pur.len rfl) ?_
              refine JO.pur rfl rfl rfl (Pur.lss rfl rfl) ?_
              refine JO.nil ?_
              refine J.splitB 225 rfl (fun h225 => ?_) (fun h225 => ?_)
              · try simp only [decide_eq_true_eq, decide_eq_false_iff_not, Bool.not_eq_true', Bool.not_eq_false', Bool.and_eq_true, Bool.or_eq_true, Bool.and_eq_false_iff, Bool.or_eq_false_iff, Option.isNone_some, Option.isSome_some, Option.isNone_none, Option.isSome_none, Int.not_lt, Int.not_le, beq_iff_eq, beq_eq_false_iff_ne, bne_iff_ne, ne_eq, Bool.not_not, Decidable.not_not] at h225
                have hkp : k < parts.length := by omega
                obtain ⟨hd, hH⟩ : ∃ hd, hs[k]? = some hd := ⟨_, List.getElem?_eq_getElem (by omega)⟩
                have hC := getD_part hkp
                have hdn := hdr_n hnn hH hC
                have hcg := cut_get hok (k := k) (by omega)
                have hc1 := cut_nonneg hok (k := k) (by omega)
                have hc2 := cut_nonneg hok (k := k + 1) (by omega)
                have hcm := cut_mono hok (k := k) (by omega)
                have hyl : (parts.getD k []).length ≤ 9223372036854775807 := hpl _ (List.mem_of_getElem? hC)
                refine J.fact (fun h s => RowsR.fit (E := byE) (hs := hs) (xss := parts) s hH hC) fun hfit => ?_
                have hg3 := good_begin hgh (cutA size parts.length k) (cutA size parts.length (k + 1)) true
                rw [one_begin hok hkp] at hg3
                have hw1 := one_write hok (B := IM size parts (whN parts k)) (nx := ((k + 1 + 1 : Nat) : Int)) (hft k hkp)
                have hg4 := good_write hg3 ((k + 1 : Nat) : Int) (parts.getD k [])
                rw [hw1] at hg4
                have hw2 := one_close hok hft (nx := ((k + 1 + 1 : Nat) : Int)) (w := whN parts k) (fun i _ => whN_le parts k i) hkp (whN_at parts k)
                rw [whN_step] at hw2
                have hg5 := good_close hg4 ((k + 1 : Nat) : Int)
                rw [hw2] at hg5
                refine J.condT rfl rfl ?_
                refine J.skip rfl ?_
                refine J.seq rfl ?_
                refine J.block rfl ?_
                refine J.seq rfl ?_
                refine J.mask1 (n := 17) [] rfl Try.mixed rfl (by kernel_rfl) ?_
                refine JM.take 0 (fun _ h => h.tail) rfl (by kernel_rfl) rfl rfl rfl (m' := 1) rfl (Pur.move rfl) ?_
                refine JM.take 1 (fun _ h => h.tail) rfl (by kernel_rfl) rfl rfl rfl (m' := 3) rfl (Pur.move rfl) ?_
                refine JM.take 2 (fun _ h => h.tail) rfl (by kernel_rfl) rfl rfl rfl (m' := 7) rfl (Pur.move rfl) ?_
                refine JM.take 3 (fun _ h => h.tail) rfl (by kernel_rfl) rfl rfl rfl (m' := 15) rfl (Pur.idx rfl rfl rfl (by first | rfl | (simp; done) | omega) rfl (by rw [hcl]; omega)) ?_
                refine JM.take 4 (fun _ h => h.tail) rfl (by kernel_rfl) rfl rfl rfl (m' := 31) rfl (Pur.idxA (k := 0) rfl rfl rfl (by decide)) ?_
                refine JM.take 5 (fun _ h => h.tail) rfl (by kernel_rfl) rfl rfl rfl (m' := 63) rfl (Pur.load rfl (CellIn.el rfl hcg rfl)) ?_
                refine JM.setv (u' := .int .i64 (cutA size (parts.length : Int) k)) 234 rfl rfl ?_
                refine JM.take 6 (fun _ h => h.tail) rfl (by kernel_rfl) rfl rfl rfl (m' := 127) rfl (Pur.move rfl) ?_
                refine JM.take 7 (fun _ h => h.tail) rfl (by kernel_rfl) rfl rfl rfl (m' := 255) rfl (Pur.move rfl) ?_
                refine JM.take 8 (fun _ h => h.tail) rfl (by kernel_rfl) rfl rfl rfl (m' := 511) rfl (Pur.idx rfl rfl rfl (by first | rfl | (simp; done) | omega) rfl (by rw [hcl]; omega)) ?_
                refine JM.take 9 (fun _ h => h.tail) rfl (by kernel_rfl) rfl rfl rfl (m' := 1023) rfl (Pur.idxA (k := 1) rfl rfl rfl (by decide)) ?_
                refine JM.take 10 (fun _ h => h.tail) rfl (by kernel_rfl) rfl rfl rfl (m' := 2047) rfl (Pur.load rfl (CellIn.el rfl hcg rfl)) ?_
                refine JM.setv (u' := .int .i64 (cutA size (parts.length : Int) (k + 1))) 239 rfl rfl ?_
                refine JM.one (i := 11) (by kernel_rfl) ?_
                refine JMi.eff rfl rfl rfl rfl (m' := 4095) rfl (Eff.call rfl (Writer_ok hgh (by omega))) ?_
                rintro _ _ ⟨rfl, rfl⟩
                refine ⟨.inr (fun _ h => h.tail), ?_⟩
                rw [one_begin hok hkp]
                refine JM.take 12 (fun _ h => h.tail) rfl (by kernel_rfl) rfl rfl rfl (m' := 8191) rfl (Pur.move rfl) ?_
                refine JM.take 13 (fun _ h => h.tail) rfl (by kernel_rfl) rfl rfl rfl (m' := 16383) rfl (Pur.extract rfl rfl) ?_
                refine JM.take 14 (fun _ h => h.tail) rfl (by kernel_rfl) rfl rfl rfl (m' := 32767) rfl (Pur.extract rfl rfl) ?_
                refine JM.take 15 (fun _ h => h.tail) rfl (by kernel_rfl) rfl rfl rfl (m' := 65535) rfl (Pur.assign rfl) ?_
                refine JM.take 16 (fun _ h => h.tail) rfl (by kernel_rfl) rfl rfl rfl (m' := 131071) rfl (Pur.assign rfl) ?_
                refine JM.done rfl ?_
                refine J.seq rfl ?_
                refine J.region rfl ?_
                refine JO.pur rfl rfl rfl (Pur.move rfl) ?_
                refine JO.pur rfl rfl rfl (Pur.neqI rfl rfl) ?_
                refine JO.setv (u' := .bool false) 244 rfl (congrArg Value.bool (rfl)) ?_
                refine JO.pur rfl rfl rfl (Pur.move rfl) ?_
                refine JO.pur rfl rfl rfl (Pur.move rfl) ?_
                refine JO.pur rfl rfl rfl (Pur.move rfl) ?_
                refine JO.setv (u' := .int .i64 ((k + 1 : Nat) : Int)) 247 rfl rfl ?_
                refine JO.pur rfl rfl rfl (Pur.move rfl) ?_
                refine JO.pur rfl rfl rfl (Pur.move rfl) ?_
                refine JO.pur rfl rfl rfl (Pur.idx rfl rfl rfl (by first | rfl | (simp; done) | omega) rfl (by omega)) ?_
                refine JO.pur rfl rfl rfl (Pur.load rfl (CellIn.el0 rfl hH rfl)) ?_
                refine JO.eff rfl rfl rfl (Eff.call rfl (@Write_ok _ _ _ _ _ _ _ (parts.getD k []) (RowsR.row (E := byE) inferInstance hH hC) hdn hyl hfit.1 (k + 1) hg3 (by omega))) ?_
                rintro _ _ ⟨rfl, rfl⟩
                rw [hw1]
                refine JO.pur rfl rfl rfl (Pur.neqI rfl rfl) ?_
                refine JO.setv (u' := .bool false) 253 rfl (congrArg Value.bool (rfl)) ?_
                refine JO.pur rfl rfl rfl (Pur.pickF rfl rfl) ?_
                refine JO.pur rfl rfl rfl (Pur.move rfl) ?_
                refine JO.pur rfl rfl rfl (Pur.move rfl) ?_
                refine JO.pur rfl rfl rfl (Pur.move rfl) ?_
                refine JO.setv (u' := .int .i64 ((k + 1 : Nat) : Int)) 257 rfl rfl ?_
                refine JO.eff rfl rfl rfl (Eff.call rfl (Close_ok (n := ((k + 1 : Nat) : Int)) hg4 (by omega))) ?_
                rintro _ _ ⟨rfl, rfl⟩
                rw [hw2]
                refine JO.pur rfl rfl rfl (Pur.neqI rfl rfl) ?_
                refine JO.setv (u' := .bool false) 259 rfl (congrArg Value.bool (rfl)) ?_
                refine JO.pur rfl rfl rfl (Pur.pickF rfl rfl) ?_
                refine JO.nil ?_
                refine J.condF rfl rfl ?_
                refine J.skip rfl ?_
                refine J.inBlock ?_
                refine J.region rfl ?_
                refine JO.pur rfl rfl rfl (Pur.move rfl) ?_
                refine JO.pur rfl rfl rfl (Pur.add rfl rfl (wr64 (by omega))) ?_
                refine JO.pur rfl rfl rfl (Pur.assign rfl) ?_
                refine JO.nil ?_
                exact J.weaken (.cons rfl (congrArg (Value.int .i64) (by first | rfl | (dsimp only; omega))) (.cons rfl rfl (.cons rfl rfl (.cons rfl rfl (.cons rfl rfl .nil))))) (by first | exact fun _ h => h | exact SubC.out | (dsimp only; exact SubC.out)) (ih3 (k + 1) ⟨by omega, hg5⟩ (by omega))
              · try simp only [decide_eq_true_eq, decide_eq_false_iff_not, Bool.not_eq_true', Bool.not_eq_false', Bool.and_eq_true, Bool.or_eq_true, Bool.and_eq_false_iff, Bool.or_eq_false_iff, Option.isNone_some, Option.isSome_some, Option.isNone_none, Option.isSome_none, Int.not_lt, Int.not_le, beq_iff_eq, beq_eq_false_iff_ne, bne_iff_ne, ne_eq, Bool.not_not, Decidable.not_not] at h225
                obtain rfl : k = parts.length := by omega
                have hIM : IM size parts w2 = IM size parts (whN parts parts.length) := IM_congr (fun i hi => by rw [hwe i hi (Nat.zero_le _)]; unfold whN; rw [if_pos hi])
                refine J.condF rfl rfl ?_
                refine J.exit rfl rfl ?_
                refine J.seq rfl ?_
                refine J.imp (M := FA p (TW size parts (IM size parts w2) ((parts.length + 1 : Nat) : Int) 0 at2 w2) :: FA p2 (Fl.mk (IM size parts (whN parts parts.length)) ((parts.length + 1 : Nat) : Int) []) :: L) (fun h s => SubC.out h s) ?_
                refine J.mask2 (n := 17) [] rfl Try.mixed rfl (by kernel_rfl) ?_
                refine JM.take 0 (fun _ h => h.tail.tail) rfl (by kernel_rfl) rfl rfl rfl (m' := 1) rfl (Pur.move rfl) ?_
                refine JM.take 3 (fun _ h => h.tail.tail) rfl (by kernel_rfl) rfl rfl rfl (m' := 9) rfl (Pur.move rfl) ?_
                refine JM.one (i := 1) (by kernel_rfl) ?_
                refine JMi.eff rfl rfl rfl rfl (m' := 11) rfl (Eff.call rfl (Bytes_ok (F := (TW size parts (IM size parts w2) ((parts.length + 1 : Nat) : Int) 0 at2 w2)) (IM_len hok hft hwl))) ?_
                rintro _ _ ⟨a262, c262, rfl, rfl⟩
                refine ⟨.inr (fun _ h => h.tail.tail.tail), ?_⟩
                refine JM.imp (M := FA p2 (Fl.mk (IM size parts (whN parts parts.length)) ((parts.length + 1 : Nat) : Int) []) :: sl byE a262 c262 (TW size parts (IM size parts w2) ((parts.length + 1 : Nat) : Int) 0 at2 w2).bytes :: FA p (TW size parts (IM size parts w2) ((parts.length + 1 : Nat) : Int) 0 at2 w2) :: L) (fun h s => SubC.out h s) ?_
                refine JM.many (rs := [2, 4]) (by kernel_rfl) rfl (fun i hi => ?_)
                simp only [List.mem_cons, List.not_mem_nil, or_false] at hi
                rcases hi with rfl | rfl
                · skip
                  refine JMi.eff rfl rfl rfl rfl (m' := 15) rfl (Pur.eff (Pur.convBS (E := byE) (e := 5) (by kernel_rfl) (by kernel_rfl) (by kernel_rfl) rfl rfl rfl (fun _ => rfl))) ?_
                  rintro _ _ ⟨rfl, rfl⟩
                  refine ⟨.inr (fun _ h => h.tail.tail.tail), ?_⟩
                  refine JM.one (i := 4) (by kernel_rfl) ?_
                  refine JMi.eff rfl rfl rfl rfl (m' := 31) rfl (Eff.call rfl (Bytes_ok (F := (Fl.mk (IM size parts (whN parts parts.length)) ((parts.length + 1 : Nat) : Int) [])) (IM_len hok hft (fun i _ => whN_le parts parts.length i)))) ?_
                  rintro _ _ ⟨a265, c265, rfl, rfl⟩
                  refine ⟨.inr (fun _ h => h.tail.tail.tail.tail), ?_⟩
                  refine JM.imp (M := FA p (TW size parts (IM size parts w2) ((parts.length + 1 : Nat) : Int) 0 at2 w2) :: sl byE a265 c265 (Fl.mk (IM size parts (whN parts parts.length)) ((parts.length + 1 : Nat) : Int) []).bytes :: sl byE a262 c262 (TW size parts (IM size parts w2) ((parts.length + 1 : Nat) : Int) 0 at2 w2).bytes :: FA p2 (Fl.mk (IM size parts (whN parts parts.length)) ((parts.length + 1 : Nat) : Int) []) :: L) (fun h s => SubC.out h s) ?_
                  refine JM.one (i := 5) (by kernel_rfl) ?_
                  refine JMi.eff rfl rfl rfl rfl (m' := 63) rfl (Pur.eff (Pur.convBS (E := byE) (e := 5) (by kernel_rfl) (by kernel_rfl) (by kernel_rfl) rfl rfl rfl (fun _ => rfl))) ?_
                  rintro _ _ ⟨rfl, rfl⟩
                  refine ⟨.inr (fun _ h => h.tail.tail.tail.tail), ?_⟩
                  refine JM.take 6 (fun _ h => h.tail.tail.tail.tail) rfl (by kernel_rfl) rfl rfl rfl (m' := 127) rfl (Pur.eqlT rfl rfl) ?_
                  refine JM.setv (u' := .bool true) 267 rfl (congrArg Value.bool (decide_eq_true (congrArg strB hIM))) ?_
                  refine JM.take 7 (fun _ h => h.tail.tail.tail.tail) rfl (by kernel_rfl) rfl rfl rfl (m' := 255) rfl (Pur.move rfl) ?_
                  refine JM.take 8 (fun _ h => h.tail.tail.tail.tail) rfl (by kernel_rfl) rfl rfl rfl (m' := 511) rfl (Pur.move rfl) ?_
                  refine JM.one (i := 9) (by kernel_rfl) ?_
                  refine JMi.eff rfl rfl rfl rfl (m' := 1023) rfl (Eff.call rfl (Open_ok (ns := []) hgd2 (by omega) (List.Perm.refl _) List.Pairwise.nil)) ?_
                  rintro _ _ ⟨a270, c270, rfl, rfl⟩
                  refine ⟨.inr (fun _ h => h.tail.tail.tail.tail.tail), ?_⟩
                  refine JM.take 10 (fun _ h => h.tail.tail.tail.tail.tail) rfl (by kernel_rfl) rfl rfl rfl (m' := 2047) rfl (Pur.len rfl) ?_
                  refine JM.take 11 (fun _ h => h.tail.tail.tail.tail.tail) rfl (by kernel_rfl) rfl rfl rfl (m' := 4095) rfl (Pur.eqlI rfl rfl) ?_
                  refine JM.setv (u' := .bool true) 272 rfl (congrArg Value.bool (rfl)) ?_
                  refine JM.take 12 (fun _ h => h.tail.tail.tail.tail.tail) rfl (by kernel_rfl) rfl rfl rfl (m' := 8191) rfl (Pur.pickT rfl rfl) ?_
                  refine JM.take 13 (fun _ h => h.tail.tail.tail.tail.tail) rfl (by kernel_rfl) rfl rfl rfl (m' := 16383) rfl (Pur.move rfl) ?_
                  refine JM.one (i := 14) (by kernel_rfl) ?_
                  refine JMi.effR (fun _ h => h.tail.tail.tail.tail.tail) rfl rfl rfl rfl (m' := 32767) rfl (Eff.call rfl (first_ok)) ?_
                  refine JM.setv (u' := .bool true) 275 rfl (congrArg Value.bool (rfl)) ?_
                  refine JM.take 15 (fun _ h => h.tail.tail.tail.tail.tail) rfl (by kernel_rfl) rfl rfl rfl (m' := 65535) rfl (Pur.pickT rfl rfl) ?_
                  refine JM.take 16 (fun _ h => h.tail.tail.tail.tail.tail) rfl (by kernel_rfl) rfl rfl rfl (m' := 131071) rfl (Pur.assign rfl) ?_
                  refine JM.done rfl ?_
                  refine J.ret rfl rfl ?_
                  exact ⟨_, _, ⟨rfl, rfl⟩, rfl, SubC.out⟩
                · skip
                  refine JMi.eff rfl rfl rfl rfl (m' := 27) rfl (Eff.call rfl (Bytes_ok (F := (Fl.mk (IM size parts (whN parts parts.length)) ((parts.length + 1 : Nat) : Int) [])) (IM_len hok hft (fun i _ => whN_le parts parts.length i)))) ?_
                  rintro _ _ ⟨a265, c265, rfl, rfl⟩
                  refine ⟨.inr (fun _ h => h.tail.tail.tail.tail), ?_⟩
                  refine JM.imp (M := FA p (TW size parts (IM size parts w2) ((parts.length + 1 : Nat) : Int) 0 at2 w2) :: sl byE a265 c265 (Fl.mk (IM size parts (whN parts parts.length)) ((parts.length + 1 : Nat) : Int) []).bytes :: sl byE a262 c262 (TW size parts (IM size parts w2) ((parts.length + 1 : Nat) : Int) 0 at2 w2).bytes :: FA p2 (Fl.mk (IM size parts (whN parts parts.length)) ((parts.length + 1 : Nat) : Int) []) :: L) (fun h s => SubC.out h s) ?_
                  refine JM.many (rs := [2, 5]) (by kernel_rfl) rfl (fun i hi => ?_)
                  simp only [List.mem_cons, List.not_mem_nil, or_false] at hi
                  rcases hi with rfl | rfl
                  · skip
                    refine JMi.eff rfl rfl rfl rfl (m' := 31) rfl (Pur.eff (Pur.convBS (E := byE) (e := 5) (by kernel_rfl) (by kernel_rfl) (by kernel_rfl) rfl rfl rfl (fun _ => rfl))) ?_
                    rintro _ _ ⟨rfl, rfl⟩
                    refine ⟨.inr (fun _ h => h.tail.tail.tail.tail), ?_⟩
                    refine JM.one (i := 5) (by kernel_rfl) ?_
                    refine JMi.eff rfl rfl rfl rfl (m' := 63) rfl (Pur.eff (Pur.convBS (E := byE) (e := 5) (by kernel_rfl) (by kernel_rfl) (by kernel_rfl) rfl rfl rfl (fun _ => rfl))) ?_
                    rintro _ _ ⟨rfl, rfl⟩
                    refine ⟨.inr (fun _ h => h.tail.tail.tail.tail), ?_⟩
                    refine JM.take 6 (fun _ h => h.tail.tail.tail.tail) rfl (by kernel_rfl) rfl rfl rfl (m' := 127) rfl (Pur.eqlT rfl rfl) ?_
                    refine JM.setv (u' := .bool true) 267 rfl (congrArg Value.bool (decide_eq_true (congrArg strB hIM))) ?_
                    refine JM.take 7 (fun _ h => h.tail.tail.tail.tail) rfl (by kernel_rfl) rfl rfl rfl (m' := 255) rfl (Pur.move rfl) ?_
                    refine JM.take 8 (fun _ h => h.tail.tail.tail.tail) rfl (by kernel_rfl) rfl rfl rfl (m' := 511) rfl (Pur.move rfl) ?_
                    refine JM.one (i := 9) (by kernel_rfl) ?_
                    refine JMi.eff rfl rfl rfl rfl (m' := 1023) rfl (Eff.call rfl (Open_ok (ns := []) hgd2 (by omega) (List.Perm.refl _) List.Pairwise.nil)) ?_
                    rintro _ _ ⟨a270, c270, rfl, rfl⟩
                    refine ⟨.inr (fun _ h => h.tail.tail.tail.tail.tail), ?_⟩
                    refine JM.take 10 (fun _ h => h.tail.tail.tail.tail.tail) rfl (by kernel_rfl) rfl rfl rfl (m' := 2047) rfl (Pur.len rfl) ?_
                    refine JM.take 11 (fun _ h => h.tail.tail.tail.tail.tail) rfl (by kernel_rfl) rfl rfl rfl (m' := 4095) rfl (Pur.eqlI rfl rfl) ?_
                    refine JM.setv (u' := .bool true) 272 rfl (congrArg Value.bool (rfl)) ?_
                    refine JM.take 12 (fun _ h => h.tail.tail.tail.tail.tail) rfl (by kernel_rfl) rfl rfl rfl (m' := 8191) rfl (Pur.pickT rfl rfl) ?_
                    refine JM.take 13 (fun _ h => h.tail.tail.tail.tail.tail) rfl (by kernel_rfl) rfl rfl rfl (m' := 16383) rfl (Pur.move rfl) ?_
                    refine JM.one (i := 14) (by kernel_rfl) ?_
                    refine JMi.effR (fun _ h => h.tail.tail.tail.tail.tail) rfl rfl rfl rfl (m' := 32767) rfl (Eff.call rfl (first_ok)) ?_
                    refine JM.setv (u' := .bool true) 275 rfl (congrArg Value.bool (rfl)) ?_
                    refine JM.take 15 (fun _ h => h.tail.tail.tail.tail.tail) rfl (by kernel_rfl) rfl rfl rfl (m' := 65535) rfl (Pur.pickT rfl rfl) ?_
                    refine JM.take 16 (fun _ h => h.tail.tail.tail.tail.tail) rfl (by kernel_rfl) rfl rfl rfl (m' := 131071) rfl (Pur.assign rfl) ?_
                    refine JM.done rfl ?_
                    refine J.ret rfl rfl ?_
                    exact ⟨_, _, ⟨rfl, rfl⟩, rfl, SubC.out⟩
                  · skip
                    refine JMi.eff rfl rfl rfl rfl (m' := 59) rfl (Pur.eff (Pur.convBS (E := byE) (e := 5) (by kernel_rfl) (by kernel_rfl) (by kernel_rfl) rfl rfl rfl (fun _ => rfl))) ?_
                    rintro _ _ ⟨rfl, rfl⟩
                    refine ⟨.inr (fun _ h => h.tail.tail.tail.tail), ?_⟩
                    refine JM.one (i := 2) (by kernel_rfl) ?_
                    refine JMi.eff rfl rfl rfl rfl (m' := 63) rfl (Pur.eff (Pur.convBS (E := byE) (e := 5) (by kernel_rfl) (by kernel_rfl) (by kernel_rfl) rfl rfl rfl (fun _ => rfl))) ?_
                    rintro _ _ ⟨rfl, rfl⟩
                    refine ⟨.inr (fun _ h => h.tail.tail.tail.tail), ?_⟩
                    refine JM.take 6 (fun _ h => h.tail.tail.tail.tail) rfl (by kernel_rfl) rfl rfl rfl (m' := 127) rfl (Pur.eqlT rfl rfl) ?_
                    refine JM.setv (u' := .bool true) 267 rfl (congrArg Value.bool (decide_eq_true (congrArg strB hIM))) ?_
                    refine JM.take 7 (fun _ h => h.tail.tail.tail.tail) rfl (by kernel_rfl) rfl rfl rfl (m' := 255) rfl (Pur.move rfl) ?_
                    refine JM.take 8 (fun _ h => h.tail.tail.tail.tail) rfl (by kernel_rfl) rfl rfl rfl (m' := 511) rfl (Pur.move rfl) ?_
                    refine JM.one (i := 9) (by kernel_rfl) ?_
                    refine JMi.eff rfl rfl rfl rfl (m' := 1023) rfl (Eff.call rfl (Open_ok (ns := []) hgd2 (by omega) (List.Perm.refl _) List.Pairwise.nil)) ?_
                    rintro _ _ ⟨a270, c270, rfl, rfl⟩
                    refine ⟨.inr (fun _ h => h.tail.tail.tail.tail.tail), ?_⟩
                    refine JM.take 10 (fun _ h => h.tail.tail.tail.tail.tail) rfl (by kernel_rfl) rfl rfl rfl (m' := 2047) rfl (Pur.len rfl) ?_
                    refine JM.take 11 (fun _ h => h.tail.tail.tail.tail.tail) rfl (by kernel_rfl) rfl rfl rfl (m' := 4095) rfl (Pur.eqlI rfl rfl) ?_
                    refine JM.setv (u' := .bool true) 272 rfl (congrArg Value.bool (rfl)) ?_
                    refine JM.take 12 (fun _ h => h.tail.tail.tail.tail.tail) rfl (by kernel_rfl) rfl rfl rfl (m' := 8191) rfl (Pur.pickT rfl rfl) ?_
                    refine JM.take 13 (fun _ h => h.tail.tail.tail.tail.tail) rfl (by kernel_rfl) rfl rfl rfl (m' := 16383) rfl (Pur.move rfl) ?_
                    refine JM.one (i := 14) (by kernel_rfl) ?_
                    refine JMi.effR (fun _ h => h.tail.tail.tail.tail.tail) rfl rfl rfl rfl (m' := 32767) rfl (Eff.call rfl (first_ok)) ?_
                    refine JM.setv (u' := .bool true) 275 rfl (congrArg Value.bool (rfl)) ?_
                    refine JM.take 15 (fun _ h => h.tail.tail.tail.tail.tail) rfl (by kernel_rfl) rfl rfl rfl (m' := 65535) rfl (Pur.pickT rfl rfl) ?_
                    refine JM.take 16 (fun _ h => h.tail.tail.tail.tail.tail) rfl (by kernel_rfl) rfl rfl rfl (m' := 131071) rfl (Pur.assign rfl) ?_
                    refine JM.done rfl ?_
                    refine J.ret rfl rfl ?_
                    exact ⟨_, _, ⟨rfl, rfl⟩, rfl, SubC.out⟩
      · skip
        refine JMi.eff rfl rfl rfl rfl (m' := 59) rfl (Eff.make intE 0 (n := parts.length) rfl rfl rfl rfl rfl (by decide) (by omega) (by omega)) ?_
        rintro _ _ ⟨b73, rfl, rfl⟩
        refine ⟨.inr (fun _ h => h.tail), ?_⟩
        refine JM.one (i := 2) (by kernel_rfl) ?_
        refine JMi.eff rfl rfl rfl rfl (m' := 63) rfl (Eff.make intE 0 (n := parts.length) rfl rfl rfl rfl rfl (by decide) (by omega) (by omega)) ?_
        rintro _ _ ⟨b70, rfl, rfl⟩
        refine ⟨.inr (fun _ h => h.tail.tail), ?_⟩
        refine JM.take 6 (fun _ h => h.tail.tail) rfl (by kernel_rfl) rfl rfl rfl (m' := 127) rfl (Pur.assign rfl) ?_
        refine JM.take 7 (fun _ h => h.tail.tail) rfl (by kernel_rfl) rfl rfl rfl (m' := 255) rfl (Pur.assign rfl) ?_
        refine JM.done rfl ?_
        refine J.seq rfl ?_
        refine J.seq rfl ?_
        refine J.region rfl ?_
        refine JO.pur rfl rfl rfl (Pur.assign rfl) ?_
        refine JO.nil ?_
        refine J.block rfl ?_
        refine J.loopF (ι := Nat) (fun q => q ≤ parts.length ∧ Hf.Good (TW size parts [] ((q + 1 : Nat) : Int) q (fun _ => 0) (fun _ => 0)) q ∧ ∀ i, i < q → fits size parts i) (fun q => [(15, .int .i64 (q : Int))]) [(1, _), (2, _), (7, _), (9, _), (11, _), (13, _), (14, _)] (fun q => FA p (TW size parts [] ((q + 1 : Nat) : Int) q (fun _ => 0) (fun _ => 0)) :: sl intE (some ⟨b70, 0, none⟩) parts.length (natsL parts.length (opnN q)) :: sl intE (some ⟨b73, 0, none⟩) parts.length (natsL parts.length (fun _ => 0)) :: FA p2 (newF []) :: sl pairE a28 c28 (cutsV size (parts.length : Int)).1 :: L) (fun q => parts.length - q) 0 rfl (.cons rfl rfl (.cons rfl rfl (.cons rfl rfl (.cons rfl rfl (.cons rfl rfl (.cons rfl rfl (.cons rfl rfl .nil))))))) (.cons rfl rfl .nil) (fun h s => by rw [opnN_zero, natsL_zero]; show Sat h (FA p (newF []) :: sl intE (some ⟨b70, 0, none⟩) parts.length (List.replicate parts.length 0) :: sl intE (some ⟨b73, 0, none⟩) parts.length (List.replicate parts.length 0) :: FA p2 (newF []) :: sl pairE a28 c28 (cutsV size (parts.length : Int)).1 :: L); exact SubC.out h s) ⟨Nat.zero_le _, good_new (bs := []) (by decide), fun i hi => by omega⟩ ?_
        rintro k ⟨hk, hg, hft0⟩ ih4
        try dsimp only
        refine J.seq rfl ?_
        refine J.seq rfl ?_
        refine J.region rfl ?_
        refine JO.pur rfl rfl rfl (Pur.move rfl) ?_
        refine JO.pur rfl rfl rfl (Pur.move rfl) ?_
        refine JO.pur rfl rfl rfl (Pur.len rfl) ?_
        refine JO.pur rfl rfl rfl (Pur.lss rfl rfl) ?_
        refine JO.nil ?_
        refine J.splitB 77 rfl (fun h77 => ?_) (fun h77 => ?_)
        · try simp only [decide_eq_true_eq, decide_eq_false_iff_not, Bool.not_eq_true', Bool.not_eq_false', Bool.and_eq_true, Bool.or_eq_true, Bool.and_eq_false_iff, Bool.or_eq_false_iff, Option.isNone_some, Option.isSome_some, Option.isNone_none, Option.isSome_none, Int.not_lt, Int.not_le, beq_iff_eq, beq_eq_false_iff_ne, bne_iff_ne, ne_eq, Bool.not_not, Decidable.not_not] at h77
          have hkp : k < parts.length := by omega
          obtain ⟨hd, hH⟩ : ∃ hd, hs[k]? = some hd := ⟨_, List.getElem?_eq_getElem (by omega)⟩
          have hC := getD_part hkp
          have hdn := hdr_n hnn hH hC
          have hcg := cut_get hok (k := k) (by omega)
          have hc1 := cut_nonneg hok (k := k) (by omega)
          have hc2 := cut_nonneg hok (k := k + 1) (by omega)
          have hcm := cut_mono hok (k := k) (by omega)
          have hnl0 := natsL_len parts.length (opnN k)
          have hg2 := good_begin hg (cutA size parts.length k) (cutA size parts.length (k + 1)) true
          rw [tw3_begin hok hkp] at hg2
          refine J.condT rfl rfl ?_
          refine J.skip rfl ?_
          refine J.seq rfl ?_
          refine J.block rfl ?_
          refine J.seq rfl ?_
          refine J.seq rfl ?_
          refine J.quiet rfl Try.mixed (by kernel_rfl) ?_
          refine JQ.pur rfl rfl rfl (Pur.move rfl) ?_
          refine JQ.pur rfl rfl rfl (Pur.move rfl) ?_
          refine JQ.pur rfl rfl rfl (Pur.idx rfl rfl rfl (by first | rfl | (simp; done) | omega) rfl (by omega)) ?_
          refine JQ.pur rfl rfl rfl (Pur.load rfl (CellIn.el0 rfl hH rfl)) ?_
          refine JQ.pur rfl rfl rfl (Pur.len rfl) ?_
          refine JQ.pur rfl rfl rfl (Pur.move rfl) ?_
          refine JQ.pur rfl rfl rfl (Pur.move rfl) ?_
          refine JQ.pur rfl rfl rfl (Pur.idx rfl rfl rfl (by first | rfl | (simp; done) | omega) rfl (by rw [hcl]; omega)) ?_
          refine JQ.pur rfl rfl rfl (Pur.idxA (k := 1) rfl rfl rfl (by decide)) ?_
          refine JQ.pur rfl rfl rfl (Pur.load rfl (CellIn.el rfl hcg rfl)) ?_
          refine JQ.setv (u' := .int .i64 (cutA size (parts.length : Int) (k + 1))) 89 rfl rfl ?_
          refine JQ.pur rfl rfl rfl (Pur.move rfl) ?_
          refine JQ.pur rfl rfl rfl (Pur.move rfl) ?_
          refine JQ.pur rfl rfl rfl (Pur.idx rfl rfl rfl (by first | rfl | (simp; done) | omega) rfl (by rw [hcl]; omega)) ?_
          refine JQ.pur rfl rfl rfl (Pur.idxA (k := 0) rfl rfl rfl (by decide)) ?_
          refine JQ.pur rfl rfl rfl (Pur.load rfl (CellIn.el rfl hcg rfl)) ?_
          refine JQ.setv (u' := .int .i64 (cutA size (parts.length : Int) k)) 94 rfl rfl ?_
          refine JQ.pur rfl rfl rfl (Pur.sub rfl rfl (wr64 (by omega))) ?_
          refine JQ.pur rfl rfl rfl (Pur.gtr rfl rfl) ?_
          refine JQ.nil ?_
          refine J.splitB 96 rfl (fun h96 => ?_) (fun h96 => ?_)
          · try simp only [decide_eq_true_eq, decide_eq_false_iff_not, Bool.not_eq_true', Bool.not_eq_false', Bool.and_eq_true, Bool.or_eq_true, Bool.and_eq_false_iff, Bool.or_eq_false_iff, Option.isNone_some, Option.isSome_some, Option.isNone_none, Option.isSome_none, Int.not_lt, Int.not_le, beq_iff_eq, beq_eq_false_iff_ne, bne_iff_ne, ne_eq, Bool.not_not, Decidable.not_not] at h96
            refine J.condT rfl rfl ?_
            refine J.seq rfl ?_
            refine J.region rfl ?_
            refine JO.effR rfl rfl rfl (Eff.call rfl (first_ok)) ?_
            refine JO.setv (u' := .bool true) 97 rfl (congrArg Value.bool (rfl)) ?_
            refine JO.pur rfl rfl rfl (Pur.assign rfl) ?_
            refine JO.nil ?_
            refine J.ret rfl rfl ?_
            exact ⟨_, _, ⟨rfl, rfl⟩, rfl, SubC.out⟩
          · try simp only [decide_eq_true_eq, decide_eq_false_iff_not, Bool.not_eq_true', Bool.not_eq_false', Bool.and_eq_true, Bool.or_eq_true, Bool.and_eq_false_iff, Bool.or_eq_false_iff, Option.isNone_some, Option.isSome_some, Option.isNone_none, Option.isSome_none, Int.not_lt, Int.not_le, beq_iff_eq, beq_eq_false_iff_ne, bne_iff_ne, ne_eq, Bool.not_not, Decidable.not_not] at h96
            have hfk : fits size parts k := by unfold fits; omega
            have hft1 : ∀ i, i < k + 1 → fits size parts i := fun i hi => by
              rcases Nat.lt_or_ge i k with h | h
              · exact hft0 i h
              · rw [show i = k by omega]; exact hfk
            refine J.condF rfl rfl ?_
            refine J.skip rfl ?_
            refine J.seq rfl ?_
            refine J.mask1 (n := 17) [] rfl Try.mixed rfl (by kernel_rfl) ?_
            refine JM.take 0 (fun _ h => h.tail) rfl (by kernel_rfl) rfl rfl rfl (m' := 1) rfl (Pur.move rfl) ?_
            refine JM.take 1 (fun _ h => h.tail) rfl (by kernel_rfl) rfl rfl rfl (m' := 3) rfl (Pur.move rfl) ?_
            refine JM.take 2 (fun _ h => h.tail) rfl (by kernel_rfl) rfl rfl rfl (m' := 7) rfl (Pur.move rfl) ?_
            refine JM.take 3 (fun _ h => h.tail) rfl (by kernel_rfl) rfl rfl rfl (m' := 15) rfl (Pur.idx rfl rfl rfl (by first | rfl | (simp; done) | omega) rfl (by rw [hcl]; omega)) ?_
            refine JM.take 4 (fun _ h => h.tail) rfl (by kernel_rfl) rfl rfl rfl (m' := 31) rfl (Pur.idxA (k := 0) rfl rfl rfl (by decide)) ?_
            refine JM.take 5 (fun _ h => h.tail) rfl (by kernel_rfl) rfl rfl rfl (m' := 63) rfl (Pur.load rfl (CellIn.el rfl hcg rfl)) ?_
            refine JM.setv (u' := .int .i64 (cutA size (parts.length : Int) k)) 104 rfl rfl ?_
            refine JM.take 6 (fun _ h => h.tail) rfl (by kernel_rfl) rfl rfl rfl (m' := 127) rfl (Pur.move rfl) ?_
            refine JM.take 7 (fun _ h => h.tail) rfl (by kernel_rfl) rfl rfl rfl (m' := 255) rfl (Pur.move rfl) ?_
            refine JM.take 8 (fun _ h => h.tail) rfl (by kernel_rfl) rfl rfl rfl (m' := 511) rfl (Pur.idx rfl rfl rfl (by first | rfl | (simp; done) | omega) rfl (by rw [hcl]; omega)) ?_
            refine JM.take 9 (fun _ h => h.tail) rfl (by kernel_rfl) rfl rfl rfl (m' := 1023) rfl (Pur.idxA (k := 1) rfl rfl rfl (by decide)) ?_
            refine JM.take 10 (fun _ h => h.tail) rfl (by kernel_rfl) rfl rfl rfl (m' := 2047) rfl (Pur.load rfl (CellIn.el rfl hcg rfl)) ?_
            refine JM.setv (u' := .int .i64 (cutA size (parts.length : Int) (k + 1))) 109 rfl rfl ?_
            refine JM.one (i := 11) (by kernel_rfl) ?_
            refine JMi.eff rfl rfl rfl rfl (m' := 4095) rfl (Eff.call rfl (Writer_ok hg (by omega))) ?_
            rintro _ _ ⟨rfl, rfl⟩
            refine ⟨.inr (fun _ h => h.tail), ?_⟩
            rw [tw3_begin hok hkp]
            refine JM.take 12 (fun _ h => h.tail) rfl (by kernel_rfl) rfl rfl rfl (m' := 8191) rfl (Pur.move rfl) ?_
            refine JM.take 13 (fun _ h => h.tail) rfl (by kernel_rfl) rfl rfl rfl (m' := 16383) rfl (Pur.extract rfl rfl) ?_
            refine JM.take 14 (fun _ h => h.tail) rfl (by kernel_rfl) rfl rfl rfl (m' := 32767) rfl (Pur.extract rfl rfl) ?_
            refine JM.take 15 (fun _ h => h.tail) rfl (by kernel_rfl) rfl rfl rfl (m' := 65535) rfl (Pur.assign rfl) ?_
            refine JM.take 16 (fun _ h => h.tail) rfl (by kernel_rfl) rfl rfl rfl (m' := 131071) rfl (Pur.assign rfl) ?_
            refine JM.done rfl ?_
            refine J.seq rfl ?_
            refine J.seq rfl ?_
            refine J.region rfl ?_
            refine JO.pur rfl rfl rfl (Pur.move rfl) ?_
            refine JO.pur rfl rfl rfl (Pur.neqI rfl rfl) ?_
            refine JO.setv (u' := .bool false) 114 rfl (congrArg Value.bool (rfl)) ?_
            refine JO.nil ?_
            refine J.condF rfl rfl ?_
            refine J.skip rfl ?_
            refine J.region rfl ?_
            refine JO.pur rfl rfl rfl (Pur.move rfl) ?_
            refine JO.pur rfl rfl rfl (Pur.move rfl) ?_
            refine JO.pur rfl rfl rfl (Pur.move rfl) ?_
            refine JO.pur rfl rfl rfl (Pur.idx rfl rfl rfl (by first | rfl | (simp; done) | omega) rfl (by rw [natsL_len]; omega)) ?_
            refine JO.effN rfl rfl (Eff.storeS0 (z' := ((k + 1 : Nat) : Int)) rfl rfl rfl rfl (natsL_get hkp) .head) ?_
            rintro _ _ ⟨rfl, rfl⟩
            refine JO.nil ?_
            refine J.inBlock ?_
            refine J.region rfl ?_
            refine JO.pur rfl rfl rfl (Pur.move rfl) ?_
            refine JO.pur rfl rfl rfl (Pur.add rfl rfl (wr64 (by omega))) ?_
            refine JO.pur rfl rfl rfl (Pur.assign rfl) ?_
            refine JO.nil ?_
            exact J.weaken (.cons rfl (congrArg (Value.int .i64) (by first | rfl | (dsimp only; omega))) (.cons rfl rfl (.cons rfl rfl (.cons rfl rfl (.cons rfl rfl (.cons rfl rfl (.cons rfl rfl (.cons rfl rfl .nil)))))))) (fun h s => by rw [natsL_set, opnN_step] at s; exact SubC.out h s) (ih4 (k + 1) ⟨by omega, hg2, hft1⟩ (by omega))
        · try simp only [decide_eq_true_eq, decide_eq_false_iff_not, Bool.not_eq_true', Bool.not_eq_false', Bool.and_eq_true, Bool.or_eq_true, Bool.and_eq_false_iff, Bool.or_eq_false_iff, Option.isNone_some, Option.isSome_some, Option.isNone_none, Option.isSome_none, Int.not_lt, Int.not_le, beq_iff_eq, beq_eq_false_iff_ne, bne_iff_ne, ne_eq, Bool.not_not, Decidable.not_not] at h77
          obtain rfl : k = parts.length := by omega
          have hft : ∀ i, i < parts.length → fits size parts i := hft0
          refine J.condF rfl rfl ?_
          refine J.exit rfl rfl ?_
          refine J.seq rfl ?_
          refine J.seq rfl ?_
          refine J.region rfl ?_
          refine JO.pur rfl rfl rfl (Pur.assign rfl) ?_
          refine JO.nil ?_
          refine J.block rfl ?_
          refine J.loopF (ι := Nat × (Nat → Nat) × (Nat → Nat)) (fun q => q.1 ≤ picks.length ∧ (∀ i, i < parts.length → q.2.2 i ≤ q.2.1 i ∧ q.2.1 i ≤ (parts.getD i []).length) ∧ Hf.Good (TW size parts (IM size parts q.2.2) ((parts.length + 1 : Nat) : Int) parts.length q.2.1 q.2.2) parts.length) (fun q => [(18, .int .i64 (q.1 : Int))]) [(1, _), (2, _), (7, _), (9, _), (11, _), (13, _), (14, _)] (fun q => FA p (TW size parts (IM size parts q.2.2) ((parts.length + 1 : Nat) : Int) parts.length q.2.1 q.2.2) :: sl intE (some ⟨b73, 0, none⟩) parts.length (natsL parts.length q.2.1) :: sl intE (some ⟨b70, 0, none⟩) parts.length (natsL parts.length (opnN parts.length)) :: FA p2 (newF []) :: sl pairE a28 c28 (cutsV size (parts.length : Int)).1 :: L) (fun q => picks.length - q.1) (0, (fun _ => 0), (fun _ => 0)) rfl (.cons rfl rfl (.cons rfl rfl (.cons rfl rfl (.cons rfl rfl (.cons rfl rfl (.cons rfl rfl (.cons rfl rfl .nil))))))) (.cons rfl rfl .nil) (fun h s => by dsimp only; rw [IM_zero]; exact SubC.out h s) ⟨Nat.zero_le _, fun i hi => ⟨Nat.le_refl _, Nat.zero_le _⟩, by dsimp only; rw [IM_zero]; exact hg⟩ ?_
          rintro ⟨k, at1, w1⟩ ⟨hk, hw, hgd⟩ ih5
          try dsimp only
          dsimp only at hk hw hgd
          refine J.seq rfl ?_
          refine J.seq rfl ?_
          refine J.region rfl ?_
          refine JO.pur rfl rfl rfl (Pur.move rfl) ?_
          refine JO.pur rfl rfl rfl (Pur.move rfl) ?_
          refine JO.pur rfl rfl rfl (Pur.len rfl) ?_
          refine JO.pur rfl rfl rfl (Pur.lss rfl rfl) ?_
          refine JO.nil ?_
          refine J.splitB 122 rfl (fun h122 => ?_) (fun h122 => ?_)
          · try simp only [decide_eq_true_eq, decide_eq_false_iff_not, Bool.not_eq_true', Bool.not_eq_false', Bool.and_eq_true, Bool.or_eq_true, Bool.and_eq_false_iff, Bool.or_eq_false_iff, Option.isNone_some, Option.isSome_some, Option.isNone_none, Option.isSome_none, Int.not_lt, Int.not_le, beq_iff_eq, beq_eq_false_iff_ne, bne_iff_ne, ne_eq, Bool.not_not, Decidable.not_not] at h122
            have hnl0 := natsL_len parts.length at1
            have hnl1 := natsL_len parts.length (opnN parts.length)
            obtain ⟨pv, hpk⟩ : ∃ pv, picks[k]? = some pv := ⟨_, List.getElem?_eq_getElem (by omega)⟩
            refine J.condT rfl rfl ?_
            refine J.skip rfl ?_
            refine J.seq rfl ?_
            refine J.block rfl ?_
            refine J.seq rfl ?_
            refine J.region rfl ?_
            refine JO.pur rfl rfl rfl (Pur.move rfl) ?_
            refine JO.pur rfl rfl rfl (Pur.move rfl) ?_
            refine JO.pur rfl rfl rfl (Pur.idx rfl rfl rfl (by first | rfl | (simp; done) | omega) rfl (by omega)) ?_
            refine JO.pur rfl rfl rfl (Pur.load rfl (CellIn.el0 rfl hpk rfl)) ?_
            refine JO.pur rfl rfl rfl (Pur.assign rfl) ?_
            refine JO.nil ?_
            refine J.seq rfl ?_
            refine J.quiet rfl Try.mixed (by kernel_rfl) ?_
            refine JQ.pur rfl rfl rfl (Pur.move rfl) ?_
            refine JQ.pur rfl rfl rfl (Pur.geq rfl rfl) ?_
            refine JQ.pur rfl rfl rfl (Pur.move rfl) ?_
            refine JQ.splitB 131 rfl (fun h131 => ?_) (fun h131 => ?_)
            · try simp only [decide_eq_true_eq, decide_eq_false_iff_not, Bool.not_eq_true', Bool.not_eq_false', Bool.and_eq_true, Bool.or_eq_true, Bool.and_eq_false_iff, Bool.or_eq_false_iff, Option.isNone_some, Option.isSome_some, Option.isNone_none, Option.isSome_none, Int.not_lt, Int.not_le, beq_iff_eq, beq_eq_false_iff_ne, bne_iff_ne, ne_eq, Bool.not_not, Decidable.not_not] at h131
              refine JQ.pur rfl rfl rfl (Pur.move rfl) ?_
              refine JQ.pur rfl rfl rfl (Pur.move rfl) ?_
              refine JQ.pur rfl rfl rfl (Pur.len rfl) ?_
              refine JQ.pur rfl rfl rfl (Pur.lss rfl rfl) ?_
              refine JQ.pur rfl rfl rfl (Pur.pickT rfl rfl) ?_
              refine JQ.pur rfl rfl rfl (Pur.move rfl) ?_
              refine JQ.splitB 137 rfl (fun h137 => ?_) (fun h137 => ?_)
              · try simp only [decide_eq_true_eq, decide_eq_false_iff_not, Bool.not_eq_true', Bool.not_eq_false', Bool.and_eq_true, Bool.or_eq_true, Bool.and_eq_false_iff, Bool.or_eq_false_iff, Option.isNone_some, Option.isSome_some, Option.isNone_none, Option.isSome_none, Int.not_lt, Int.not_le, beq_iff_eq, beq_eq_false_iff_ne, bne_iff_ne, ne_eq, Bool.not_not, Decidable.not_not] at h137
                have hp0 : 0 ≤ pv := by omega
                have hpl2 : pv.toNat < parts.length := by omega
                obtain ⟨hd, hH⟩ : ∃ hd, hs[pv.toNat]? = some hd := ⟨_, List.getElem?_eq_getElem (by omega)⟩
                have hC := getD_part hpl2
                have hdn := hdr_n hnn hH hC
                have hyl : (parts.getD pv.toNat []).length ≤ 9223372036854775807 := hpl _ (List.mem_of_getElem? hC)
                have hatg : (natsL parts.length at1)[pv.toNat]? = some ((at1 pv.toNat : Nat) : Int) := natsL_get hpl2
                have hwi := hw pv.toNat hpl2
                refine JQ.pur rfl rfl rfl (Pur.move rfl) ?_
                refine JQ.pur rfl rfl rfl (Pur.move rfl) ?_
                refine JQ.pur rfl rfl rfl (Pur.idx rfl rfl rfl (by first | rfl | (simp; done) | omega) (Int.toNat_of_nonneg hp0).symm (by rw [natsL_len]; omega)) ?_
                refine JQ.pur rfl rfl rfl (Pur.load rfl (CellIn.el0 rfl hatg rfl)) ?_
                refine JQ.pur rfl rfl rfl (Pur.move rfl) ?_
                refine JQ.pur rfl rfl rfl (Pur.move rfl) ?_
                refine JQ.pur rfl rfl rfl (Pur.idx rfl rfl rfl (by first | rfl | (simp; done) | omega) (Int.toNat_of_nonneg hp0).symm (by omega)) ?_
                refine JQ.pur rfl rfl rfl (Pur.load rfl (CellIn.el0 rfl hH rfl)) ?_
                refine JQ.pur rfl rfl rfl (Pur.len rfl) ?_
                refine JQ.pur rfl rfl rfl (Pur.lss rfl rfl) ?_
                refine JQ.pur rfl rfl rfl (Pur.pickT rfl rfl) ?_
                refine JQ.nil ?_
                refine J.splitB 148 rfl (fun h148 => ?_) (fun h148 => ?_)
                · try simp only [decide_eq_true_eq, decide_eq_false_iff_not, Bool.not_eq_true', Bool.not_eq_false', Bool.and_eq_true, Bool.or_eq_true, Bool.and_eq_false_iff, Bool.or_eq_false_iff, Option.isNone_some, Option.isSome_some, Option.isNone_none, Option.isSome_none, Int.not_lt, Int.not_le, beq_iff_eq, beq_eq_false_iff_ne, bne_iff_ne, ne_eq, Bool.not_not, Decidable.not_not] at h148
                  have hlt : at1 pv.toNat < (parts.getD pv.toNat []).length := by omega
                  have hw1 := tw2_write hok (B := IM size parts w1) (nx := ((parts.length + 1 : Nat) : Int)) (m := parts.length) (a := at1) (w := w1) (i := pv.toNat) (b := at1 pv.toNat + 1) hpl2 hwi.1 (by omega) hlt (hft _ hpl2)
                  have hopg : (natsL parts.length (opnN parts.length))[pv.toNat]? = some ((pv.toNat + 1 : Nat) : Int) := by rw [natsL_get hpl2, opnN_at hpl2]
                  have hg2 := good_write hgd ((pv.toNat + 1 : Nat) : Int) (((parts.getD pv.toNat []).drop (at1 pv.toNat)).take (at1 pv.toNat + 1 - at1 pv.toNat))
                  rw [hw1] at hg2
                  have hwa : ∀ i, i < parts.length → w1 i ≤ updN at1 pv.toNat (at1 pv.toNat + 1) i ∧ updN at1 pv.toNat (at1 pv.toNat + 1) i ≤ (parts.getD i []).length := fun i hi => by
                    by_cases e : i = pv.toNat
                    · subst e; rw [updN_at]; omega
                    · rw [updN_ne e]; exact hw i hi
                  have hw2 := tw2_commit hok hft (nx := ((parts.length + 1 : Nat) : Int)) (m := parts.length) (a := updN at1 pv.toNat (at1 pv.toNat + 1)) (w := w1) (i := pv.toNat) hwa (Nat.le_refl _) hpl2
                  rw [updN_at] at hw2
                  have hg3 := good_commit hg2 ((pv.toNat + 1 : Nat) : Int)
                  rw [hw2] at hg3
                  have hwb : ∀ i, i < parts.length → updN w1 pv.toNat (at1 pv.toNat + 1) i ≤ updN at1 pv.toNat (at1 pv.toNat + 1) i ∧ updN at1 pv.toNat (at1 pv.toNat + 1) i ≤ (parts.getD i []).length := fun i hi => by
                    by_cases e : i = pv.toNat
                    · subst e; rw [updN_at, updN_at]; omega
                    · rw [updN_ne e, updN_ne e]; exact hw i hi
                  refine J.fact (fun h s => RowsR.fit (E := byE) (hs := hs) (xss := parts) s hH hC) fun hfit => ?_
                  have hne : ¬ hd.a = none := fun e => by have := hfit.1 e; omega
                  refine J.condT rfl rfl ?_
                  refine J.seq rfl ?_
                  refine J.seq rfl ?_
                  refine J.mask1 (n := 35) [] rfl Try.mixed rfl (by kernel_rfl) ?_
                  refine JM.take 0 (fun _ h => h.tail) rfl (by kernel_rfl) rfl rfl rfl (m' := 1) rfl (Pur.move rfl) ?_
                  refine JM.take 1 (fun _ h => h.tail) rfl (by kernel_rfl) rfl rfl rfl (m' := 3) rfl (Pur.move rfl) ?_
                  refine JM.take 2 (fun _ h => h.tail) rfl (by kernel_rfl) rfl rfl rfl (m' := 7) rfl (Pur.move rfl) ?_
                  refine JM.take 3 (fun _ h => h.tail) rfl (by kernel_rfl) rfl rfl rfl (m' := 15) rfl (Pur.idx rfl rfl rfl (by first | rfl | (simp; done) | omega) (Int.toNat_of_nonneg hp0).symm (by rw [natsL_len]; omega)) ?_
                  refine JM.take 4 (fun _ h => h.tail) rfl (by kernel_rfl) rfl rfl rfl (m' := 31) rfl (Pur.load rfl (CellIn.el0 rfl hopg rfl)) ?_
                  refine JM.take 5 (fun _ h => h.tail) rfl (by kernel_rfl) rfl rfl rfl (m' := 63) rfl (Pur.move rfl) ?_
                  refine JM.take 6 (fun _ h => h.tail) rfl (by kernel_rfl) rfl rfl rfl (m' := 127) rfl (Pur.move rfl) ?_
                  refine JM.take 7 (fun _ h => h.tail) rfl (by kernel_rfl) rfl rfl rfl (m' := 255) rfl (Pur.idx rfl rfl rfl (by first | rfl | (simp; done) | omega) (Int.toNat_of_nonneg hp0).symm (by omega)) ?_
                  refine JM.take 8 (fun _ h => h.tail) rfl (by kernel_rfl) rfl rfl rfl (m' := 511) rfl (Pur.load rfl (CellIn.el0 rfl hH rfl)) ?_
                  refine JM.take 9 (fun _ h => h.tail) rfl (by kernel_rfl) rfl rfl rfl (m' := 1023) rfl (Pur.move rfl) ?_
                  refine JM.take 10 (fun _ h => h.tail) rfl (by kernel_rfl) rfl rfl rfl (m' := 2047) rfl (Pur.move rfl) ?_
                  refine JM.take 11 (fun _ h => h.tail) rfl (by kernel_rfl) rfl rfl rfl (m' := 4095) rfl (Pur.idx rfl rfl rfl (by first | rfl | (simp; done) | omega) (Int.toNat_of_nonneg hp0).symm (by rw [natsL_len]; omega)) ?_
                  refine JM.take 12 (fun _ h => h.tail) rfl (by kernel_rfl) rfl rfl rfl (m' := 8191) rfl (Pur.load rfl (CellIn.el0 rfl hatg rfl)) ?_
                  refine JM.take 13 (fun _ h => h.tail) rfl (by kernel_rfl) rfl rfl rfl (m' := 16383) rfl (Pur.move rfl) ?_
                  refine JM.take 14 (fun _ h => h.tail) rfl (by kernel_rfl) rfl rfl rfl (m' := 32767) rfl (Pur.move rfl) ?_
                  refine JM.take 15 (fun _ h => h.tail) rfl (by kernel_rfl) rfl rfl rfl (m' := 65535) rfl (Pur.idx rfl rfl rfl (by first | rfl | (simp; done) | omega) (Int.toNat_of_nonneg hp0).symm (by rw [natsL_len]; omega)) ?_
                  refine JM.take 16 (fun _ h => h.tail) rfl (by kernel_rfl) rfl rfl rfl (m' := 131071) rfl (Pur.load rfl (CellIn.el0 rfl hatg rfl)) ?_
                  refine JM.take 17 (fun _ h => h.tail) rfl (by kernel_rfl) rfl rfl rfl (m' := 262143) rfl (Pur.add rfl rfl (wr64 (by omega))) ?_
                  refine JM.take 18 (fun _ h => h.tail) rfl (by kernel_rfl) rfl rfl rfl (m' := 524287) rfl (Pur.slice2 rfl rfl rfl rfl (show ((at1 pv.toNat : Nat) : Int) + 1 = ((at1 pv.toNat + 1 : Nat) : Int) by omega) (by omega) (by omega)) ?_
                  refine JM.one (i := 19) (by kernel_rfl) ?_
                  refine JMi.eff rfl rfl rfl rfl (m' := 1048575) rfl (Eff.call rfl (@Write_ok _ _ _ _ _ _ _ (((parts.getD pv.toNat []).drop (at1 pv.toNat)).take (at1 pv.toNat + 1 - at1 pv.toNat)) (SlIn.takeN (SlIn.dropN (cap := hd.cap) (RowsR.row (E := byE) inferInstance hH hC) rfl (at1 pv.toNat) (by omega)) (at1 pv.toNat + 1 - at1 pv.toNat)) (by rw [List.length_take, List.length_drop]; omega) (by rw [List.length_take]; omega) (fun e => absurd (tail_none e) hne) parts.length hgd (by omega))) ?_
                  rintro _ _ ⟨rfl, rfl⟩
                  refine ⟨.inr (fun _ h => h.tail), ?_⟩
                  rw [hw1]
                  refine JM.take 20 (fun _ h => h.tail) rfl (by kernel_rfl) rfl rfl rfl (m' := 2097151) rfl (Pur.neqI rfl rfl) ?_
                  refine JM.setv (u' := .bool false) 169 rfl (congrArg Value.bool (rfl)) ?_
                  refine JM.take 21 (fun _ h => h.tail) rfl (by kernel_rfl) rfl rfl rfl (m' := 4194303) rfl (Pur.move rfl) ?_
                  refine JM.take 22 (fun _ h => h.tail) rfl (by kernel_rfl) rfl rfl rfl (m' := 8388607) rfl (Pur.move rfl) ?_
                  refine JM.take 23 (fun _ h => h.tail) rfl (by kernel_rfl) rfl rfl rfl (m' := 16777215) rfl (Pur.rem rfl rfl (by decide)) ?_
                  refine JM.take 24 (fun _ h => h.tail) rfl (by kernel_rfl) rfl rfl rfl (m' := 33554431) rfl (Pur.eqlI rfl rfl) ?_
                  refine JM.take 25 (fun _ h => h.tail) rfl (by kernel_rfl) rfl rfl rfl (m' := 67108863) rfl (Pur.move rfl) ?_
                  refine JM.splitB 174 rfl (fun h174 => ?_) (fun h174 => ?_)
                  · try simp only [decide_eq_true_eq, decide_eq_false_iff_not, Bool.not_eq_true', Bool.not_eq_false', Bool.and_eq_true, Bool.or_eq_true, Bool.and_eq_false_iff, Bool.or_eq_false_iff, Option.isNone_some, Option.isSome_some, Option.isNone_none, Option.isSome_none, Int.not_lt, Int.not_le, beq_iff_eq, beq_eq_false_iff_ne, bne_iff_ne, ne_eq, Bool.not_not, Decidable.not_not] at h174
                    refine JM.take 26 (fun _ h => h.tail) rfl (by kernel_rfl) rfl rfl rfl (m' := 134217727) rfl (Pur.move rfl) ?_
                    refine JM.take 27 (fun _ h => h.tail) rfl (by kernel_rfl) rfl rfl rfl (m' := 268435455) rfl (Pur.move rfl) ?_
                    refine JM.take 28 (fun _ h => h.tail) rfl (by kernel_rfl) rfl rfl rfl (m' := 536870911) rfl (Pur.move rfl) ?_
                    refine JM.take 29 (fun _ h => h.tail) rfl (by kernel_rfl) rfl rfl rfl (m' := 1073741823) rfl (Pur.idx rfl rfl rfl (by first | rfl | (simp; done) | omega) (Int.toNat_of_nonneg hp0).symm (by rw [natsL_len]; omega)) ?_
                    refine JM.take 30 (fun _ h => h.tail) rfl (by kernel_rfl) rfl rfl rfl (m' := 2147483647) rfl (Pur.load rfl (CellIn.el0 rfl hopg rfl)) ?_
                    refine JM.one (i := 31) (by kernel_rfl) ?_
                    refine JMi.eff rfl rfl rfl rfl (m' := 4294967295) rfl (Eff.call rfl (Commit_ok (n := ((pv.toNat + 1 : Nat) : Int)) hg2 (by omega))) ?_
                    rintro _ _ ⟨rfl, rfl⟩
                    refine ⟨.inr (fun _ h => h.tail), ?_⟩
                    rw [hw2]
                    refine JM.take 32 (fun _ h => h.tail) rfl (by kernel_rfl) rfl rfl rfl (m' := 8589934591) rfl (Pur.neqI rfl rfl) ?_
                    refine JM.setv (u' := .bool false) 181 rfl (congrArg Value.bool (rfl)) ?_
                    refine JM.take 33 (fun _ h => h.tail) rfl (by kernel_rfl) rfl rfl rfl (m' := 17179869183) rfl (Pur.pickT rfl rfl) ?_
                    refine JM.take 34 (fun _ h => h.tail) rfl (by kernel_rfl) rfl rfl rfl (m' := 34359738367) rfl (Pur.pickF rfl rfl) ?_
                    refine JM.done rfl ?_
                    refine J.condF rfl rfl ?_
                    refine J.skip rfl ?_
                    refine J.region rfl ?_
                    refine JO.pur rfl rfl rfl (Pur.move rfl) ?_
                    refine JO.pur rfl rfl rfl (Pur.move rfl) ?_
                    refine JO.pur rfl rfl rfl (Pur.idx rfl rfl rfl (by first | rfl | (simp; done) | omega) (Int.toNat_of_nonneg hp0).symm (by rw [natsL_len]; omega)) ?_
                    refine JO.pur rfl rfl rfl (Pur.load rfl (CellIn.el0 rfl hatg rfl)) ?_
                    refine JO.pur rfl rfl rfl (Pur.add rfl rfl (wr64 (by omega))) ?_
                    refine JO.pur rfl rfl rfl (Pur.idx rfl rfl rfl (by first | rfl | (simp; done) | omega) (Int.toNat_of_nonneg hp0).symm (by rw [natsL_len]; omega)) ?_
                    refine JO.effN rfl rfl (Eff.storeS0 (z' := ((at1 pv.toNat + 1 : Nat) : Int)) rfl rfl rfl rfl hatg .head) ?_
                    rintro _ _ ⟨rfl, rfl⟩
                    refine JO.nil ?_
                    refine J.inBlock ?_
                    refine J.region rfl ?_
                    refine JO.pur rfl rfl rfl (Pur.move rfl) ?_
                    refine JO.pur rfl rfl rfl (Pur.add rfl rfl (wr64 (by omega))) ?_
                    refine JO.pur rfl rfl rfl (Pur.assign rfl) ?_
                    refine JO.nil ?_
                    first
                      | exact J.weaken (.cons rfl (congrArg (Value.int .i64) (by first | rfl | (dsimp only; omega))) (.cons rfl rfl (.cons rfl rfl (.cons rfl rfl (.cons rfl rfl (.cons rfl rfl (.cons rfl rfl (.cons rfl rfl .nil)))))))) (by first | exact fun _ h => h | exact SubC.out | (dsimp only; exact SubC.out)) (ih5 (k + 1, at1, w1) ⟨(by dsimp only; omega), hw, hgd⟩ (by dsimp only; omega))
                      | exact J.weaken (.cons rfl (congrArg (Value.int .i64) (by first | rfl | (dsimp only; omega))) (.cons rfl rfl (.cons rfl rfl (.cons rfl rfl (.cons rfl rfl (.cons rfl rfl (.cons rfl rfl (.cons rfl rfl .nil)))))))) (fun h s => by rw [natsL_set] at s; exact SubC.out h s) (ih5 (k + 1, updN at1 pv.toNat (at1 pv.toNat + 1), w1) ⟨(by dsimp only; omega), hwa, hg2⟩ (by dsimp only; omega))
                      | exact J.weaken (.cons rfl (congrArg (Value.int .i64) (by first | rfl | (dsimp only; omega))) (.cons rfl rfl (.cons rfl rfl (.cons rfl rfl (.cons rfl rfl (.cons rfl rfl (.cons rfl rfl (.cons rfl rfl .nil)))))))) (fun h s => by rw [natsL_set] at s; exact SubC.out h s) (ih5 (k + 1, updN at1 pv.toNat (at1 pv.toNat + 1), updN w1 pv.toNat (at1 pv.toNat + 1)) ⟨(by dsimp only; omega), hwb, hg3⟩ (by dsimp only; omega))
                  · try simp only [decide_eq_true_eq, decide_eq_false_iff_not, Bool.not_eq_true', Bool.not_eq_false', Bool.and_eq_true, Bool.or_eq_true, Bool.and_eq_false_iff, Bool.or_eq_false_iff, Option.isNone_some, Option.isSome_some, Option.isNone_none, Option.isSome_none, Int.not_lt, Int.not_le, beq_iff_eq, beq_eq_false_iff_ne, bne_iff_ne, ne_eq, Bool.not_not, Decidable.not_not] at h174
                    refine JM.takeNo 26 (fun _ h => h.tail) rfl (by kernel_rfl) rfl rfl rfl (m' := 134217727) rfl ?_
                    refine JM.takeNo 27 (fun _ h => h.tail) rfl (by kernel_rfl) rfl rfl rfl (m' := 268435455) rfl ?_
                    refine JM.takeNo 28 (fun _ h => h.tail) rfl (by kernel_rfl) rfl rfl rfl (m' := 536870911) rfl ?_
                    refine JM.takeNo 29 (fun _ h => h.tail) rfl (by kernel_rfl) rfl rfl rfl (m' := 1073741823) rfl ?_
                    refine JM.takeNo 30 (fun _ h => h.tail) rfl (by kernel_rfl) rfl rfl rfl (m' := 2147483647) rfl ?_
                    refine JM.one (i := 31) (by kernel_rfl) ?_
                    refine JMi.no rfl rfl rfl rfl (m' := 4294967295) rfl (fun _ h => h.tail) ?_
                    refine JM.takeNo 32 (fun _ h => h.tail) rfl (by kernel_rfl) rfl rfl rfl (m' := 8589934591) rfl ?_
                    refine JM.take 33 (fun _ h => h.tail) rfl (by kernel_rfl) rfl rfl rfl (m' := 17179869183) rfl (Pur.pickF rfl rfl) ?_
                    refine JM.take 34 (fun _ h => h.tail) rfl (by kernel_rfl) rfl rfl rfl (m' := 34359738367) rfl (Pur.pickF rfl rfl) ?_
                    refine JM.done rfl ?_
                    refine J.condF rfl rfl ?_
                    refine J.skip rfl ?_
                    refine J.region rfl ?_
                    refine JO.pur rfl rfl rfl (Pur.move rfl) ?_
                    refine JO.pur rfl rfl rfl (Pur.move rfl) ?_
                    refine JO.pur rfl rfl rfl (Pur.idx rfl rfl rfl (by first | rfl | (simp; done) | omega) (Int.toNat_of_nonneg hp0).symm (by rw [natsL_len]; omega)) ?_
                    refine JO.pur rfl rfl rfl (Pur.load rfl (CellIn.el0 rfl hatg rfl)) ?_
                    refine JO.pur rfl rfl rfl (Pur.add rfl rfl (wr64 (by omega))) ?_
                    refine JO.pur rfl rfl rfl (Pur.idx rfl rfl rfl (by first | rfl | (simp; done) | omega) (Int.toNat_of_nonneg hp0).symm (by rw [natsL_len]; omega)) ?_
                    refine JO.effN rfl rfl (Eff.storeS0 (z' := ((at1 pv.toNat + 1 : Nat) : Int)) rfl rfl rfl rfl hatg .head) ?_
                    rintro _ _ ⟨rfl, rfl⟩
                    refine JO.nil ?_
                    refine J.inBlock ?_
                    refine J.region rfl ?_
                    refine JO.pur rfl rfl rfl (Pur.move rfl) ?_
                    refine JO.pur rfl rfl rfl (Pur.add rfl rfl (wr64 (by omega))) ?_
                    refine JO.pur rfl rfl rfl (Pur.assign rfl) ?_
                    refine JO.nil ?_
                    first
                      | exact J.weaken (.cons rfl (congrArg (Value.int .i64) (by first | rfl | (dsimp only; omega))) (.cons rfl rfl (.cons rfl rfl (.cons rfl rfl (.cons rfl rfl (.cons rfl rfl (.cons rfl rfl (.cons rfl rfl .nil)))))))) (by first | exact fun _ h => h | exact SubC.out | (dsimp only; exact SubC.out)) (ih5 (k + 1, at1, w1) ⟨(by dsimp only; omega), hw, hgd⟩ (by dsimp only; omega))
                      | exact J.weaken (.cons rfl (congrArg (Value.int .i64) (by first | rfl | (dsimp only; omega))) (.cons rfl rfl (.cons rfl rfl (.cons rfl rfl (.cons rfl rfl (.cons rfl rfl (.cons rfl rfl (.cons rfl rfl .nil)))))))) (fun h s => by rw [natsL_set] at s; exact SubC.out h s) (ih5 (k + 1, updN at1 pv.toNat (at1 pv.toNat + 1), w1) ⟨(by dsimp only; omega), hwa, hg2⟩ (by dsimp only; omega))
                      | exact J.weaken (.cons rfl (congrArg (Value.int .i64) (by first | rfl | (dsimp only; omega))) (.cons rfl rfl (.cons rfl rfl (.cons rfl rfl (.cons rfl rfl (.cons rfl rfl (.cons rfl rfl (.cons rfl rfl .nil)))))))) (fun h s => by rw [natsL_set] at s; exact SubC.out h s) (ih5 (k + 1, updN at1 pv.toNat (at1 pv.toNat + 1), updN w1 pv.toNat (at1 pv.toNat + 1)) ⟨(by dsimp only; omega), hwb, hg3⟩ (by dsimp only; omega))
                · try simp only [decide_eq_true_eq, decide_eq_false_iff_not, Bool.not_eq_true', Bool.not_eq_false', Bool.and_eq_true, Bool.or_eq_true, Bool.and_eq_false_iff, Bool.or_eq_false_iff, Option.isNone_some, Option.isSome_some, Option.isNone_none, Option.isSome_none, Int.not_lt, Int.not_le, beq_iff_eq, beq_eq_false_iff_ne, bne_iff_ne, ne_eq, Bool.not_not, Decidable.not_not] at h148
                  refine J.condF rfl rfl ?_
                  refine J.skip rfl ?_
                  refine J.inBlock ?_
                  refine J.region rfl ?_
                  refine JO.pur rfl rfl rfl (Pur.move rfl) ?_
                  refine JO.pur rfl rfl rfl (Pur.add rfl rfl (wr64 (by omega))) ?_
                  refine JO.pur rfl rfl rfl (Pur.assign rfl) ?_
                  refine JO.nil ?_
                  first
                    | exact J.weaken (.cons rfl (congrArg (Value.int .i64) (by first | rfl | (dsimp only; omega))) (.cons rfl rfl (.cons rfl rfl (.cons rfl rfl (.cons rfl rfl (.cons rfl rfl (.cons rfl rfl (.cons rfl rfl .nil)))))))) (by first | exact fun _ h => h | exact SubC.out | (dsimp only; exact SubC.out)) (ih5 (k + 1, at1, w1) ⟨(by dsimp only; omega), hw, hgd⟩ (by dsimp only; omega))
                    | exact J.weaken (.cons rfl (congrArg (Value.int .i64) (by first | rfl | (dsimp only; omega))) (.cons rfl rfl (.cons rfl rfl (.cons rfl rfl (.cons rfl rfl (.cons rfl rfl (.cons rfl rfl (.cons rfl rfl .nil)))))))) (fun h s => by rw [natsL_set] at s; exact SubC.out h s) (ih5 (k + 1, updN at1 pv.toNat (at1 pv.toNat + 1), w1) ⟨(by dsimp only; omega), hwa, hg2⟩ (by dsimp only; omega))
                    | exact J.weaken (.cons rfl (congrArg (Value.int .i64) (by first | rfl | (dsimp only; omega))) (.cons rfl rfl (.cons rfl rfl (.cons rfl rfl (.cons rfl rfl (.cons rfl rfl (.cons rfl rfl (.cons rfl rfl .nil)))))))) (fun h s => by rw [natsL_set] at s; exact SubC.out h s) (ih5 (k + 1, updN at1 pv.toNat (at1 pv.toNat + 1), updN w1 pv.toNat (at1 pv.toNat + 1)) ⟨(by dsimp only; omega), hwb, hg3⟩ (by dsimp only; omega))
              · try simp only [decide_eq_true_eq, decide_eq_false_iff_not, Bool.not_eq_true', Bool.not_eq_false', Bool.and_eq_true, Bool.or_eq_true, Bool.and_eq_false_iff, Bool.or_eq_false_iff, Option.isNone_some, Option.isSome_some, Option.isNone_none, Option.isSome_none, Int.not_lt, Int.not_le, beq_iff_eq, beq_eq_false_iff_ne, bne_iff_ne, ne_eq, Bool.not_not, Decidable.not_not] at h137
                refine JQ.no rfl rfl rfl ?_
                refine JQ.no rfl rfl rfl ?_
                refine JQ.no rfl rfl rfl ?_
                refine JQ.no rfl rfl rfl ?_
                refine JQ.no rfl rfl rfl ?_
                refine JQ.no rfl rfl rfl ?_
                refine JQ.no rfl rfl rfl ?_
                refine JQ.no rfl rfl rfl ?_
                refine JQ.no rfl rfl rfl ?_
                refine JQ.no rfl rfl rfl ?_
                refine JQ.pur rfl rfl rfl (Pur.pickF rfl rfl) ?_
                refine JQ.nil ?_
                refine J.condF rfl rfl ?_
                refine J.skip rfl ?_
                refine J.inBlock ?_
                refine J.region rfl ?_
                refine JO.pur rfl rfl rfl (Pur.move rfl) ?_
                refine JO.pur rfl rfl rfl (Pur.add rfl rfl (wr64 (by omega))) ?_
                refine JO.pur rfl rfl rfl (Pur.assign rfl) ?_
                refine JO.nil ?_
                first
                  | exact J.weaken (.cons rfl (congrArg (Value.int .i64) (by first | rfl | (dsimp only; omega))) (.cons rfl rfl (.cons rfl rfl (.cons rfl rfl (.cons rfl rfl (.cons rfl rfl (.cons rfl rfl (.cons rfl rfl .nil)))))))) (by first | exact fun _ h => h | exact SubC.out | (dsimp only; exact SubC.out)) (ih5 (k + 1, at1, w1) ⟨(by dsimp only; omega), hw, hgd⟩ (by dsimp only; omega))
                  | exact J.weaken (.cons rfl (congrArg (Value.int .i64) (by first | rfl | (dsimp only; omega))) (.cons rfl rfl (.cons rfl rfl (.cons rfl rfl (.cons rfl rfl (.cons rfl rfl (.cons rfl rfl (.cons rfl rfl .nil)))))))) (fun h s => by rw [natsL_set] at s; exact SubC.out h s) (ih5 (k + 1, updN at1 pv.toNat (at1 pv.toNat + 1), w1) ⟨(by dsimp only; omega), hwa, hg2⟩ (by dsimp only; omega))
                  | exact J.weaken (.cons rfl (congrArg (Value.int .i64) (by first | rfl | (dsimp only; omega))) (.cons rfl rfl (.cons rfl rfl (.cons rfl rfl (.cons rfl rfl (.cons rfl rfl (.cons rfl rfl (.cons rfl rfl .nil)))))))) (fun h s => by rw [natsL_set] at s; exact SubC.out h s) (ih5 (k + 1, updN at1 pv.toNat (at1 pv.toNat + 1), updN w1 pv.toNat (at1 pv.toNat + 1)) ⟨(by dsimp only; omega), hwb, hg3⟩ (by dsimp only; omega))
            · try simp only [decide_eq_true_eq, decide_eq_false_iff_not, Bool.not_eq_true', Bool.not_eq_false', Bool.and_eq_true, Bool.or_eq_true, Bool.and_eq_false_iff, Bool.or_eq_false_iff, Option.isNone_some, Option.isSome_some, Option.isNone_none, Option.isSome_none, Int.not_lt, Int.not_le, beq_iff_eq, beq_eq_false_iff_ne, bne_iff_ne, ne_eq, Bool.not_not, Decidable.not_not] at h131
              refine JQ.no rfl rfl rfl ?_
              refine JQ.no rfl rfl rfl ?_
              refine JQ.no rfl rfl rfl ?_
              refine JQ.no rfl rfl rfl ?_
              refine JQ.pur rfl rfl rfl (Pur.pickF rfl rfl) ?_
              refine JQ.pur rfl rfl rfl (Pur.move rfl) ?_
              refine JQ.no rfl rfl rfl ?_
              refine JQ.no rfl rfl rfl ?_
              refine JQ.no rfl rfl rfl ?_
              refine JQ.no rfl rfl rfl ?_
              refine JQ.no rfl rfl rfl ?_
              refine JQ.no rfl rfl rfl ?_
              refine JQ.no rfl rfl rfl ?_
              refine JQ.no rfl rfl rfl ?_
              refine JQ.no rfl rfl rfl ?_
              refine JQ.no rfl rfl rfl ?_
              refine JQ.pur rfl rfl rfl (Pur.pickF rfl rfl) ?_
              refine JQ.nil ?_
              refine J.condF rfl rfl ?_
              refine J.skip rfl ?_
              refine J.inBlock ?_
              refine J.region rfl ?_
              refine JO.pur rfl rfl rfl (Pur.move rfl) ?_
              refine JO.pur rfl rfl rfl (Pur.add rfl rfl (wr64 (by omega))) ?_
              refine JO.pur rfl rfl rfl (Pur.assign rfl) ?_
              refine JO.nil ?_
              first
                | exact J.weaken (.cons rfl (congrArg (Value.int .i64) (by first | rfl | (dsimp only; omega))) (.cons rfl rfl (.cons rfl rfl (.cons rfl rfl (.cons rfl rfl (.cons rfl rfl (.cons rfl rfl (.cons rfl rfl .nil)))))))) (by first | exact fun _ h => h | exact SubC.out | (dsimp only; exact SubC.out)) (ih5 (k + 1, at1, w1) ⟨(by dsimp only; omega), hw, hgd⟩ (by dsimp only; omega))
                | exact J.weaken (.cons rfl (congrArg (Value.int .i64) (by first | rfl | (dsimp only; omega))) (.cons rfl rfl (.cons rfl rfl (.cons rfl rfl (.cons rfl rfl (.cons rfl rfl (.cons rfl rfl (.cons rfl rfl .nil)))))))) (fun h s => by rw [natsL_set] at s; exact SubC.out h s) (ih5 (k + 1, updN at1 pv.toNat (at1 pv.toNat + 1), w1) ⟨(by dsimp only; omega), hwa, hg2⟩ (by dsimp only; omega))
                | exact J.weaken (.cons rfl (congrArg (Value.int .i64) (by first | rfl | (dsimp only; omega))) (.cons rfl rfl (.cons rfl rfl (.cons rfl rfl (.cons rfl rfl (.cons rfl rfl (.cons rfl rfl (.cons rfl rfl .nil)))))))) (fun h s => by rw [natsL_set] at s; exact SubC.out h s) (ih5 (k + 1, updN at1 pv.toNat (at1 pv.toNat + 1), updN w1 pv.toNat (at1 pv.toNat + 1)) ⟨(by dsimp only; omega), hwb, hg3⟩ (by dsimp only; omega))
          · try simp only [decide_eq_true_eq, decide_eq_false_iff_not, Bool.not_eq_true', Bool.not_eq_false', Bool.and_eq_true, Bool.or_eq_true, Bool.and_eq_false_iff, Bool.or_eq_false_iff, Option.isNone_some, Option.isSome_some, Option.isNone_none, Option.isSome_none, Int.not_lt, Int.not_le, beq_iff_eq, beq_eq_false_iff_ne, bne_iff_ne, ne_eq, Bool.not_not, Decidable.not_not] at h122
            obtain rfl : k = picks.length := by omega
            obtain ⟨at2, hat2⟩ : ∃ at2, at2 = at1 := ⟨_, rfl⟩
            rw [← hat2] at hw hgd ⊢
            refine J.condF rfl rfl ?_
            refine J.exit rfl rfl ?_
            refine J.seq rfl ?_
            refine J.seq rfl ?_
            refine J.region rfl ?_
            refine JO.pur rfl rfl rfl (Pur.move rfl) ?_
            refine JO.pur rfl rfl rfl (Pur.len rfl) ?_
            refine JO.pur rfl rfl rfl (Pur.sub rfl rfl (wr64 (by omega))) ?_
            refine JO.pur rfl rfl rfl (Pur.assign rfl) ?_
            refine JO.nil ?_
            refine J.block rfl ?_
            refine J.loopF (ι := Nat × (Nat → Nat)) (fun q => q.1 ≤ parts.length ∧ (∀ i, i < parts.length → q.2 i ≤ (parts.getD i []).length) ∧ (∀ i, i < q.1 → q.2 i ≤ at2 i) ∧ (∀ i, i < parts.length → q.1 ≤ i → q.2 i = (parts.getD i []).length) ∧ Hf.Good (TW size parts (IM size parts q.2) ((parts.length + 1 : Nat) : Int) q.1 at2 q.2) parts.length) (fun q => [(20, .int .i64 ((q.1 : Int) - 1))]) [(1, _), (7, _), (9, _), (11, _), (13, _), (14, _)] (fun q => FA p (TW size parts (IM size parts q.2) ((parts.length + 1 : Nat) : Int) q.1 at2 q.2) :: sl intE (some ⟨b73, 0, none⟩) parts.length (natsL parts.length at2) :: sl intE (some ⟨b70, 0, none⟩) parts.length (natsL parts.length (opnN parts.length)) :: FA p2 (newF []) :: sl pairE a28 c28 (cutsV size (parts.length : Int)).1 :: L) (fun q => q.1) (parts.length, w1) rfl (.cons rfl rfl (.cons rfl rfl (.cons rfl rfl (.cons rfl rfl (.cons rfl rfl (.cons rfl rfl .nil)))))) (.cons rfl rfl .nil) (by first | exact fun _ h => h | exact SubC.out | (dsimp only; exact SubC.out)) ⟨Nat.le_refl _, fun i hi => by have := hw i hi; dsimp only; omega, fun i hi => (hw i hi).1, fun i hi h => by dsimp only at h; omega, hgd⟩ ?_
            rintro ⟨k, w2⟩ ⟨hk, hwl, hwa2, hwe, hgd2⟩ ih6
            try dsimp only
            dsimp only at hk hwl hwa2 hwe hgd2
            refine J.seq rfl ?_
            refine J.seq rfl ?_
            refine J.region rfl ?_
            refine JO.pur rfl rfl rfl (Pur.move rfl) ?_
            refine JO.pur rfl rfl rfl (Pur.geq rfl rfl) ?_
            refine JO.nil ?_
            refine J.splitB 194 rfl (fun h194 => ?_) (fun h194 => ?_)
            · try simp only [decide_eq_true_eq, decide_eq_false_iff_not, Bool.not_eq_true', Bool.not_eq_false', Bool.and_eq_true, Bool.or_eq_true, Bool.and_eq_false_iff, Bool.or_eq_false_iff, Option.isNone_some, Option.isSome_some, Option.isNone_none, Option.isSome_none, Int.not_lt, Int.not_le, beq_iff_eq, beq_eq_false_iff_ne, bne_iff_ne, ne_eq, Bool.not_not, Decidable.not_not] at h194
              have hnl0 := natsL_len parts.length at2
              have hnl1 := natsL_len parts.length (opnN parts.length)
              obtain ⟨j, rfl⟩ : ∃ j, k = j + 1 := ⟨k - 1, by omega⟩
              have hjp : j < parts.length := by omega
              obtain ⟨hd, hH⟩ : ∃ hd, hs[j]? = some hd := ⟨_, List.getElem?_eq_getElem (by omega)⟩
              have hC := getD_part hjp
              have hdn := hdr_n hnn hH hC
              have hyl : (parts.getD j []).length ≤ 9223372036854775807 := hpl _ (List.mem_of_getElem? hC)
              have hatg : (natsL parts.length at2)[j]? = some ((at2 j : Nat) : Int) := natsL_get hjp
              have hopg : (natsL parts.length (opnN parts.length))[j]? = some ((j + 1 : Nat) : Int) := by rw [natsL_get hjp, opnN_at hjp]
              have haj := (hw j hjp).2
              refine J.fact (fun h s => RowsR.fit (E := byE) (hs := hs) (xss := parts) s hH hC) fun hfit => ?_
              have hw1 := tw2_write hok (B := IM size parts w2) (nx := ((parts.length + 1 : Nat) : Int)) (m := j + 1) (a := at2) (w := w2) (i := j) (b := (parts.getD j []).length) (by omega) (hwa2 j (by omega)) haj (Nat.le_refl _) (hft _ hjp)
              rw [List.take_of_length_le (show ((parts.getD j []).drop (at2 j)).length ≤ (parts.getD j []).length - at2 j by rw [List.length_drop]; omega)] at hw1
              have hg2 := good_write hgd2 ((j + 1 : Nat) : Int) ((parts.getD j []).drop (at2 j))
              rw [hw1] at hg2
              have hw2 := tw2_close hok hft (nx := ((parts.length + 1 : Nat) : Int)) (m := j) (a := updN at2 j (parts.getD j []).length) (w := w2) hwl hjp (by rw [updN_at]; exact hwl j hjp) (by rw [updN_at]; exact Nat.le_refl _)
              have hcg2 := TW_congr (size := size) (parts := parts) (B := IM size parts (updN w2 j (parts.getD j []).length)) (nx := ((parts.length + 1 : Nat) : Int)) (m := j) (a := updN at2 j (parts.getD j []).length) (w := w2) (a' := at2) (w' := updN w2 j (parts.getD j []).length) (fun i hi => updN_ne (by omega)) (fun i hi => (updN_ne (by omega)).symm)
              rw [updN_at, hcg2] at hw2
              have hg4 := good_close hg2 ((j + 1 : Nat) : Int)
              rw [hw2] at hg4
              have hwl2 : ∀ i, i < parts.length → updN w2 j (parts.getD j []).length i ≤ (parts.getD i []).length := fun i hi => by
                by_cases e : i = j
                · subst e; rw [updN_at]; omega
                · rw [updN_ne e]; exact hwl i hi
              have hwa3 : ∀ i, i < j → updN w2 j (parts.getD j []).length i ≤ at2 i := fun i hi => by rw [updN_ne (by omega)]; exact hwa2 i (by omega)
              have hwe2 : ∀ i, i < parts.length → j ≤ i → updN w2 j (parts.getD j []).length i = (parts.getD i []).length := fun i hi h => by
                by_cases e : i = j
                · subst e; rw [updN_at]
                · rw [updN_ne e]; exact hwe i hi (by omega)
              refine J.condT rfl rfl ?_
              refine J.skip rfl ?_
              refine J.seq rfl ?_
              refine J.block rfl ?_
              refine J.seq rfl ?_
              refine J.mask1 (n := 25) [] rfl Try.mixed rfl (by kernel_rfl) ?_
              refine JM.take 0 (fun _ h => h.tail) rfl (by kernel_rfl) rfl rfl rfl (m' := 1) rfl (Pur.move rfl) ?_
              refine JM.take 1 (fun _ h => h.tail) rfl (by kernel_rfl) rfl rfl rfl (m' := 3) rfl (Pur.move rfl) ?_
              refine JM.take 2 (fun _ h => h.tail) rfl (by kernel_rfl) rfl rfl rfl (m' := 7) rfl (Pur.move rfl) ?_
              refine JM.take 3 (fun _ h => h.tail) rfl (by kernel_rfl) rfl rfl rfl (m' := 15) rfl (Pur.idx rfl rfl rfl (by first | rfl | (simp; done) | omega) (show ((j + 1 : Nat) : Int) - 1 = (j : Int) by omega) (by rw [natsL_len]; omega)) ?_
              refine JM.take 4 (fun _ h => h.tail) rfl (by kernel_rfl) rfl rfl rfl (m' := 31) rfl (Pur.load rfl (CellIn.el0 rfl hopg rfl)) ?_
              refine JM.take 5 (fun _ h => h.tail) rfl (by kernel_rfl) rfl rfl rfl (m' := 63) rfl (Pur.move rfl) ?_
              refine JM.take 6 (fun _ h => h.tail) rfl (by kernel_rfl) rfl rfl rfl (m' := 127) rfl (Pur.move rfl) ?_
              refine JM.take 7 (fun _ h => h.tail) rfl (by kernel_rfl) rfl rfl rfl (m' := 255) rfl (Pur.idx rfl rfl rfl (by first | rfl | (simp; done) | omega) (show ((j + 1 : Nat) : Int) - 1 = (j : Int) by omega) (by omega)) ?_
              refine JM.take 8 (fun _ h => h.tail) rfl (by kernel_rfl) rfl rfl rfl (m' := 511) rfl (Pur.load rfl (CellIn.el0 rfl hH rfl)) ?_
              refine JM.take 9 (fun _ h => h.tail) rfl (by kernel_rfl) rfl rfl rfl (m' := 1023) rfl (Pur.move rfl) ?_
              refine JM.take 10 (fun _ h => h.tail) rfl (by kernel_rfl) rfl rfl rfl (m' := 2047) rfl (Pur.move rfl) ?_
              refine JM.take 11 (fun _ h => h.tail) rfl (by kernel_rfl) rfl rfl rfl (m' := 4095) rfl (Pur.idx rfl rfl rfl (by first | rfl | (simp; done) | omega) (show ((j + 1 : Nat) : Int) - 1 = (j : Int) by omega) (by rw [natsL_len]; omega)) ?_
              refine JM.take 12 (fun _ h => h.tail) rfl (by kernel_rfl) rfl rfl rfl (m' := 8191) rfl (Pur.load rfl (CellIn.el0 rfl hatg rfl)) ?_
              refine JM.take 13 (fun _ h => h.tail) rfl (by kernel_rfl) rfl rfl rfl (m' := 16383) rfl (Pur.slice1 rfl rfl rfl (by omega) (by omega)) ?_
              refine JM.one (i := 14) (by kernel_rfl) ?_
              refine JMi.eff rfl rfl rfl rfl (m' := 32767) rfl (Eff.call rfl (@Write_ok _ _ _ _ _ _ _ ((parts.getD j []).drop (at2 j)) (SlIn.dropN (cap := hd.cap) (RowsR.row (E := byE) inferInstance hH hC) rfl (at2 j) (by omega)) (by rw [List.length_drop]; omega) (by rw [List.length_drop]; omega) (fun e => by have := hfit.1 (tail_none e); omega) parts.length hgd2 (by omega))) ?_
              rintro _ _ ⟨rfl, rfl⟩
              refine ⟨.inr (fun _ h => h.tail), ?_⟩
              rw [hw1]
              refine JM.take 15 (fun _ h => h.tail) rfl (by kernel_rfl) rfl rfl rfl (m' := 65535) rfl (Pur.neqI rfl rfl) ?_
              refine JM.setv (u' := .bool false) 212 rfl (congrArg Value.bool (rfl)) ?_
              refine JM.take 16 (fun _ h => h.tail) rfl (by kernel_rfl) rfl rfl rfl (m' := 131071) rfl (Pur.move rfl) ?_
              refine JM.take 17 (fun _ h => h.tail) rfl (by kernel_rfl) rfl rfl rfl (m' := 262143) rfl (Pur.move rfl) ?_
              refine JM.take 18 (fun _ h => h.tail) rfl (by kernel_rfl) rfl rfl rfl (m' := 524287) rfl (Pur.move rfl) ?_
              refine JM.take 19 (fun _ h => h.tail) rfl (by kernel_rfl) rfl rfl rfl (m' := 1048575) rfl (Pur.move rfl) ?_
              refine JM.take 20 (fun _ h => h.tail) rfl (by kernel_rfl) rfl rfl rfl (m' := 2097151) rfl (Pur.idx rfl rfl rfl (by first | rfl | (simp; done) | omega) (show ((j + 1 : Nat) : Int) - 1 = (j : Int) by omega) (by rw [natsL_len]; omega)) ?_
              refine JM.take 21 (fun _ h => h.tail) rfl (by kernel_rfl) rfl rfl rfl (m' := 4194303) rfl (Pur.load rfl (CellIn.el0 rfl hopg rfl)) ?_
              refine JM.one (i := 22) (by kernel_rfl) ?_
              refine JMi.eff rfl rfl rfl rfl (m' := 8388607) rfl (Eff.call rfl (Close_ok (n := ((j + 1 : Nat) : Int)) hg2 (by omega))) ?_
              rintro _ _ ⟨rfl, rfl⟩
              refine ⟨.inr (fun _ h => h.tail), ?_⟩
              rw [hw2]
              refine JM.take 23 (fun _ h => h.tail) rfl (by kernel_rfl) rfl rfl rfl (m' := 16777215) rfl (Pur.neqI rfl rfl) ?_
              refine JM.setv (u' := .bool false) 220 rfl (congrArg Value.bool (rfl)) ?_
              refine JM.take 24 (fun _ h => h.tail) rfl (by kernel_rfl) rfl rfl rfl (m' := 33554431) rfl (Pur.pickF rfl rfl) ?_
              refine JM.done rfl ?_
              refine J.condF rfl rfl ?_
              refine J.skip rfl ?_
              refine J.inBlock ?_
              refine J.region rfl ?_
              refine JO.pur rfl rfl rfl (Pur.move rfl) ?_
              refine JO.pur rfl rfl rfl (Pur.sub rfl rfl (wr64 (by omega))) ?_
              refine JO.pur rfl rfl rfl (Pur.assign rfl) ?_
              refine JO.nil ?_
              exact J.weaken (.cons rfl (congrArg (Value.int .i64) (by dsimp only; omega)) (.cons rfl rfl (.cons rfl rfl (.cons rfl rfl (.cons rfl rfl (.cons rfl rfl (.cons rfl rfl .nil))))))) (by first | exact fun _ h => h | exact SubC.out | (dsimp only; exact SubC.out)) (ih6 (j, updN w2 j (parts.getD j []).length) ⟨(by dsimp only; omega), hwl2, hwa3, hwe2, hg4⟩ (by dsimp only; omega))
            · try simp only [decide_eq_true_eq, decide_eq_false_iff_not, Bool.not_eq_true', Bool.not_eq_false', Bool.and_eq_true, Bool.or_eq_true, Bool.and_eq_false_iff, Bool.or_eq_false_iff, Option.isNone_some, Option.isSome_some, Option.isNone_none, Option.isSome_none, Int.not_lt, Int.not_le, beq_iff_eq, beq_eq_false_iff_ne, bne_iff_ne, ne_eq, Bool.not_not, Decidable.not_not] at h194
              obtain rfl : k = 0 := by omega
              refine J.condF rfl rfl ?_
              refine J.exit rfl rfl ?_
              refine J.seq rfl ?_
              refine J.seq rfl ?_
              refine J.region rfl ?_
              refine JO.pur rfl rfl rfl (Pur.assign rfl) ?_
              refine JO.nil ?_
              refine J.block rfl ?_
              refine J.loopF (ι := Nat) (fun q => q ≤ parts.length ∧ Hf.Good (Fl.mk (IM size parts (whN parts q)) ((q + 1 : Nat) : Int) []) q) (fun q => [(21, .int .i64 (q : Int))]) [(1, _), (7, _), (9, _), (11, _)] (fun q => FA p2 (Fl.mk (IM size parts (whN parts q)) ((q + 1 : Nat) : Int) []) :: FA p (TW size parts (IM size parts w2) ((parts.length + 1 : Nat) : Int) 0 at2 w2) :: sl pairE a28 c28 (cutsV size (parts.length : Int)).1 :: L) (fun q => parts.length - q) 0 rfl (.cons rfl rfl (.cons rfl rfl (.cons rfl rfl (.cons rfl rfl .nil)))) (.cons rfl rfl .nil) (fun h s => by rw [whN_zero, IM_zero]; show Sat h (FA p2 (newF []) :: FA p (TW size parts (IM size parts w2) ((parts.length + 1 : Nat) : Int) 0 at2 w2) :: sl pairE a28 c28 (cutsV size (parts.length : Int)).1 :: L); exact SubC.out h s) ⟨Nat.zero_le _, by rw [whN_zero, IM_zero]; exact good_new (bs := []) (by decide)⟩ ?_
              rintro k ⟨hk, hgh⟩ ih7
              try dsimp only
              refine J.seq rfl ?_
              refine J.seq rfl ?_
              refine J.region rfl ?_
              refine JO.pur rfl rfl rfl (Pur.move rfl) ?_
              refine JO.pur rfl rfl rfl (Pur.move rfl) ?_
              refine JO.pur rfl rfl rfl (Pur.len rfl) ?_
              refine JO.pur rfl rfl rfl (Pur.lss rfl rfl) ?_
              refine JO.nil ?_
              refine J.splitB 225 rfl (fun h225 => ?_) (fun h225 => ?_)
              · try simp only [decide_eq_true_eq, decide_eq_false_iff_not, Bool.not_eq_true', Bool.not_eq_false', Bool.and_eq_true, Bool.or_eq_true, Bool.and_eq_false_iff, Bool.or_eq_false_iff, Option.isNone_some, Option.isSome_some, Option.isNone_none, Option.isSome_none, Int.not_lt, Int.not_le, beq_iff_eq, beq_eq_false_iff_ne, bne_iff_ne, ne_eq, Bool.not_not, Decidable.not_not] at h225
                have hkp : k < parts.length := by omega
                obtain ⟨hd, hH⟩ : ∃ hd, hs[k]? = some hd := ⟨_, List.getElem?_eq_getElem (by omega)⟩
                have hC := getD_part hkp
                have hdn := hdr_n hnn hH hC
                have hcg := cut_get hok (k := k) (by omega)
                have hc1 := cut_nonneg hok (k := k) (by omega)
                have hc2 := cut_nonneg hok (k := k + 1) (by omega)
                have hcm := cut_mono hok (k := k) (by omega)
                have hyl : (parts.getD k []).length ≤ 9223372036854775807 := hpl _ (List.mem_of_getElem? hC)
                refine J.fact (fun h s => RowsR.fit (E := byE) (hs := hs) (xss := parts) s hH hC) fun hfit => ?_
                have hg3 := good_begin hgh (cutA size parts.length k) (cutA size parts.length (k + 1)) true
                rw [one_begin hok hkp] at hg3
                have hw1 := one_write hok (B := IM size parts (whN parts k)) (nx := ((k + 1 + 1 : Nat) : Int)) (hft k hkp)
                have hg4 := good_write hg3 ((k + 1 : Nat) : Int) (parts.getD k [])
                rw [hw1] at hg4
                have hw2 := one_close hok hft (nx := ((k + 1 + 1 : Nat) : Int)) (w := whN parts k) (fun i _ => whN_le parts k i) hkp (whN_at parts k)
                rw [whN_step] at hw2
                have hg5 := good_close hg4 ((k + 1 : Nat) : Int)
                rw [hw2] at hg5
                refine J.condT rfl rfl ?_
                refine J.skip rfl ?_
                refine J.seq rfl ?_
                refine J.block rfl ?_
                refine J.seq rfl ?_
                refine J.mask1 (n := 17) [] rfl Try.mixed rfl (by kernel_rfl) ?_
                refine JM.take 0 (fun _ h => h.tail) rfl (by kernel_rfl) rfl rfl rfl (m' := 1) rfl (Pur.move rfl) ?_
                refine JM.take 1 (fun _ h => h.tail) rfl (by kernel_rfl) rfl rfl rfl (m' := 3) rfl (Pur.move rfl) ?_
                refine JM.take 2 (fun _ h => h.tail) rfl (by kernel_rfl) rfl rfl rfl (m' := 7) rfl (Pur.move rfl) ?_
                refine JM.take 3 (fun _ h => h.tail) rfl (by kernel_rfl) rfl rfl rfl (m' := 15) rfl (Pur.idx rfl rfl rfl (by first | rfl | (simp; done) | omega) rfl (by rw [hcl]; omega)) ?_
                refine JM.take 4 (fun _ h => h.tail) rfl (by kernel_rfl) rfl rfl rfl (m' := 31) rfl (Pur.idxA (k := 0) rfl rfl rfl (by decide)) ?_
                refine JM.take 5 (fun _ h => h.tail) rfl (by kernel_rfl) rfl rfl rfl (m' := 63) rfl (Pur.load rfl (CellIn.el rfl hcg rfl)) ?_
                refine JM.setv (u' := .int .i64 (cutA size (parts.length : Int) k)) 234 rfl rfl ?_
                refine JM.take 6 (fun _ h => h.tail) rfl (by kernel_rfl) rfl rfl rfl (m' := 127) rfl (Pur.move rfl) ?_
                refine JM.take 7 (fun _ h => h.tail) rfl (by kernel_rfl) rfl rfl rfl (m' := 255) rfl (Pur.move rfl) ?_
                refine JM.take 8 (fun _ h => h.tail) rfl (by kernel_rfl) rfl rfl rfl (m' := 511) rfl (Pur.idx rfl rfl rfl (by first | rfl | (simp; done) | omega) rfl (by rw [hcl]; omega)) ?_
                refine JM.take 9 (fun _ h => h.tail) rfl (by kernel_rfl) rfl rfl rfl (m' := 1023) rfl (Pur.idxA (k := 1) rfl rfl rfl (by decide)) ?_
                refine JM.take 10 (fun _ h => h.tail) rfl (by kernel_rfl) rfl rfl rfl (m' := 2047) rfl (Pur.load rfl (CellIn.el rfl hcg rfl)) ?_
                refine JM.setv (u' := .int .i64 (cutA size (parts.length : Int) (k + 1))) 239 rfl rfl ?_
                refine JM.one (i := 11) (by kernel_rfl) ?_
                refine JMi.eff rfl rfl rfl rfl (m' := 4095) rfl (Eff.call rfl (Writer_ok hgh (by omega))) ?_
                rintro _ _ ⟨rfl, rfl⟩
                refine ⟨.inr (fun _ h => h.tail), ?_⟩
                rw [one_begin hok hkp]
                refine JM.take 12 (fun _ h => h.tail) rfl (by kernel_rfl) rfl rfl rfl (m' := 8191) rfl (Pur.move rfl) ?_
                refine JM.take 13 (fun _ h => h.tail) rfl (by kernel_rfl) rfl rfl rfl (m' := 16383) rfl (Pur.extract rfl rfl) ?_
                refine JM.take 14 (fun _ h => h.tail) rfl (by kernel_rfl) rfl rfl rfl (m' := 32767) rfl (Pur.extract rfl rfl) ?_
                refine JM.take 15 (fun _ h => h.tail) rfl (by kernel_rfl) rfl rfl rfl (m' := 65535) rfl (Pur.assign rfl) ?_
                refine JM.take 16 (fun _ h => h.tail) rfl (by kernel_rfl) rfl rfl rfl (m' := 131071) rfl (Pur.assign rfl) ?_
                refine JM.done rfl ?_
                refine J.seq rfl ?_
                refine J.region rfl ?_
                refine JO.pur rfl rfl rfl (Pur.move rfl) ?_
                refine JO.pur rfl rfl rfl (Pur.neqI rfl rfl) ?_
                refine JO.setv (u' := .bool false) 244 rfl (congrArg Value.bool (rfl)) ?_
                refine JO.pur rfl rfl rfl (Pur.move rfl) ?_
                refine JO.pur rfl rfl rfl (Pur.move rfl) ?_
                refine JO.pur rfl rfl rfl (Pur.move rfl) ?_
                refine JO.setv (u' := .int .i64 ((k + 1 : Nat) : Int)) 247 rfl rfl ?_
                refine JO.pur rfl rfl rfl (Pur.move rfl) ?_
                refine JO.pur rfl rfl rfl (Pur.move rfl) ?_
                refine JO.pur rfl rfl rfl (Pur.idx rfl rfl rfl (by first | rfl | (simp; done) | omega) rfl (by omega)) ?_
                refine JO.pur rfl rfl rfl (Pur.load rfl (CellIn.el0 rfl hH rfl)) ?_
                refine JO.eff rfl rfl rfl (Eff.call rfl (@Write_ok _ _ _ _ _ _ _ (parts.getD k []) (RowsR.row (E := byE) inferInstance hH hC) hdn hyl hfit.1 (k + 1) hg3 (by omega))) ?_
                rintro _ _ ⟨rfl, rfl⟩
                rw [hw1]
                refine JO.pur rfl rfl rfl (Pur.neqI rfl rfl) ?_
                refine JO.setv (u' := .bool false) 253 rfl (congrArg Value.bool (rfl)) ?_
                refine JO.pur rfl rfl rfl (Pur.pickF rfl rfl) ?_
                refine JO.pur rfl rfl rfl (Pur.move rfl) ?_
                refine JO.pur rfl rfl rfl (Pur.move rfl) ?_
                refine JO.pur rfl rfl rfl (Pur.move rfl) ?_
                refine JO.setv (u' := .int .i64 ((k + 1 : Nat) : Int)) 257 rfl rfl ?_
                refine JO.eff rfl rfl rfl (Eff.call rfl (Close_ok (n := ((k + 1 : Nat) : Int)) hg4 (by omega))) ?_
                rintro _ _ ⟨rfl, rfl⟩
                rw [hw2]
                refine JO.pur rfl rfl rfl (Pur.neqI rfl rfl) ?_
                refine JO.setv (u' := .bool false) 259 rfl (congrArg Value.bool (rfl)) ?_
                refine JO.pur rfl rfl rfl (Pur.pickF rfl rfl) ?_
                refine JO.nil ?_
                refine J.condF rfl rfl ?_
                refine J.skip rfl ?_
                refine J.inBlock ?_
                refine J.region rfl ?_
                refine JO.pur rfl rfl rfl (Pur.move rfl) ?_
                refine JO.pur rfl rfl rfl (Pur.add rfl rfl (wr64 (by omega))) ?_
                refine JO.pur rfl rfl rfl (Pur.assign rfl) ?_
                refine JO.nil ?_
                exact J.weaken (.cons rfl (congrArg (Value.int .i64) (by first | rfl | (dsimp only; omega))) (.cons rfl rfl (.cons rfl rfl (.cons rfl rfl (.cons rfl rfl .nil))))) (by first | exact fun _ h => h | exact SubC.out | (dsimp only; exact SubC.out)) (ih7 (k + 1) ⟨by omega, hg5⟩ (by omega))
              · try simp only [decide_eq_true_eq, decide_eq_false_iff_not, Bool.not_eq_true', Bool.not_eq_false', Bool.and_eq_true, Bool.or_eq_true, Bool.and_eq_false_iff, Bool.or_eq_false_iff, Option.isNone_some, Option.isSome_some, Option.isNone_none, Option.isSome_none, Int.not_lt, Int.not_le, beq_iff_eq, beq_eq_false_iff_ne, bne_iff_ne, ne_eq, Bool.not_not, Decidable.not_not] at h225
                obtain rfl : k = parts.length := by omega
                have hIM : IM size parts w2 = IM size parts (whN parts parts.length) := IM_congr (fun i hi => by rw [hwe i hi (Nat.zero_le _)]; unfold whN; rw [if_pos hi])
                refine J.condF rfl rfl ?_
                refine J.exit rfl rfl ?_
                refine J.seq rfl ?_
                refine J.imp (M := FA p (TW size parts (IM size parts w2) ((parts.length + 1 : Nat) : Int) 0 at2 w2) :: FA p2 (Fl.mk (IM size parts (whN parts parts.length)) ((parts.length + 1 : Nat) : Int) []) :: L) (fun h s => SubC.out h s) ?_
                refine J.mask2 (n := 17) [] rfl Try.mixed rfl (by kernel_rfl) ?_
                refine JM.take 0 (fun _ h => h.tail.tail) rfl (by kernel_rfl) rfl rfl rfl (m' := 1) rfl (Pur.move rfl) ?_
                refine JM.take 3 (fun _ h => h.tail.tail) rfl (by kernel_rfl) rfl rfl rfl (m' := 9) rfl (Pur.move rfl) ?_
                refine JM.one (i := 1) (by kernel_rfl) ?_
                refine JMi.eff rfl rfl rfl rfl (m' := 11) rfl (Eff.call rfl (Bytes_ok (F := (TW size parts (IM size parts w2) ((parts.length + 1 : Nat) : Int) 0 at2 w2)) (IM_len hok hft hwl))) ?_
                rintro _ _ ⟨a262, c262, rfl, rfl⟩
                refine ⟨.inr (fun _ h => h.tail.tail.tail), ?_⟩
                refine JM.imp (M := FA p2 (Fl.mk (IM size parts (whN parts parts.length)) ((parts.length + 1 : Nat) : Int) []) :: sl byE a262 c262 (TW size parts (IM size parts w2) ((parts.length + 1 : Nat) : Int) 0 at2 w2).bytes :: FA p (TW size parts (IM size parts w2) ((parts.length + 1 : Nat) : Int) 0 at2 w2) :: L) (fun h s => SubC.out h s) ?_
                refine JM.many (rs := [2, 4]) (by kernel_rfl) rfl (fun i hi => ?_)
                simp only [List.mem_cons, List.not_mem_nil, or_false] at hi
                rcases hi with rfl | rfl
                · skip
                  refine JMi.eff rfl rfl rfl rfl (m' := 15) rfl (Pur.eff (Pur.convBS (E := byE) (e := 5) (by kernel_rfl) (by kernel_rfl) (by kernel_rfl) rfl rfl rfl (fun _ => rfl))) ?_
                  rintro _ _ ⟨rfl, rfl⟩
                  refine ⟨.inr (fun _ h => h.tail.tail.tail), ?_⟩
                  refine JM.one (i := 4) (by kernel_rfl) ?_
                  refine JMi.eff rfl rfl rfl rfl (m' := 31) rfl (Eff.call rfl (Bytes_ok (F := (Fl.mk (IM size parts (whN parts parts.length)) ((parts.length + 1 : Nat) : Int) [])) (IM_len hok hft (fun i _ => whN_le parts parts.length i)))) ?_
                  rintro _ _ ⟨a265, c265, rfl, rfl⟩
                  refine ⟨.inr (fun _ h => h.tail.tail.tail.tail), ?_⟩
                  refine JM.imp (M := FA p (TW size parts (IM size parts w2) ((parts.length + 1 : Nat) : Int) 0 at2 w2) :: sl byE a265 c265 (Fl.mk (IM size parts (whN parts parts.length)) ((parts.length + 1 : Nat) : Int) []).bytes :: sl byE a262 c262 (TW size parts (IM size parts w2) ((parts.length + 1 : Nat) : Int) 0 at2 w2).bytes :: FA p2 (Fl.mk (IM size parts (whN parts parts.length)) ((parts.length + 1 : Nat) : Int) []) :: L) (fun h s => SubC.out h s) ?_
                  refine JM.one (i := 5) (by kernel_rfl) ?_
                  refine JMi.eff rfl rfl rfl rfl (m' := 63) rfl (Pur.eff (Pur.convBS (E := byE) (e := 5) (by kernel_rfl) (by kernel_rfl) (by kernel_rfl) rfl rfl rfl (fun _ => rfl))) ?_
                  rintro _ _ ⟨rfl, rfl⟩
                  refine ⟨.inr (fun _ h => h.tail.tail.tail.tail), ?_⟩
                  refine JM.take 6 (fun _ h => h.tail.tail.tail.tail) rfl (by kernel_rfl) rfl rfl rfl (m' := 127) rfl (Pur.eqlT rfl rfl) ?_
                  refine JM.setv (u' := .bool true) 267 rfl (congrArg Value.bool (decide_eq_true (congrArg strB hIM))) ?_
                  refine JM.take 7 (fun _ h => h.tail.tail.tail.tail) rfl (by kernel_rfl) rfl rfl rfl (m' := 255) rfl (Pur.move rfl) ?_
                  refine JM.take 8 (fun _ h => h.tail.tail.tail.tail) rfl (by kernel_rfl) rfl rfl rfl (m' := 511) rfl (Pur.move rfl) ?_
                  refine JM.one (i := 9) (by kernel_rfl) ?_
                  refine JMi.eff rfl rfl rfl rfl (m' := 1023) rfl (Eff.call rfl (Open_ok (ns := []) hgd2 (by omega) (List.Perm.refl _) List.Pairwise.nil)) ?_
                  rintro _ _ ⟨a270, c270, rfl, rfl⟩
                  refine ⟨.inr (fun _ h => h.tail.tail.tail.tail.tail), ?_⟩
                  refine JM.take 10 (fun _ h => h.tail.tail.tail.tail.tail) rfl (by kernel_rfl) rfl rfl rfl (m' := 2047) rfl (Pur.len rfl) ?_
                  refine JM.take 11 (fun _ h => h.tail.tail.tail.tail.tail) rfl (by kernel_rfl) rfl rfl rfl (m' := 4095) rfl (Pur.eqlI rfl rfl) ?_
                  refine JM.setv (u' := .bool true) 272 rfl (congrArg Value.bool (rfl)) ?_
                  refine JM.take 12 (fun _ h => h.tail.tail.tail.tail.tail) rfl (by kernel_rfl) rfl rfl rfl (m' := 8191) rfl (Pur.pickT rfl rfl) ?_
                  refine JM.take 13 (fun _ h => h.tail.tail.tail.tail.tail) rfl (by kernel_rfl) rfl rfl rfl (m' := 16383) rfl (Pur.move rfl) ?_
                  refine JM.one (i := 14) (by kernel_rfl) ?_
                  refine JMi.effR (fun _ h => h.tail.tail.tail.tail.tail) rfl rfl rfl rfl (m' := 32767) rfl (Eff.call rfl (first_ok)) ?_
                  refine JM.setv (u' := .bool true) 275 rfl (congrArg Value.bool (rfl)) ?_
                  refine JM.take 15 (fun _ h => h.tail.tail.tail.tail.tail) rfl (by kernel_rfl) rfl rfl rfl (m' := 65535) rfl (Pur.pickT rfl rfl) ?_
                  refine JM.take 16 (fun _ h => h.tail.tail.tail.tail.tail) rfl (by kernel_rfl) rfl rfl rfl (m' := 131071) rfl (Pur.assign rfl) ?_
                  refine JM.done rfl ?_
                  refine J.ret rfl rfl ?_
                  exact ⟨_, _, ⟨rfl, rfl⟩, rfl, SubC.out⟩
                · skip
                  refine JMi.eff rfl rfl rfl rfl (m' := 27) rfl (Eff.call rfl (Bytes_ok (F := (Fl.mk (IM size parts (whN parts parts.length)) ((parts.length + 1 : Nat) : Int) [])) (IM_len hok hft (fun i _ => whN_le parts parts.length i)))) ?_
                  rintro _ _ ⟨a265, c265, rfl, rfl⟩
                  refine ⟨.inr (fun _ h => h.tail.tail.tail.tail), ?_⟩
                  refine JM.imp (M := FA p (TW size parts (IM size parts w2) ((parts.length + 1 : Nat) : Int) 0 at2 w2) :: sl byE a265 c265 (Fl.mk (IM size parts (whN parts parts.length)) ((parts.length + 1 : Nat) : Int) []).bytes :: sl byE a262 c262 (TW size parts (IM size parts w2) ((parts.length + 1 : Nat) : Int) 0 at2 w2).bytes :: FA p2 (Fl.mk (IM size parts (whN parts parts.length)) ((parts.length + 1 : Nat) : Int) []) :: L) (fun h s => SubC.out h s) ?_
                  refine JM.many (rs := [2, 5]) (by kernel_rfl) rfl (fun i hi => ?_)
                  simp only [List.mem_cons, List.not_mem_nil, or_false] at hi
                  rcases hi with rfl | rfl
                  · skip
                    refine JMi.eff rfl rfl rfl rfl (m' := 31) rfl (Pur.eff (Pur.convBS (E := byE) (e := 5) (by kernel_rfl) (by kernel_rfl) (by kernel_rfl) rfl rfl rfl (fun _ => rfl))) ?_
                    rintro _ _ ⟨rfl, rfl⟩
                    refine ⟨.inr (fun _ h => h.tail.tail.tail.tail), ?_⟩
                    refine JM.one (i := 5) (by kernel_rfl) ?_
                    refine JMi.eff rfl rfl rfl rfl (m' := 63) rfl (Pur.eff (Pur.convBS (E := byE) (e := 5) (by kernel_rfl) (by kernel_rfl) (by kernel_rfl) rfl rfl rfl (fun _ => rfl))) ?_
                    rintro _ _ ⟨rfl, rfl⟩
                    refine ⟨.inr (fun _ h => h.tail.tail.tail.tail), ?_⟩
                    refine JM.take 6 (fun _ h => h.tail.tail.tail.tail) rfl (by kernel_rfl) rfl rfl rfl (m' := 127) rfl (Pur.eqlT rfl rfl) ?_
                    refine JM.setv (u' := .bool true) 267 rfl (congrArg Value.bool (decide_eq_true (congrArg strB hIM))) ?_
                    refine JM.take 7 (fun _ h => h.tail.tail.tail.tail) rfl (by kernel_rfl) rfl rfl rfl (m' := 255) rfl (Pur.move rfl) ?_
                    refine JM.take 8 (fun _ h => h.tail.tail.tail.tail) rfl (by kernel_rfl) rfl rfl rfl (m' := 511) rfl (Pur.move rfl) ?_
                    refine JM.one (i := 9) (by kernel_rfl) ?_
                    refine JMi.eff rfl rfl rfl rfl (m' := 1023) rfl (Eff.call rfl (Open_ok (ns := []) hgd2 (by omega) (List.Perm.refl _) List.Pairwise.nil)) ?_
                    rintro _ _ ⟨a270, c270, rfl, rfl⟩
                    refine ⟨.inr (fun _ h => h.tail.tail.tail.tail.tail), ?_⟩
                    refine JM.take 10 (fun _ h => h.tail.tail.tail.tail.tail) rfl (by kernel_rfl) rfl rfl rfl (m' := 2047) rfl (Pur.len rfl) ?_
                    refine JM.take 11 (fun _ h => h.tail.tail.tail.tail.tail) rfl (by kernel_rfl) rfl rfl rfl (m' := 4095) rfl (Pur.eqlI rfl rfl) ?_
                    refine JM.setv (u' := .bool true) 272 rfl (congrArg Value.bool (rfl)) ?_
                    refine JM.take 12 (fun _ h => h.tail.tail.tail.tail.tail) rfl (by kernel_rfl) rfl rfl rfl (m' := 8191) rfl (Pur.pickT rfl rfl) ?_
                    refine JM.take 13 (fun _ h => h.tail.tail.tail.tail.tail) rfl (by kernel_rfl) rfl rfl rfl (m' := 16383) rfl (Pur.move rfl) ?_
                    refine JM.one (i := 14) (by kernel_rfl) ?_
                    refine JMi.effR (fun _ h => h.tail.tail.tail.tail.tail) rfl rfl rfl rfl (m' := 32767) rfl (Eff.call rfl (first_ok)) ?_
                    refine JM.setv (u' := .bool true) 275 rfl (congrArg Value.bool (rfl)) ?_
                    refine JM.take 15 (fun _ h => h.tail.tail.tail.tail.tail) rfl (by kernel_rfl) rfl rfl rfl (m' := 65535) rfl (Pur.pickT rfl rfl) ?_
                    refine JM.take 16 (fun _ h => h.tail.tail.tail.tail.tail) rfl (by kernel_rfl) rfl rfl rfl (m' := 131071) rfl (Pur.assign rfl) ?_
                    refine JM.done rfl ?_
                    refine J.ret rfl rfl ?_
                    exact ⟨_, _, ⟨rfl, rfl⟩, rfl, SubC.out⟩
                  · skip
                    refine JMi.eff rfl rfl rfl rfl (m' := 59) rfl (Pur.eff (Pur.convBS (E := byE) (e := 5) (by kernel_rfl) (by kernel_rfl) (by kernel_rfl) rfl rfl rfl (fun _ => rfl))) ?_
                    rintro _ _ ⟨rfl, rfl⟩
                    refine ⟨.inr (fun _ h => h.tail.tail.tail.tail), ?_⟩
                    refine JM.one (i := 2) (by kernel_rfl) ?_
                    refine JMi.eff rfl rfl rfl rfl (m' := 63) rfl (Pur.eff (Pur.convBS (E := byE) (e := 5) (by kernel_rfl) (by kernel_rfl) (by kernel_rfl) rfl rfl rfl (fun _ => rfl))) ?_
                    rintro _ _ ⟨rfl, rfl⟩
                    refine ⟨.inr (fun _ h => h.tail.tail.tail.tail), ?_⟩
                    refine JM.take 6 (fun _ h => h.tail.tail.tail.tail) rfl (by kernel_rfl) rfl rfl rfl (m' := 127) rfl (Pur.eqlT rfl rfl) ?_
                    refine JM.setv (u' := .bool true) 267 rfl (congrArg Value.bool (decide_eq_true (congrArg strB hIM))) ?_
                    refine JM.take 7 (fun _ h => h.tail.tail.tail.tail) rfl (by kernel_rfl) rfl rfl rfl (m' := 255) rfl (Pur.move rfl) ?_
                    refine JM.take 8 (fun _ h => h.tail.tail.tail.tail) rfl (by kernel_rfl) rfl rfl rfl (m' := 511) rfl (Pur.move rfl) ?_
                    refine JM.one (i := 9) (by kernel_rfl) ?_
                    refine JMi.eff rfl rfl rfl rfl (m' := 1023) rfl (Eff.call rfl (Open_ok (ns := []) hgd2 (by omega) (List.Perm.refl _) List.Pairwise.nil)) ?_
                    rintro _ _ ⟨a270, c270, rfl, rfl⟩
                    refine ⟨.inr (fun _ h => h.tail.tail.tail.tail.tail), ?_⟩
                    refine JM.take 10 (fun _ h => h.tail.tail.tail.tail.tail) rfl (by kernel_rfl) rfl rfl rfl (m' := 2047) rfl (Pur.len rfl) ?_
                    refine JM.take 11 (fun _ h => h.tail.tail.tail.tail.tail) rfl (by kernel_rfl) rfl rfl rfl (m' := 4095) rfl (Pur.eqlI rfl rfl) ?_
                    refine JM.setv (u' := .bool true) 272 rfl (congrArg Value.bool (rfl)) ?_
                    refine JM.take 12 (fun _ h => h.tail.tail.tail.tail.tail) rfl (by kernel_rfl) rfl rfl rfl (m' := 8191) rfl (Pur.pickT rfl rfl) ?_
                    refine JM.take 13 (fun _ h => h.tail.tail.tail.tail.tail) rfl (by kernel_rfl) rfl rfl rfl (m' := 16383) rfl (Pur.move rfl) ?_
                    refine JM.one (i := 14) (by kernel_rfl) ?_
                    refine JMi.effR (fun _ h => h.tail.tail.tail.tail.tail) rfl rfl rfl rfl (m' := 32767) rfl (Eff.call rfl (first_ok)) ?_
                    refine JM.setv (u' := .bool true) 275 rfl (congrArg Value.bool (rfl)) ?_
                    refine JM.take 15 (fun _ h => h.tail.tail.tail.tail.tail) rfl (by kernel_rfl) rfl rfl rfl (m' := 65535) rfl (Pur.pickT rfl rfl) ?_
                    refine JM.take 16 (fun _ h => h.tail.tail.tail.tail.tail) rfl (by kernel_rfl) rfl rfl rfl (m' := 131071) rfl (Pur.assign rfl) ?_
                    refine JM.done rfl ?_
                    refine J.ret rfl rfl ?_
                    exact ⟨_, _, ⟨rfl, rfl⟩, rfl, SubC.out⟩

end Go.Proofs.Ytgbckamaenapeaa
