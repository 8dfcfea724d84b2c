/-
  A part of the proof of the claim that this folder bears.
-/
import Derived.Test.YtgbckamaenapeaaPAL
/- The text HTog. -/
set_option linter.unusedVariables false
set_option linter.unusedSimpArgs false
set_option maxRecDepth 10000
namespace Go.Proofs.Ytgbckamaenapeaa
open Go Go.KK Hf

theorem Together_ok {L : List Asn} {a : Option Addr} {n cap : Nat} {hs : List Hdr} {parts : List (List UInt8)} [SlIn hbE L a hs] [RowsR byE L hs parts] (hn : n = hs.length) (size : Int) :
    CallS Try.prog 14 [.int .i64 size, .slice a n cap].toArray L (fun v M => ∃ a' c', v = .tuple #[.slice a' (togV size parts).1.length c', .int .i64 (togV size parts).2] ∧ M = sl byE a' c' (togV size parts).1 :: L) := by
  subst hn
  refine CallS.fact (fun h s => RowsR.len (E := byE) (hs := hs) (xss := parts) s) fun hnn => ?_
  have hhl : hs.length = parts.length := rows_len hnn
  refine CallS.ent ?_
  refine CallS.enter Try.func14 rfl rfl rfl rfl rfl ?_
  refine J.seq rfl ?_
  refine J.region rfl ?_
  refine JO.pur rfl rfl rfl (Pur.assign rfl) ?_
  refine JO.pur rfl rfl rfl (Pur.assign rfl) ?_
  refine JO.nil ?_
  refine J.seq rfl ?_
  refine J.region rfl ?_
  refine JO.pur rfl rfl rfl (Pur.move rfl) ?_
  refine JO.pur rfl rfl rfl (Pur.move rfl) ?_
  refine JO.pur rfl rfl rfl (Pur.len rfl) ?_
  refine JO.eff rfl rfl rfl (Eff.call rfl (Cuts_ok size (hs.length : Int))) ?_
  rintro _ _ ⟨a6, c6, rfl, rfl⟩
  rw [hhl]
  refine JO.pur rfl rfl rfl (Pur.move rfl) ?_
  refine JO.pur rfl rfl rfl (Pur.extract rfl rfl) ?_
  refine JO.pur rfl rfl rfl (Pur.extract rfl rfl) ?_
  refine JO.pur rfl rfl rfl (Pur.assign rfl) ?_
  refine JO.pur rfl rfl rfl (Pur.assign rfl) ?_
  refine JO.nil ?_
  refine J.seq rfl ?_
  refine J.seq rfl ?_
  refine J.region rfl ?_
  refine JO.pur rfl rfl rfl (Pur.move rfl) ?_
  refine JO.pur rfl rfl rfl (Pur.neqI rfl rfl) ?_
  refine JO.nil ?_
  refine J.splitB 19 rfl (fun h19 => ?_) (fun h19 => ?_)
  · try simp only [decide_eq_true_eq, decide_eq_false_iff_not, Bool.not_eq_true', Bool.not_eq_false', Bool.and_eq_true, Bool.or_eq_true, Bool.and_eq_false_iff, Bool.or_eq_false_iff, Option.isNone_some, Option.isSome_some, Option.isNone_none, Option.isSome_none, Int.not_lt, Int.not_le, beq_iff_eq, beq_eq_false_iff_ne, bne_iff_ne, ne_eq, Bool.not_not, Decidable.not_not] at h19
    have hbad : badC size parts.length := by by_cases hb : badC size parts.length; exact hb; exact absurd (cut_err hb) h19
    refine J.condT rfl rfl ?_
    refine J.seq rfl ?_
    refine J.region rfl ?_
    refine JO.pur rfl rfl rfl (Pur.move rfl) ?_
    refine JO.pur rfl rfl rfl (Pur.assign rfl) ?_
    refine JO.pur rfl rfl rfl (Pur.assign rfl) ?_
    refine JO.nil ?_
    refine J.ret rfl rfl ?_
    have hc2 : (cutsV size (parts.length : Int)).2 = 2 := by rw [cut_bad hbad]
    refine ⟨.tuple #[.slice none 0 0, .int .i64 2], _, ⟨none, 0, by rw [togV_bad hbad]; rfl, rfl⟩, by rw [← hc2]; rfl, fun h s => ?_⟩
    rw [togV_bad hbad]
    exact sl_nil_new (SubC.out h s)
  · try simp only [decide_eq_true_eq, decide_eq_false_iff_not, Bool.not_eq_true', Bool.not_eq_false', Bool.and_eq_true, Bool.or_eq_true, Bool.and_eq_false_iff, Bool.or_eq_false_iff, Option.isNone_some, Option.isSome_some, Option.isNone_none, Option.isSome_none, Int.not_lt, Int.not_le, beq_iff_eq, beq_eq_false_iff_ne, bne_iff_ne, ne_eq, Bool.not_not, Decidable.not_not] at h19
    have hok := cut_of (size := size) (n := parts.length) (by simpa using h19)
    have hin := cut_in hok
    have hcl := cut_len hok
    refine J.condF rfl rfl ?_
    refine J.skip rfl ?_
    refine J.seq rfl ?_
    have hsz : size = ((size.toNat : Nat) : Int) := by omega
    refine J.region rfl ?_
    refine JO.pur rfl rfl rfl (Pur.move rfl) ?_
    refine JO.eff rfl rfl rfl (Eff.make byE 0 (n := size.toNat) (by first | exact congrArg (fun z => some (Value.int .i64 z)) hsz | rfl) (by first | exact congrArg (fun z => some (Value.int .i64 z)) hsz | rfl) rfl rfl rfl (by decide) (by omega) (by omega)) ?_
    rintro _ _ ⟨b22, rfl, rfl⟩
    refine JO.pur rfl rfl rfl (Pur.assign rfl) ?_
    refine JO.nil ?_
    refine J.seq rfl ?_
    refine J.seq rfl ?_
    refine J.region rfl ?_
    refine JO.pur rfl rfl rfl (Pur.move rfl) ?_
    refine JO.pur rfl rfl rfl (Pur.len rfl) ?_
    refine JO.pur rfl rfl rfl (Pur.move rfl) ?_
    refine JO.nil ?_
    refine J.block rfl ?_
    refine J.loopF (ι := Nat) (fun q => q ≤ parts.length ∧ ∀ j, j < q → fits size parts j) (fun q => [(25, .int .i64 (q : Int))]) [(6, _), (8, _), (23, _), (24, _)] (fun q => sl byE (some ⟨b22, 0, none⟩) size.toNat (togB size parts q) :: sl pairE a6 c6 (cutsV size (parts.length : Int)).1 :: L) (fun q => parts.length - q) 0 rfl (.cons rfl rfl (.cons rfl rfl (.cons rfl rfl (.cons rfl rfl .nil)))) (.cons rfl rfl .nil) (by first | exact fun _ h => h | exact SubC.out | (dsimp only; exact SubC.out)) ⟨Nat.zero_le _, fun j hj => by omega⟩ ?_
    rintro k ⟨hk, hft⟩ ih0
    try dsimp only
    have hbl := togB_len hok hk hft
    refine J.seq rfl ?_
    refine J.region rfl ?_
    refine JO.pur rfl rfl rfl (Pur.lss rfl rfl) ?_
    refine JO.nil ?_
    refine J.seq rfl ?_
    refine J.splitB 26 rfl (fun h26 => ?_) (fun h26 => ?_)
    · try simp only [decide_eq_true_eq, decide_eq_false_iff_not, Bool.not_eq_true', Bool.not_eq_false', Bool.and_eq_true, Bool.or_eq_true, Bool.and_eq_false_iff, Bool.or_eq_false_iff, Option.isNone_some, Option.isSome_some, Option.isNone_none, Option.isSome_none, Int.not_lt, Int.not_le, beq_iff_eq, beq_eq_false_iff_ne, bne_iff_ne, ne_eq, Bool.not_not, Decidable.not_not] at h26
      have hkp : k < parts.length := by omega
      obtain ⟨hd, hH⟩ : ∃ hd, hs[k]? = some hd := ⟨_, List.getElem?_eq_getElem (by omega)⟩
      have hC := getD_part hkp
      have hdn := hdr_n hnn hH hC
      have hcg := cut_get hok (k := k) (by omega)
      have hc1 := cut_nonneg hok (k := k) (by omega)
      have hc2 := cut_nonneg hok (k := k + 1) (by omega)
      have hcm := cut_mono hok (k := k) (by omega)
      refine J.condT rfl rfl ?_
      refine J.skip rfl ?_
      refine J.seq rfl ?_
      refine J.block rfl ?_
      refine J.seq rfl ?_
      refine J.region rfl ?_
      refine JO.pur rfl rfl rfl (Pur.move rfl) ?_
      refine JO.pur rfl rfl rfl (Pur.idx rfl rfl rfl (by first | rfl | (simp; done) | omega) rfl (by omega)) ?_
      refine JO.pur rfl rfl rfl (Pur.load rfl (CellIn.el0 rfl hH rfl)) ?_
      refine JO.pur rfl rfl rfl (Pur.assign rfl) ?_
      refine JO.pur rfl rfl rfl (Pur.assign rfl) ?_
      refine JO.nil ?_
      refine J.seq rfl ?_
      refine J.seq rfl ?_
      refine J.quiet rfl Try.mixed (by kernel_rfl) ?_
      refine JQ.pur rfl rfl rfl (Pur.move rfl) ?_
      refine JQ.pur rfl rfl rfl (Pur.len rfl) ?_
      refine JQ.pur rfl rfl rfl (Pur.move rfl) ?_
      refine JQ.pur rfl rfl rfl (Pur.move rfl) ?_
      refine JQ.pur rfl rfl rfl (Pur.idx rfl rfl rfl (by first | rfl | (simp; done) | omega) rfl (by omega)) ?_
      refine JQ.pur rfl rfl rfl (Pur.idxA (k := 1) rfl rfl rfl (by decide)) ?_
      refine JQ.pur rfl rfl rfl (Pur.load rfl (CellIn.el rfl hcg rfl)) ?_
      refine JQ.setv (u' := .int .i64 (cutA size (parts.length : Int) (k + 1))) 36 rfl rfl ?_
      refine JQ.pur rfl rfl rfl (Pur.move rfl) ?_
      refine JQ.pur rfl rfl rfl (Pur.move rfl) ?_
      refine JQ.pur rfl rfl rfl (Pur.idx rfl rfl rfl (by first | rfl | (simp; done) | omega) rfl (by omega)) ?_
      refine JQ.pur rfl rfl rfl (Pur.idxA (k := 0) rfl rfl rfl (by decide)) ?_
      refine JQ.pur rfl rfl rfl (Pur.load rfl (CellIn.el rfl hcg rfl)) ?_
      refine JQ.setv (u' := .int .i64 (cutA size (parts.length : Int) k)) 41 rfl rfl ?_
      refine JQ.pur rfl rfl rfl (Pur.sub rfl rfl (wr64 (by omega))) ?_
      refine JQ.pur rfl rfl rfl (Pur.gtr rfl rfl) ?_
      refine JQ.nil ?_
      refine J.splitB 43 rfl (fun h43 => ?_) (fun h43 => ?_)
      · try simp only [decide_eq_true_eq, decide_eq_false_iff_not, Bool.not_eq_true', Bool.not_eq_false', Bool.and_eq_true, Bool.or_eq_true, Bool.and_eq_false_iff, Bool.or_eq_false_iff, Option.isNone_some, Option.isSome_some, Option.isNone_none, Option.isSome_none, Int.not_lt, Int.not_le, beq_iff_eq, beq_eq_false_iff_ne, bne_iff_ne, ne_eq, Bool.not_not, Decidable.not_not] at h43
        have hnf : ¬ fits size parts k := by unfold fits; omega
        refine J.condT rfl rfl ?_
        refine J.seq rfl ?_
        refine J.region rfl ?_
        refine JO.pur rfl rfl rfl (Pur.assign rfl) ?_
        refine JO.pur rfl rfl rfl (Pur.assign rfl) ?_
        refine JO.nil ?_
        refine J.ret rfl rfl ?_
        refine ⟨_, _, ⟨none, 0, by rw [togV_no hok hkp hnf]; rfl, rfl⟩, rfl, fun h s => ?_⟩
        rw [togV_no hok hkp hnf]
        exact sl_nil_new (SubC.out h s)
      · try simp only [decide_eq_true_eq, decide_eq_false_iff_not, Bool.not_eq_true', Bool.not_eq_false', Bool.and_eq_true, Bool.or_eq_true, Bool.and_eq_false_iff, Bool.or_eq_false_iff, Option.isNone_some, Option.isSome_some, Option.isNone_none, Option.isSome_none, Int.not_lt, Int.not_le, beq_iff_eq, beq_eq_false_iff_ne, bne_iff_ne, ne_eq, Bool.not_not, Decidable.not_not] at h43
        have hfk : fits size parts k := by unfold fits; omega
        have hft2 : ∀ j, j < k + 1 → fits size parts j := fun j hj => by
          rcases Nat.lt_or_ge j k with h | h
          · exact hft j h
          · rw [show j = k by omega]; exact hfk
        have hfe := fit_end hok hkp hfk
        refine J.condF rfl rfl ?_
        refine J.skip rfl ?_
        refine J.fact (fun h s => SlH.le (a := some ⟨b22, 0, none⟩) (cap := size.toNat) (E := byE) s) fun hcap => ?_
        refine J.region rfl ?_
        refine JO.pur rfl rfl rfl (Pur.move rfl) ?_
        refine JO.pur rfl rfl rfl (Pur.move rfl) ?_
        refine JO.pur rfl rfl rfl (Pur.move rfl) ?_
        refine JO.pur rfl rfl rfl (Pur.idx rfl rfl rfl (by first | rfl | (simp; done) | omega) rfl (by omega)) ?_
        refine JO.pur rfl rfl rfl (Pur.idxA (k := 0) rfl rfl rfl (by decide)) ?_
        refine JO.pur rfl rfl rfl (Pur.load rfl (CellIn.el rfl hcg rfl)) ?_
        refine JO.setv (u' := .int .i64 (cutA size (parts.length : Int) k)) 49 rfl rfl ?_
        refine JO.pur rfl rfl rfl (Pur.slice1 rfl rfl (Int.toNat_of_nonneg hc1.1).symm (by omega) (by omega)) ?_
        refine JO.pur rfl rfl rfl (Pur.move rfl) ?_
        refine JO.eff rfl rfl rfl (Eff.copyT (E := byE) (xs := togB size parts k) (ys := (parts.getD k [])) (hi := RowsR.row (E := byE) inferInstance hH hC) rfl rfl rfl rfl hbl.symm hdn (by omega)) ?_
        rintro _ _ ⟨rfl, rfl⟩
        refine JO.nil ?_
        refine J.inBlock ?_
        refine J.region rfl ?_
        refine JO.pur rfl rfl rfl (Pur.add rfl rfl (wr64 (by omega))) ?_
        refine JO.pur rfl rfl rfl (Pur.move rfl) ?_
        refine JO.nil ?_
        exact J.weaken (.cons rfl (congrArg (Value.int .i64) (by first | rfl | (dsimp only; omega))) (.cons rfl rfl (.cons rfl rfl (.cons rfl rfl (.cons rfl rfl .nil))))) (fun h s => by rw [togB]; exact SubC.out h s) (ih0 (k + 1) ⟨(by omega), hft2⟩ (by omega))
    · try simp only [decide_eq_true_eq, decide_eq_false_iff_not, Bool.not_eq_true', Bool.not_eq_false', Bool.and_eq_true, Bool.or_eq_true, Bool.and_eq_false_iff, Bool.or_eq_false_iff, Option.isNone_some, Option.isSome_some, Option.isNone_none, Option.isSome_none, Int.not_lt, Int.not_le, beq_iff_eq, beq_eq_false_iff_ne, bne_iff_ne, ne_eq, Bool.not_not, Decidable.not_not] at h26
      refine J.condF rfl rfl ?_
      refine J.exit rfl rfl ?_
      refine J.seq rfl ?_
      refine J.region rfl ?_
      refine JO.pur rfl rfl rfl (Pur.move rfl) ?_
      refine JO.pur rfl rfl rfl (Pur.assign rfl) ?_
      refine JO.pur rfl rfl rfl (Pur.assign rfl) ?_
      refine JO.nil ?_
      refine J.ret rfl rfl ?_
      obtain rfl : k = parts.length := by omega
      have hv := togV_yes hok hft
      refine ⟨_, _, ⟨some ⟨b22, 0, none⟩, size.toNat, by rw [hv, hbl]; rfl, rfl⟩, rfl, fun h s => ?_⟩
      rw [hv]
      exact SubC.out h s

theorem spl_set {α : Type} {xs ys : List α} {j i : Nat} {y : α} (h : j + ys.length ≤ xs.length) (hi : ys[i]? = some y) : (spl xs j (ys.take i)).set (j + i) y = spl xs j (ys.take (i + 1)) := by
  have hil : i < ys.length := (List.getElem?_eq_some_iff.1 hi).1
  have e1 : (ys.take i).length = i := by rw [List.length_take]; omega
  have e2 : (ys.take (i + 1)).length = i + 1 := by rw [List.length_take]; omega
  have e3 : (xs.take j).length = j := by rw [List.length_take]; omega
  unfold spl
  rw [e1, e2, List.take_add_one, hi, Option.toList_some]
  have e4 : xs.drop (j + i) = xs[j + i]'(by omega) :: xs.drop (j + (i + 1)) := by rw [List.drop_eq_getElem_cons (by omega)]; rfl
  rw [e4, List.set_append_right _ _ (by simp; omega)]
  rw [List.length_append, e3, e1, Nat.sub_self, List.set_cons_zero]
  simp
theorem rTogether_ok {L : List Asn} {a : Option Addr} {n cap : Nat} {hs : List Hdr} {parts : List (List UInt8)} [SlIn hbE L a hs] [RowsR byE L hs parts] (hn : n = hs.length) (size : Int) :
    CallS Try.prog 15 [.int .i64 size, .slice a n cap].toArray L (fun v M => ∃ a' c', v = .tuple #[.slice a' (togV size parts).1.length c', .int .i64 (togV size parts).2] ∧ M = sl byE a' c' (togV size parts).1 :: L) := by
  subst hn
  refine CallS.fact (fun h s => RowsR.len (E := byE) (hs := hs) (xss := parts) s) fun hnn => ?_
  have hhl : hs.length = parts.length := rows_len hnn
  refine CallS.ent ?_
  refine CallS.enter Try.func15 rfl rfl rfl rfl rfl ?_
  refine J.seq rfl ?_
  refine J.region rfl ?_
  refine JO.pur rfl rfl rfl (Pur.assign rfl) ?_
  refine JO.pur rfl rfl rfl (Pur.assign rfl) ?_
  refine JO.nil ?_
  refine J.seq rfl ?_
  refine J.region rfl ?_
  refine JO.pur rfl rfl rfl (Pur.move rfl) ?_
  refine JO.pur rfl rfl rfl (Pur.move rfl) ?_
  refine JO.pur rfl rfl rfl (Pur.len rfl) ?_
  refine JO.eff rfl rfl rfl (Eff.call rfl (rCuts_ok size (hs.length : Int))) ?_
  rintro _ _ ⟨a6, c6, rfl, rfl⟩
  rw [hhl]
  refine JO.pur rfl rfl rfl (Pur.move rfl) ?_
  refine JO.pur rfl rfl rfl (Pur.extract rfl rfl) ?_
  refine JO.pur rfl rfl rfl (Pur.extract rfl rfl) ?_
  refine JO.pur rfl rfl rfl (Pur.assign rfl) ?_
  refine JO.pur rfl rfl rfl (Pur.assign rfl) ?_
  refine JO.nil ?_
  refine J.seq rfl ?_
  refine J.seq rfl ?_
  refine J.region rfl ?_
  refine JO.pur rfl rfl rfl (Pur.move rfl) ?_
  refine JO.pur rfl rfl rfl (Pur.neqI rfl rfl) ?_
  refine JO.nil ?_
  refine J.splitB 19 rfl (fun h19 => ?_) (fun h19 => ?_)
  · try simp only [decide_eq_true_eq, decide_eq_false_iff_not, Bool.not_eq_true', Bool.not_eq_false', Bool.and_eq_true, Bool.or_eq_true, Bool.and_eq_false_iff, Bool.or_eq_false_iff, Option.isNone_some, Option.isSome_some, Option.isNone_none, Option.isSome_none, Int.not_lt, Int.not_le, beq_iff_eq, beq_eq_false_iff_ne, bne_iff_ne, ne_eq, Bool.not_not, Decidable.not_not] at h19
    have hbad : badC size parts.length := by by_cases hb : badC size parts.length; exact hb; exact absurd (cut_err hb) h19
    refine J.condT rfl rfl ?_
    refine J.seq rfl ?_
    refine J.region rfl ?_
    refine JO.pur rfl rfl rfl (Pur.move rfl) ?_
    refine JO.pur rfl rfl rfl (Pur.assign rfl) ?_
    refine JO.pur rfl rfl rfl (Pur.assign rfl) ?_
    refine JO.nil ?_
    refine J.ret rfl rfl ?_
    have hc2 : (cutsV size (parts.length : Int)).2 = 2 := by rw [cut_bad hbad]
    refine ⟨.tuple #[.slice none 0 0, .int .i64 2], _, ⟨none, 0, by rw [togV_bad hbad]; rfl, rfl⟩, by rw [← hc2]; rfl, fun h s => ?_⟩
    rw [togV_bad hbad]
    exact sl_nil_new (SubC.out h s)
  · try simp only [decide_eq_true_eq, decide_eq_false_iff_not, Bool.not_eq_true', Bool.not_eq_false', Bool.and_eq_true, Bool.or_eq_true, Bool.and_eq_false_iff, Bool.or_eq_false_iff, Option.isNone_some, Option.isSome_some, Option.isNone_none, Option.isSome_none, Int.not_lt, Int.not_le, beq_iff_eq, beq_eq_false_iff_ne, bne_iff_ne, ne_eq, Bool.not_not, Decidable.not_not] at h19
    have hok := cut_of (size := size) (n := parts.length) (by simpa using h19)
    have hin := cut_in hok
    have hcl := cut_len hok
    refine J.condF rfl rfl ?_
    refine J.skip rfl ?_
    refine J.seq rfl ?_
    have hsz : size = ((size.toNat : Nat) : Int) := by omega
    refine J.region rfl ?_
    refine JO.pur rfl rfl rfl (Pur.move rfl) ?_
    refine JO.eff rfl rfl rfl (Eff.make byE 0 (n := size.toNat) (by first | exact congrArg (fun z => some (Value.int .i64 z)) hsz | rfl) (by first | exact congrArg (fun z => some (Value.int .i64 z)) hsz | rfl) rfl rfl rfl (by decide) (by omega) (by omega)) ?_
    rintro _ _ ⟨b22, rfl, rfl⟩
    refine JO.pur rfl rfl rfl (Pur.assign rfl) ?_
    refine JO.nil ?_
    refine J.seq rfl ?_
    refine J.seq rfl ?_
    refine J.region rfl ?_
    refine JO.pur rfl rfl rfl (Pur.assign rfl) ?_
    refine JO.nil ?_
    refine J.block rfl ?_
    refine J.loopF (ι := Nat) (fun q => q ≤ parts.length ∧ ∀ j, j < q → fits size parts j) (fun q => [(9, .int .i64 (q : Int))]) [(1, _), (6, _), (8, _)] (fun q => sl byE (some ⟨b22, 0, none⟩) size.toNat (togB size parts q) :: sl pairE a6 c6 (cutsV size (parts.length : Int)).1 :: L) (fun q => parts.length - q) 0 rfl (.cons rfl rfl (.cons rfl rfl (.cons rfl rfl .nil))) (.cons rfl rfl .nil) (by first | exact fun _ h => h | exact SubC.out | (dsimp only; exact SubC.out)) ⟨Nat.zero_le _, fun j hj => by omega⟩ ?_
    rintro k ⟨hk, hft⟩ ihk
    try dsimp only
    have hbl := togB_len hok hk hft
    refine J.seq rfl ?_
    refine J.seq rfl ?_
    refine J.region rfl ?_
    refine JO.pur rfl rfl rfl (Pur.move rfl) ?_
    refine JO.pur rfl rfl rfl (Pur.move rfl) ?_
    refine JO.pur rfl rfl rfl (Pur.len rfl) ?_
    refine JO.pur rfl rfl rfl (Pur.lss rfl rfl) ?_
    refine JO.nil ?_
    refine J.splitB 26 rfl (fun h26 => ?_) (fun h26 => ?_)
    · try simp only [decide_eq_true_eq, decide_eq_false_iff_not, Bool.not_eq_true', Bool.not_eq_false', Bool.and_eq_true, Bool.or_eq_true, Bool.and_eq_false_iff, Bool.or_eq_false_iff, Option.isNone_some, Option.isSome_some, Option.isNone_none, Option.isSome_none, Int.not_lt, Int.not_le, beq_iff_eq, beq_eq_false_iff_ne, bne_iff_ne, ne_eq, Bool.not_not, Decidable.not_not] at h26
      have hkp : k < parts.length := by omega
      obtain ⟨hd, hH⟩ : ∃ hd, hs[k]? = some hd := ⟨_, List.getElem?_eq_getElem (by omega)⟩
      have hC := getD_part hkp
      have hdn := hdr_n hnn hH hC
      have hcg := cut_get hok (k := k) (by omega)
      have hc1 := cut_nonneg hok (k := k) (by omega)
      have hc2 := cut_nonneg hok (k := k + 1) (by omega)
      have hcm := cut_mono hok (k := k) (by omega)
      refine J.condT rfl rfl ?_
      refine J.skip rfl ?_
      refine J.seq rfl ?_
      refine J.block rfl ?_
      refine J.seq rfl ?_
      refine J.seq rfl ?_
      refine J.quiet rfl Try.mixed (by kernel_rfl) ?_
      refine JQ.pur rfl rfl rfl (Pur.move rfl) ?_
      refine JQ.pur rfl rfl rfl (Pur.move rfl) ?_
      refine JQ.pur rfl rfl rfl (Pur.idx rfl rfl rfl (by first | rfl | (simp; done) | omega) rfl (by omega)) ?_
      refine JQ.pur rfl rfl rfl (Pur.load rfl (CellIn.el0 rfl hH rfl)) ?_
      refine JQ.pur rfl rfl rfl (Pur.len rfl) ?_
      refine JQ.pur rfl rfl rfl (Pur.move rfl) ?_
      refine JQ.pur rfl rfl rfl (Pur.move rfl) ?_
      refine JQ.pur rfl rfl rfl (Pur.idx rfl rfl rfl (by first | rfl | (simp; done) | omega) rfl (by omega)) ?_
      refine JQ.pur rfl rfl rfl (Pur.idxA (k := 1) rfl rfl rfl (by decide)) ?_
      refine JQ.pur rfl rfl rfl (Pur.load rfl (CellIn.el rfl hcg rfl)) ?_
      refine JQ.setv (u' := .int .i64 (cutA size (parts.length : Int) (k + 1))) 38 rfl rfl ?_
      refine JQ.pur rfl rfl rfl (Pur.move rfl) ?_
      refine JQ.pur rfl rfl rfl (Pur.move rfl) ?_
      refine JQ.pur rfl rfl rfl (Pur.idx rfl rfl rfl (by first | rfl | (simp; done) | omega) rfl (by omega)) ?_
      refine JQ.pur rfl rfl rfl (Pur.idxA (k := 0) rfl rfl rfl (by decide)) ?_
      refine JQ.pur rfl rfl rfl (Pur.load rfl (CellIn.el rfl hcg rfl)) ?_
      refine JQ.setv (u' := .int .i64 (cutA size (parts.length : Int) k)) 43 rfl rfl ?_
      refine JQ.pur rfl rfl rfl (Pur.sub rfl rfl (wr64 (by omega))) ?_
      refine JQ.pur rfl rfl rfl (Pur.gtr rfl rfl) ?_
      refine JQ.nil ?_
      refine J.splitB 45 rfl (fun h45 => ?_) (fun h45 => ?_)
      · try simp only [decide_eq_true_eq, decide_eq_false_iff_not, Bool.not_eq_true', Bool.not_eq_false', Bool.and_eq_true, Bool.or_eq_true, Bool.and_eq_false_iff, Bool.or_eq_false_iff, Option.isNone_some, Option.isSome_some, Option.isNone_none, Option.isSome_none, Int.not_lt, Int.not_le, beq_iff_eq, beq_eq_false_iff_ne, bne_iff_ne, ne_eq, Bool.not_not, Decidable.not_not] at h45
        have hnf : ¬ fits size parts k := by unfold fits; omega
        refine J.condT rfl rfl ?_
        refine J.seq rfl ?_
        refine J.region rfl ?_
        refine JO.pur rfl rfl rfl (Pur.assign rfl) ?_
        refine JO.pur rfl rfl rfl (Pur.assign rfl) ?_
        refine JO.nil ?_
        refine J.ret rfl rfl ?_
        refine ⟨_, _, ⟨none, 0, by rw [togV_no hok hkp hnf]; rfl, rfl⟩, rfl, fun h s => ?_⟩
        rw [togV_no hok hkp hnf]
        exact sl_nil_new (SubC.out h s)
      · try simp only [decide_eq_true_eq, decide_eq_false_iff_not, Bool.not_eq_true', Bool.not_eq_false', Bool.and_eq_true, Bool.or_eq_true, Bool.and_eq_false_iff, Bool.or_eq_false_iff, Option.isNone_some, Option.isSome_some, Option.isNone_none, Option.isSome_none, Int.not_lt, Int.not_le, beq_iff_eq, beq_eq_false_iff_ne, bne_iff_ne, ne_eq, Bool.not_not, Decidable.not_not] at h45
        have hfk : fits size parts k := by unfold fits; omega
        have hft2 : ∀ j, j < k + 1 → fits size parts j := fun j hj => by
          rcases Nat.lt_or_ge j k with h | h
          · exact hft j h
          · rw [show j = k by omega]; exact hfk
        have hfe := fit_end hok hkp hfk
        refine J.condF rfl rfl ?_
        refine J.skip rfl ?_
        refine J.seq rfl ?_
        refine J.region rfl ?_
        refine JO.pur rfl rfl rfl (Pur.assign rfl) ?_
        refine JO.nil ?_
        refine J.block rfl ?_
        refine J.loopF (ι := Nat) (fun q => q ≤ (parts.getD k []).length) (fun q => [(10, .int .i64 (q : Int))]) [(1, _), (6, _), (8, _), (9, _)] (fun q => sl byE (some ⟨b22, 0, none⟩) size.toNat (spl (togB size parts k) (cutA size (parts.length : Int) k).toNat ((parts.getD k []).take q)) :: sl pairE a6 c6 (cutsV size (parts.length : Int)).1 :: L) (fun q => (parts.getD k []).length - q) 0 rfl (.cons rfl rfl (.cons rfl rfl (.cons rfl rfl (.cons rfl rfl .nil)))) (.cons rfl rfl .nil) (fun h s => by rw [List.take_zero, spl_nil]; exact SubC.out h s) (Nat.zero_le _) ?_
        rintro i hi ihi
        try dsimp only
        have hsl : (spl (togB size parts k) (cutA size (parts.length : Int) k).toNat ((parts.getD k []).take i)).length = size.toNat := by rw [spl_len (by rw [List.length_take]; omega), hbl]
        refine J.seq rfl ?_
        refine J.seq rfl ?_
        refine J.region rfl ?_
        refine JO.pur rfl rfl rfl (Pur.move rfl) ?_
        refine JO.pur rfl rfl rfl (Pur.move rfl) ?_
        refine JO.pur rfl rfl rfl (Pur.move rfl) ?_
        refine JO.pur rfl rfl rfl (Pur.idx rfl rfl rfl (by first | rfl | (simp; done) | omega) rfl (by omega)) ?_
        refine JO.pur rfl rfl rfl (Pur.load rfl (CellIn.el0 rfl hH rfl)) ?_
        refine JO.pur rfl rfl rfl (Pur.len rfl) ?_
        refine JO.pur rfl rfl rfl (Pur.lss rfl rfl) ?_
        refine JO.nil ?_
        refine J.splitB 52 rfl (fun h52 => ?_) (fun h52 => ?_)
        · try simp only [decide_eq_true_eq, decide_eq_false_iff_not, Bool.not_eq_true', Bool.not_eq_false', Bool.and_eq_true, Bool.or_eq_true, Bool.and_eq_false_iff, Bool.or_eq_false_iff, Option.isNone_some, Option.isSome_some, Option.isNone_none, Option.isSome_none, Int.not_lt, Int.not_le, beq_iff_eq, beq_eq_false_iff_ne, bne_iff_ne, ne_eq, Bool.not_not, Decidable.not_not] at h52
          have hil : i < (parts.getD k []).length := by omega
          have hpi : (parts.getD k [])[i]? = some ((parts.getD k [])[i]) := List.getElem?_eq_getElem hil
          refine J.condT rfl rfl ?_
          refine J.skip rfl ?_
          refine J.seq rfl ?_
          refine J.block rfl ?_
          refine J.mask0 (n := 17) [16] rfl Try.mixed rfl (by kernel_rfl) ?_
          refine JM.take 0 (fun _ h => h) rfl (by kernel_rfl) rfl rfl rfl (m' := 1) rfl (Pur.move rfl) ?_
          refine JM.take 1 (fun _ h => h) rfl (by kernel_rfl) rfl rfl rfl (m' := 3) rfl (Pur.move rfl) ?_
          refine JM.take 2 (fun _ h => h) rfl (by kernel_rfl) rfl rfl rfl (m' := 7) rfl (Pur.move rfl) ?_
          refine JM.take 3 (fun _ h => h) rfl (by kernel_rfl) rfl rfl rfl (m' := 15) rfl (Pur.idx rfl rfl rfl (by first | rfl | (simp; done) | omega) rfl (by omega)) ?_
          refine JM.take 4 (fun _ h => h) rfl (by kernel_rfl) rfl rfl rfl (m' := 31) rfl (Pur.idxA (k := 0) rfl rfl rfl (by decide)) ?_
          refine JM.take 5 (fun _ h => h) rfl (by kernel_rfl) rfl rfl rfl (m' := 63) rfl (Pur.load rfl (CellIn.el rfl hcg rfl)) ?_
          refine JM.setv (u' := .int .i64 (cutA size (parts.length : Int) k)) 60 rfl rfl ?_
          refine JM.take 6 (fun _ h => h) rfl (by kernel_rfl) rfl rfl rfl (m' := 127) rfl (Pur.move rfl) ?_
          refine JM.take 7 (fun _ h => h) rfl (by kernel_rfl) rfl rfl rfl (m' := 255) rfl (Pur.add rfl rfl (wr64 (by omega))) ?_
          refine JM.take 8 (fun _ h => h) rfl (by kernel_rfl) rfl rfl rfl (m' := 511) rfl (Pur.move rfl) ?_
          refine JM.take 9 (fun _ h => h) rfl (by kernel_rfl) rfl rfl rfl (m' := 1023) rfl (Pur.move rfl) ?_
          refine JM.take 10 (fun _ h => h) rfl (by kernel_rfl) rfl rfl rfl (m' := 2047) rfl (Pur.idx rfl rfl rfl (by first | rfl | (simp; done) | omega) rfl (by omega)) ?_
          refine JM.take 11 (fun _ h => h) rfl (by kernel_rfl) rfl rfl rfl (m' := 4095) rfl (Pur.load rfl (CellIn.el0 rfl hH rfl)) ?_
          refine JM.take 12 (fun _ h => h) rfl (by kernel_rfl) rfl rfl rfl (m' := 8191) rfl (Pur.move rfl) ?_
          refine JM.take 13 (fun _ h => h) rfl (by kernel_rfl) rfl rfl rfl (m' := 16383) rfl (Pur.idx (hs := (RowsR.row (E := byE) inferInstance hH hC)) rfl rfl rfl (by first | rfl | (simp; done) | omega) rfl hil) ?_
          refine JM.take 14 (fun _ h => h) rfl (by kernel_rfl) rfl rfl rfl (m' := 32767) rfl (Pur.load rfl (CellIn.el0 (hh := (RowsR.row (E := byE) inferInstance hH hC)) rfl hpi rfl)) ?_
          refine JM.take 15 (fun _ h => h) rfl (by kernel_rfl) rfl rfl rfl (m' := 65535) rfl (Pur.idx rfl rfl rfl (by first | rfl | (simp; done) | omega) (show (cutA size (parts.length : Int) k) + (i : Int) = (((cutA size (parts.length : Int) k).toNat + i : Nat) : Int) by omega) (by omega)) ?_
          refine JM.one (i := 16) (by kernel_rfl) ?_
          refine JMi.effN rfl rfl rfl (m' := 131071) rfl (Eff.storeS0 (z' := ((parts.getD k [])[i])) rfl rfl rfl rfl (List.getElem?_eq_getElem (by omega)) .head) ?_
          rintro _ _ ⟨rfl, rfl⟩
          refine ⟨.inl (by simp), ?_⟩
          refine JM.done rfl ?_
          refine J.inBlock ?_
          refine J.region rfl ?_
          refine JO.pur rfl rfl rfl (Pur.move rfl) ?_
          refine JO.pur rfl rfl rfl (Pur.add rfl rfl (wr64 (by omega))) ?_
          refine JO.pur rfl rfl rfl (Pur.assign rfl) ?_
          refine JO.nil ?_
          exact J.weaken (.cons rfl (congrArg (Value.int .i64) (by first | rfl | (dsimp only; omega))) (.cons rfl rfl (.cons rfl rfl (.cons rfl rfl (.cons rfl rfl .nil))))) (fun h s => by rw [spl_set (by omega) hpi] at s; exact SubC.out h s) (ihi (i + 1) (by omega) (by omega))
        · try simp only [decide_eq_true_eq, decide_eq_false_iff_not, Bool.not_eq_true', Bool.not_eq_false', Bool.and_eq_true, Bool.or_eq_true, Bool.and_eq_false_iff, Bool.or_eq_false_iff, Option.isNone_some, Option.isSome_some, Option.isNone_none, Option.isSome_none, Int.not_lt, Int.not_le, beq_iff_eq, beq_eq_false_iff_ne, bne_iff_ne, ne_eq, Bool.not_not, Decidable.not_not] at h52
          refine J.condF rfl rfl ?_
          refine J.exit rfl rfl ?_
          refine J.inBlock ?_
          refine J.region rfl ?_
          refine JO.pur rfl rfl rfl (Pur.move rfl) ?_
          refine JO.pur rfl rfl rfl (Pur.add rfl rfl (wr64 (by omega))) ?_
          refine JO.pur rfl rfl rfl (Pur.assign rfl) ?_
          refine JO.nil ?_
          exact J.weaken (.cons rfl (congrArg (Value.int .i64) (by first | rfl | (dsimp only; omega))) (.cons rfl rfl (.cons rfl rfl (.cons rfl rfl .nil)))) (fun h s => by rw [togB]; rw [show i = (parts.getD k []).length by omega, List.take_length] at s; exact SubC.out h s) (ihk (k + 1) ⟨(by omega), hft2⟩ (by omega))
    · try simp only [decide_eq_true_eq, decide_eq_false_iff_not, Bool.not_eq_true', Bool.not_eq_false', Bool.and_eq_true, Bool.or_eq_true, Bool.and_eq_false_iff, Bool.or_eq_false_iff, Option.isNone_some, Option.isSome_some, Option.isNone_none, Option.isSome_none, Int.not_lt, Int.not_le, beq_iff_eq, beq_eq_false_iff_ne, bne_iff_ne, ne_eq, Bool.not_not, Decidable.not_not] at h26
      refine J.condF rfl rfl ?_
      refine J.exit rfl rfl ?_
      refine J.seq rfl ?_
      refine J.region rfl ?_
      refine JO.pur rfl rfl rfl (Pur.move rfl) ?_
      refine JO.pur rfl rfl rfl (Pur.assign rfl) ?_
      refine JO.pur rfl rfl rfl (Pur.assign rfl) ?_
      refine JO.nil ?_
      refine J.ret rfl rfl ?_
      obtain rfl : k = parts.length := by omega
      have hv := togV_yes hok hft
      refine ⟨_, _, ⟨some ⟨b22, 0, none⟩, size.toNat, by rw [hv, hbl]; rfl, rfl⟩, rfl, fun h s => ?_⟩
      rw [hv]
      exact SubC.out h s

end Go.Proofs.Ytgbckamaenapeaa

/- The text HLaw1. -/
set_option linter.unusedVariables false
set_option linter.unusedSimpArgs false
set_option maxRecDepth 10000
namespace Go.Proofs.Ytgbckamaenapeaa
open Go Go.KK Hf

theorem eqPair (x y : Int × Int) (w : World) : (Op.equal 29 (.agg (pairE.enc x).toArray) (.agg (pairE.enc y).toArray)).run Try.prog w = .ok (decide (x = y)) w := by
  have hu := run_underlying (P := Try.prog) Try.underlying29 w
  have hi : (sizeOf 3).run Try.prog w = .ok 1 w := run_sizeOf_of (by kernel_rfl)
  have hs := Scl.run (P := Try.prog) (t := 3) (w := w) (by kernel_rfl)
  have he := fun a b => run_equalIn_int (P := Try.prog) w 9998 3 .i64 .i64 a b Try.underlying3
  obtain ⟨a, b⟩ := x
  obtain ⟨c, d⟩ := y
  unfold Op.equal
  rw [show Op.maxDepth = 9999 + 1 from rfl, Op.equalIn.eq_def]
  simp only [pairE, Sem.run_bind, hu, hi, Result.andThen_ok]
  simp [Std.Legacy.Range.forIn_eq_forIn_range', List.range', part, hs, he]
  by_cases h1 : a = c <;> by_cases h2 : b = d <;> simp [h1, h2]
instance : EqE Try.prog 29 pairE := ⟨by kernel_rfl, eqPair⟩
theorem channelCuts_ok {L : List Asn} {a : Option Addr} {m cap : Nat} {hs : List Hdr} {parts : List (List UInt8)} [SlIn hbE L a hs] [RowsR byE L hs parts] (hm : m = hs.length) (size n : Int) :
    CallS Try.prog 3 [.int .i64 size, .int .i64 n, .slice a m cap].toArray L (fun v M => v = .bool true ∧ M = L) := by
  subst hm
  refine CallS.fact (fun h s => RowsR.len (E := byE) (hs := hs) (xss := parts) s) fun hnn => ?_
  have hhl : hs.length = parts.length := rows_len hnn
  refine CallS.ent ?_
  refine CallS.enter Try.func3 rfl rfl rfl rfl rfl ?_
  refine J.seq rfl ?_
  refine J.region rfl ?_
  refine JO.pur rfl rfl rfl (Pur.assign rfl) ?_
  refine JO.nil ?_
  refine J.seq rfl ?_
  refine J.seq rfl ?_
  refine J.region rfl ?_
  refine JO.pur rfl rfl rfl (Pur.move rfl) ?_
  refine JO.pur rfl rfl rfl (Pur.len rfl) ?_
  refine JO.pur rfl rfl rfl (Pur.gtr rfl rfl) ?_
  refine JO.nil ?_
  refine J.splitB 17 rfl (fun h17 => ?_) (fun h17 => ?_)
  · try simp only [decide_eq_true_eq, decide_eq_false_iff_not, Bool.not_eq_true', Bool.not_eq_false', Bool.and_eq_true, Bool.or_eq_true, Bool.and_eq_false_iff, Bool.or_eq_false_iff, Option.isNone_some, Option.isSome_some, Option.isNone_none, Option.isSome_none, Int.not_lt, Int.not_le, beq_iff_eq, beq_eq_false_iff_ne, bne_iff_ne, ne_eq, Bool.not_not, Decidable.not_not] at h17
    refine J.condT rfl rfl ?_
    refine J.seq rfl ?_
    refine J.region rfl ?_
    refine JO.effR rfl rfl rfl (Eff.call rfl (first_ok)) ?_
    refine JO.pur rfl rfl rfl (Pur.assign rfl) ?_
    refine JO.nil ?_
    refine J.ret rfl rfl ?_
    exact ⟨_, _, ⟨rfl, rfl⟩, rfl, SubC.out⟩
  · try simp only [decide_eq_true_eq, decide_eq_false_iff_not, Bool.not_eq_true', Bool.not_eq_false', Bool.and_eq_true, Bool.or_eq_true, Bool.and_eq_false_iff, Bool.or_eq_false_iff, Option.isNone_some, Option.isSome_some, Option.isNone_none, Option.isSome_none, Int.not_lt, Int.not_le, beq_iff_eq, beq_eq_false_iff_ne, bne_iff_ne, ne_eq, Bool.not_not, Decidable.not_not] at h17
    refine J.condF rfl rfl ?_
    refine J.skip rfl ?_
    refine J.seq rfl ?_
    refine J.seq rfl ?_
    refine J.region rfl ?_
    refine JO.pur rfl rfl rfl (Pur.assign rfl) ?_
    refine JO.nil ?_
    refine J.block rfl ?_
    refine J.loopF (ι := Nat) (fun q => q ≤ parts.length) (fun q => [(7, .int .i64 (q : Int))]) [(0, _), (1, _), (2, _)] (fun q => L) (fun q => parts.length - q) 0 rfl (.cons rfl rfl (.cons rfl rfl (.cons rfl rfl .nil))) (.cons rfl rfl .nil) (by first | exact fun _ h => h | exact SubC.out | (dsimp only; exact SubC.out)) (Nat.zero_le _) ?_
    rintro k hk ih0
    try dsimp only
    refine J.seq rfl ?_
    refine J.seq rfl ?_
    refine J.region rfl ?_
    refine JO.pur rfl rfl rfl (Pur.move rfl) ?_
    refine JO.pur rfl rfl rfl (Pur.move rfl) ?_
    refine JO.pur rfl rfl rfl (Pur.len rfl) ?_
    refine JO.pur rfl rfl rfl (Pur.lss rfl rfl) ?_
    refine JO.nil ?_
    refine J.splitB 22 rfl (fun h22 => ?_) (fun h22 => ?_)
    · try simp only [decide_eq_true_eq, decide_eq_false_iff_not, Bool.not_eq_true', Bool.not_eq_false', Bool.and_eq_true, Bool.or_eq_true, Bool.and_eq_false_iff, Bool.or_eq_false_iff, Option.isNone_some, Option.isSome_some, Option.isNone_none, Option.isSome_none, Int.not_lt, Int.not_le, beq_iff_eq, beq_eq_false_iff_ne, bne_iff_ne, ne_eq, Bool.not_not, Decidable.not_not] at h22
      have hkp : k < parts.length := by omega
      obtain ⟨hd, hH⟩ : ∃ hd, hs[k]? = some hd := ⟨_, List.getElem?_eq_getElem (by omega)⟩
      refine J.condT rfl rfl ?_
      refine J.skip rfl ?_
      refine J.seq rfl ?_
      refine J.block rfl ?_
      refine J.seq rfl ?_
      refine J.region rfl ?_
      refine JO.pur rfl rfl rfl (Pur.move rfl) ?_
      refine JO.pur rfl rfl rfl (Pur.move rfl) ?_
      refine JO.pur rfl rfl rfl (Pur.idx rfl rfl rfl (by first | rfl | (simp; done) | omega) rfl (by omega)) ?_
      refine JO.pur rfl rfl rfl (Pur.load rfl (CellIn.el0 rfl hH rfl)) ?_
      refine JO.pur rfl rfl rfl (Pur.len rfl) ?_
      refine JO.pur rfl rfl rfl (Pur.gtr rfl rfl) ?_
      refine JO.nil ?_
      refine J.splitB 30 rfl (fun h30 => ?_) (fun h30 => ?_)
      · try simp only [decide_eq_true_eq, decide_eq_false_iff_not, Bool.not_eq_true', Bool.not_eq_false', Bool.and_eq_true, Bool.or_eq_true, Bool.and_eq_false_iff, Bool.or_eq_false_iff, Option.isNone_some, Option.isSome_some, Option.isNone_none, Option.isSome_none, Int.not_lt, Int.not_le, beq_iff_eq, beq_eq_false_iff_ne, bne_iff_ne, ne_eq, Bool.not_not, Decidable.not_not] at h30
        refine J.condT rfl rfl ?_
        refine J.seq rfl ?_
        refine J.region rfl ?_
        refine JO.effR rfl rfl rfl (Eff.call rfl (first_ok)) ?_
        refine JO.pur rfl rfl rfl (Pur.assign rfl) ?_
        refine JO.nil ?_
        refine J.ret rfl rfl ?_
        exact ⟨_, _, ⟨rfl, rfl⟩, rfl, SubC.out⟩
      · try simp only [decide_eq_true_eq, decide_eq_false_iff_not, Bool.not_eq_true', Bool.not_eq_false', Bool.and_eq_true, Bool.or_eq_true, Bool.and_eq_false_iff, Bool.or_eq_false_iff, Option.isNone_some, Option.isSome_some, Option.isNone_none, Option.isSome_none, Int.not_lt, Int.not_le, beq_iff_eq, beq_eq_false_iff_ne, bne_iff_ne, ne_eq, Bool.not_not, Decidable.not_not] at h30
        refine J.condF rfl rfl ?_
        refine J.skip rfl ?_
        refine J.inBlock ?_
        refine J.region rfl ?_
        refine JO.pur rfl rfl rfl (Pur.move rfl) ?_
        refine JO.pur rfl rfl rfl (Pur.add rfl rfl (wr64 (by omega))) ?_
        refine JO.pur rfl rfl rfl (Pur.assign rfl) ?_
        refine JO.nil ?_
        exact J.weaken (.cons rfl (congrArg (Value.int .i64) (by first | rfl | (dsimp only; omega))) (.cons rfl rfl (.cons rfl rfl (.cons rfl rfl .nil)))) (by first | exact fun _ h => h | exact SubC.out | (dsimp only; exact SubC.out)) (ih0 (k + 1) (by omega) (by omega))
    · try simp only [decide_eq_true_eq, decide_eq_false_iff_not, Bool.not_eq_true', Bool.not_eq_false', Bool.and_eq_true, Bool.or_eq_true, Bool.and_eq_false_iff, Bool.or_eq_false_iff, Option.isNone_some, Option.isSome_some, Option.isNone_none, Option.isSome_none, Int.not_lt, Int.not_le, beq_iff_eq, beq_eq_false_iff_ne, bne_iff_ne, ne_eq, Bool.not_not, Decidable.not_not] at h22
      refine J.condF rfl rfl ?_
      refine J.exit rfl rfl ?_
      refine J.seq rfl ?_
      refine J.region rfl ?_
      refine JO.pur rfl rfl rfl (Pur.move rfl) ?_
      refine JO.pur rfl rfl rfl (Pur.move rfl) ?_
      refine JO.eff rfl rfl rfl (Eff.call rfl (Cuts_ok size n)) ?_
      rintro _ _ ⟨a8, c8, rfl, rfl⟩
      refine JO.pur rfl rfl rfl (Pur.move rfl) ?_
      refine JO.pur rfl rfl rfl (Pur.extract rfl rfl) ?_
      refine JO.pur rfl rfl rfl (Pur.extract rfl rfl) ?_
      refine JO.pur rfl rfl rfl (Pur.assign rfl) ?_
      refine JO.pur rfl rfl rfl (Pur.assign rfl) ?_
      refine JO.nil ?_
      refine J.seq rfl ?_
      refine J.region rfl ?_
      refine JO.pur rfl rfl rfl (Pur.move rfl) ?_
      refine JO.pur rfl rfl rfl (Pur.move rfl) ?_
      refine JO.eff rfl rfl rfl (Eff.call rfl (rCuts_ok size n)) ?_
      rintro _ _ ⟨a10, c10, rfl, rfl⟩
      refine JO.pur rfl rfl rfl (Pur.move rfl) ?_
      refine JO.pur rfl rfl rfl (Pur.extract rfl rfl) ?_
      refine JO.pur rfl rfl rfl (Pur.extract rfl rfl) ?_
      refine JO.pur rfl rfl rfl (Pur.assign rfl) ?_
      refine JO.pur rfl rfl rfl (Pur.assign rfl) ?_
      refine JO.nil ?_
      refine J.seq rfl ?_
      refine J.seq rfl ?_
      refine J.region rfl ?_
      refine JO.pur rfl rfl rfl (Pur.move rfl) ?_
      refine JO.pur rfl rfl rfl (Pur.len rfl) ?_
      refine JO.pur rfl rfl rfl (Pur.move rfl) ?_
      refine JO.pur rfl rfl rfl (Pur.len rfl) ?_
      refine JO.pur rfl rfl rfl (Pur.neqI rfl rfl) ?_
      refine JO.setv (u' := .bool false) 48 rfl (congrArg Value.bool (by simp)) ?_
      refine JO.pur rfl rfl rfl (Pur.move rfl) ?_
      refine JO.pur rfl rfl rfl (Pur.move rfl) ?_
      refine JO.pur rfl rfl rfl (Pur.move rfl) ?_
      refine JO.pur rfl rfl rfl (Pur.neqI rfl rfl) ?_
      refine JO.setv (u' := .bool false) 52 rfl (congrArg Value.bool (by simp)) ?_
      refine JO.pur rfl rfl rfl (Pur.pickF rfl rfl) ?_
      refine JO.nil ?_
      refine J.condF rfl rfl ?_
      refine J.skip rfl ?_
      refine J.seq rfl ?_
      refine J.seq rfl ?_
      refine J.region rfl ?_
      refine JO.pur rfl rfl rfl (Pur.assign rfl) ?_
      refine JO.nil ?_
      refine J.block rfl ?_
      refine J.loopF (ι := Nat) (fun q => q ≤ (cutsV size n).1.length) (fun q => [(12, .int .i64 (q : Int))]) [(0, _), (2, _), (8, _), (10, _)] (fun q => sl pairE a8 c8 (cutsV size n).1 :: sl pairE a10 c10 (cutsV size n).1 :: L) (fun q => (cutsV size n).1.length - q) 0 rfl (.cons rfl rfl (.cons rfl rfl (.cons rfl rfl (.cons rfl rfl .nil)))) (.cons rfl rfl .nil) (by first | exact fun _ h => h | exact SubC.out | (dsimp only; exact SubC.out)) (Nat.zero_le _) ?_
      rintro j hj ihj
      try dsimp only
      have hcl9 : (cutsV size n).1.length ≤ 16 := by
        by_cases hb : badC size n
        · rw [cut_bad hb]; simp
        · rw [cut_len hb]; have := cut_in hb; omega
      refine J.seq rfl ?_
      refine J.seq rfl ?_
      refine J.region rfl ?_
      refine JO.pur rfl rfl rfl (Pur.move rfl) ?_
      refine JO.pur rfl rfl rfl (Pur.move rfl) ?_
      refine JO.pur rfl rfl rfl (Pur.len rfl) ?_
      refine JO.pur rfl rfl rfl (Pur.lss rfl rfl) ?_
      refine JO.nil ?_
      refine J.splitB 57 rfl (fun h57 => ?_) (fun h57 => ?_)
      · try simp only [decide_eq_true_eq, decide_eq_false_iff_not, Bool.not_eq_true', Bool.not_eq_false', Bool.and_eq_true, Bool.or_eq_true, Bool.and_eq_false_iff, Bool.or_eq_false_iff, Option.isNone_some, Option.isSome_some, Option.isNone_none, Option.isSome_none, Int.not_lt, Int.not_le, beq_iff_eq, beq_eq_false_iff_ne, bne_iff_ne, ne_eq, Bool.not_not, Decidable.not_not] at h57
        have hjl : j < (cutsV size n).1.length := by omega
        have hx : (cutsV size n).1[j]? = some ((cutsV size n).1[j]) := List.getElem?_eq_getElem hjl
        refine J.condT rfl rfl ?_
        refine J.skip rfl ?_
        refine J.seq rfl ?_
        refine J.block rfl ?_
        refine J.seq rfl ?_
        refine J.quiet rfl Try.mixed (by kernel_rfl) ?_
        refine JQ.pur rfl rfl rfl (Pur.move rfl) ?_
        refine JQ.pur rfl rfl rfl (Pur.move rfl) ?_
        refine JQ.pur rfl rfl rfl (Pur.idx rfl rfl rfl (by first | rfl | (simp; done) | omega) rfl hjl) ?_
        refine JQ.pur rfl rfl rfl (Pur.loadA rfl rfl rfl (CellsIn.el rfl hx)) ?_
        refine JQ.pur rfl rfl rfl (Pur.move rfl) ?_
        refine JQ.pur rfl rfl rfl (Pur.move rfl) ?_
        refine JQ.pur rfl rfl rfl (Pur.idx rfl rfl rfl (by first | rfl | (simp; done) | omega) rfl hjl) ?_
        refine JQ.pur rfl rfl rfl (Pur.loadA rfl rfl rfl (CellsIn.el rfl hx)) ?_
        refine JQ.pur rfl rfl rfl (Pur.neqE rfl rfl) ?_
        refine JQ.setv (u' := .bool false) 68 rfl (congrArg Value.bool (by simp)) ?_
        refine JQ.nil ?_
        refine J.condF rfl rfl ?_
        refine J.skip rfl ?_
        refine J.inBlock ?_
        refine J.region rfl ?_
        refine JO.pur rfl rfl rfl (Pur.move rfl) ?_
        refine JO.pur rfl rfl rfl (Pur.add rfl rfl (wr64 (by omega))) ?_
        refine JO.pur rfl rfl rfl (Pur.assign rfl) ?_
        refine JO.nil ?_
        exact J.weaken (.cons rfl (congrArg (Value.int .i64) (by first | rfl | (dsimp only; omega))) (.cons rfl rfl (.cons rfl rfl (.cons rfl rfl (.cons rfl rfl .nil))))) (by first | exact fun _ h => h | exact SubC.out | (dsimp only; exact SubC.out)) (ihj (j + 1) (by omega) (by omega))
      · try simp only [decide_eq_true_eq, decide_eq_false_iff_not, Bool.not_eq_true', Bool.not_eq_false', Bool.and_eq_true, Bool.or_eq_true, Bool.and_eq_false_iff, Bool.or_eq_false_iff, Option.isNone_some, Option.isSome_some, Option.isNone_none, Option.isSome_none, Int.not_lt, Int.not_le, beq_iff_eq, beq_eq_false_iff_ne, bne_iff_ne, ne_eq, Bool.not_not, Decidable.not_not] at h57
        refine J.condF rfl rfl ?_
        refine J.exit rfl rfl ?_
        refine J.seq rfl ?_
        refine J.region rfl ?_
        refine JO.pur rfl rfl rfl (Pur.move rfl) ?_
        refine JO.pur rfl rfl rfl (Pur.move rfl) ?_
        refine JO.eff rfl rfl rfl (Eff.call rfl (Together_ok (parts := parts) rfl size)) ?_
        rintro _ _ ⟨a13, c13, rfl, rfl⟩
        refine JO.pur rfl rfl rfl (Pur.move rfl) ?_
        refine JO.pur rfl rfl rfl (Pur.extract rfl rfl) ?_
        refine JO.pur rfl rfl rfl (Pur.extract rfl rfl) ?_
        refine JO.pur rfl rfl rfl (Pur.assign rfl) ?_
        refine JO.pur rfl rfl rfl (Pur.assign rfl) ?_
        refine JO.nil ?_
        refine J.seq rfl ?_
        refine J.region rfl ?_
        refine JO.pur rfl rfl rfl (Pur.move rfl) ?_
        refine JO.pur rfl rfl rfl (Pur.move rfl) ?_
        refine JO.eff rfl rfl rfl (Eff.call rfl (rTogether_ok (parts := parts) rfl size)) ?_
        rintro _ _ ⟨a14, c14, rfl, rfl⟩
        refine JO.pur rfl rfl rfl (Pur.move rfl) ?_
        refine JO.pur rfl rfl rfl (Pur.extract rfl rfl) ?_
        refine JO.pur rfl rfl rfl (Pur.extract rfl rfl) ?_
        refine JO.pur rfl rfl rfl (Pur.assign rfl) ?_
        refine JO.pur rfl rfl rfl (Pur.assign rfl) ?_
        refine JO.nil ?_
        refine J.seq rfl ?_
        refine J.region rfl ?_
        refine JO.pur rfl rfl rfl (Pur.move rfl) ?_
        refine JO.pur rfl rfl rfl (Pur.move rfl) ?_
        refine JO.effR rfl rfl rfl (Eff.call rfl (same_ok (xs := (togV size parts).1) (ys := (togV size parts).1) rfl rfl)) ?_
        refine JO.setv (u' := .bool true) 83 rfl (congrArg Value.bool (by simp)) ?_
        refine JO.pur rfl rfl rfl (Pur.move rfl) ?_
        refine JO.pur rfl rfl rfl (Pur.move rfl) ?_
        refine JO.pur rfl rfl rfl (Pur.move rfl) ?_
        refine JO.pur rfl rfl rfl (Pur.eqlI rfl rfl) ?_
        refine JO.setv (u' := .bool true) 87 rfl (congrArg Value.bool (by simp)) ?_
        refine JO.pur rfl rfl rfl (Pur.pickT rfl rfl) ?_
        refine JO.pur rfl rfl rfl (Pur.move rfl) ?_
        refine JO.effR rfl rfl rfl (Eff.call rfl (first_ok)) ?_
        refine JO.setv (u' := .bool true) 90 rfl (congrArg Value.bool (rfl)) ?_
        refine JO.pur rfl rfl rfl (Pur.pickT rfl rfl) ?_
        refine JO.pur rfl rfl rfl (Pur.assign rfl) ?_
        refine JO.nil ?_
        refine J.ret rfl rfl ?_
        exact ⟨_, _, ⟨rfl, rfl⟩, rfl, SubC.out⟩

end Go.Proofs.Ytgbckamaenapeaa
