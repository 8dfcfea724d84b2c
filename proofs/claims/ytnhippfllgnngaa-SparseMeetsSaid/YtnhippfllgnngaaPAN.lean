/-
  A part of the proof of the claim that this folder bears.
-/
import Derived.Test.YtnhippfllgnngaaPAM
import Derived.Test.YtnhippfllgnngaaKC
import Derived.Test.YtnhippfllgnngaaKB
/- The text SM5. -/
set_option linter.unusedVariables false
set_option linter.unusedSimpArgs false
set_option maxRecDepth 10000
namespace Go.Proofs.Ytnhippfllgnngaa
open Go Go.KK Dm

theorem compact_ok {L : List Asn} {a : Option Addr} {n cap : Nat} {es : List (Int × Hdr)} (hn : n = es.length) (hes : es.length ≤ 1000000) :
    CallS Try.prog 116 [.slice a n cap, (.func (.func 117) #[] #[])].toArray (sl enE a cap es :: L) (fun v M => v = .slice a (cptN enK es es.length).length cap ∧ M = sl enE a cap (cptN enK es es.length) :: L) := by
  subst hn
  refine CallS.ent ?_
  refine CallS.enter Try.func116 rfl rfl rfl rfl rfl ?_
  refine J.fact (fun h hs => SlH.le (a := a) (E := enE) (xs := es) hs) fun hcap => ?_
  refine J.seq rfl ?_
  refine J.region rfl ?_
  refine JO.pur rfl rfl rfl (Pur.assign rfl) ?_
  refine JO.nil ?_
  refine J.seq rfl ?_
  refine J.seq rfl ?_
  refine J.region rfl ?_
  refine JO.pur rfl rfl rfl (Pur.move rfl) ?_
  refine JO.pur rfl rfl rfl (Pur.len rfl) ?_
  refine JO.pur rfl rfl rfl (Pur.lss rfl rfl) ?_
  refine JO.nil ?_
  refine J.splitB 10 rfl (fun h10 => ?_) (fun h10 => ?_)
  · try simp only [decide_eq_true_eq, decide_eq_false_iff_not, Bool.not_eq_true', Bool.not_eq_false', Bool.and_eq_true, Bool.or_eq_true, Bool.and_eq_false_iff, Bool.or_eq_false_iff, Option.isNone_some, Option.isSome_some, Option.isNone_none, Option.isSome_none, Int.not_lt, Int.not_le, beq_iff_eq, beq_eq_false_iff_ne, bne_iff_ne, ne_eq, Bool.not_not, Decidable.not_not] at h10
    have hsh : cptN enK es es.length = es := by
      have h1 : es.length < 2 := by omega
      match es, h1 with
      | [], _ => rfl
      | [x], _ => rfl
      | x :: y :: l, h => simp only [List.length_cons] at h; omega
    refine J.condT rfl rfl ?_
    refine J.seq rfl ?_
    refine J.region rfl ?_
    refine JO.pur rfl rfl rfl (Pur.move rfl) ?_
    refine JO.pur rfl rfl rfl (Pur.assign rfl) ?_
    refine JO.nil ?_
    refine J.ret rfl rfl ?_
    refine ⟨_, _, ⟨rfl, rfl⟩, by rw [hsh]; rfl, fun h s => ?_⟩
    rw [hsh]
    exact SubC.out h s
  · try simp only [decide_eq_true_eq, decide_eq_false_iff_not, Bool.not_eq_true', Bool.not_eq_false', Bool.and_eq_true, Bool.or_eq_true, Bool.and_eq_false_iff, Bool.or_eq_false_iff, Option.isNone_some, Option.isSome_some, Option.isNone_none, Option.isSome_none, Int.not_lt, Int.not_le, beq_iff_eq, beq_eq_false_iff_ne, bne_iff_ne, ne_eq, Bool.not_not, Decidable.not_not] at h10
    refine J.condF rfl rfl ?_
    refine J.skip rfl ?_
    refine J.seq rfl ?_
    refine J.seq rfl ?_
    refine J.region rfl ?_
    refine JO.pur rfl rfl rfl (Pur.assign rfl) ?_
    refine JO.nil ?_
    refine J.block rfl ?_
    refine J.loopF (ι := Nat) (fun q => 1 ≤ q ∧ q ≤ es.length ∧ (cptN enK es (q)) = es.take q) (fun q => [(5, .int .i64 (q : Int))]) [(0, _), (1, _)] (fun q => sl enE a cap es :: L) (fun q => es.length - q) 1 rfl (.cons rfl rfl (.cons rfl rfl .nil)) (.cons rfl rfl .nil) (by first | exact fun _ h => h | exact SubC.out | (dsimp only; exact SubC.out)) ⟨Nat.le_refl _, by omega, by obtain ⟨e, he⟩ : ∃ e, es[0]? = some e := ⟨_, List.getElem?_eq_getElem (by omega)⟩; rw [cptN_no he (fun g => by omega)]; exact (take_get (k := 0) he).symm⟩ ?_
    rintro k ⟨hk1, hk, hck⟩ ihk
    try dsimp only
    refine J.seq rfl ?_
    refine J.seq rfl ?_
    refine J.region rfl ?_
    refine JO.pur rfl rfl rfl (Pur.move rfl) ?_
    refine JO.pur rfl rfl rfl (Pur.move rfl) ?_
    refine JO.pur rfl rfl rfl (Pur.len rfl) ?_
    refine JO.pur rfl rfl rfl (Pur.lss rfl rfl) ?_
    refine JO.nil ?_
    refine J.splitB 15 rfl (fun h15 => ?_) (fun h15 => ?_)
    · try simp only [decide_eq_true_eq, decide_eq_false_iff_not, Bool.not_eq_true', Bool.not_eq_false', Bool.and_eq_true, Bool.or_eq_true, Bool.and_eq_false_iff, Bool.or_eq_false_iff, Option.isNone_some, Option.isSome_some, Option.isNone_none, Option.isSome_none, Int.not_lt, Int.not_le, beq_iff_eq, beq_eq_false_iff_ne, bne_iff_ne, ne_eq, Bool.not_not, Decidable.not_not] at h15
      have hkl : k < es.length := by omega
      obtain ⟨x, hX⟩ : ∃ x, es[k]? = some x := ⟨_, List.getElem?_eq_getElem hkl⟩
      obtain ⟨y, hY⟩ : ∃ y, es[k - 1]? = some y := ⟨_, List.getElem?_eq_getElem (by omega)⟩
      have hk1c : (k : Int) - 1 = ((k - 1 : Nat) : Int) := by omega
      refine J.condT rfl rfl ?_
      refine J.skip rfl ?_
      refine J.seq rfl ?_
      refine J.block rfl ?_
      refine J.seq rfl ?_
      refine J.mask0 (n := 11) [10] rfl Try.mixed rfl (by kernel_rfl) ?_
      refine JM.take 0 (fun _ h => h) rfl (by kernel_rfl) rfl rfl rfl (m' := 1) rfl (Pur.move rfl) ?_
      refine JM.take 1 (fun _ h => h) rfl (by kernel_rfl) rfl rfl rfl (m' := 3) rfl (Pur.move rfl) ?_
      refine JM.take 2 (fun _ h => h) rfl (by kernel_rfl) rfl rfl rfl (m' := 7) rfl (Pur.move rfl) ?_
      refine JM.take 3 (fun _ h => h) rfl (by kernel_rfl) rfl rfl rfl (m' := 15) rfl (Pur.idx rfl rfl rfl (by first | rfl | (simp; done) | omega | (rw [List.length_drop]; omega)) rfl (by omega)) ?_
      refine JM.take 4 (fun _ h => h) rfl (by kernel_rfl) rfl rfl rfl (m' := 31) rfl (Pur.loadA rfl rfl rfl (CellsIn.el rfl hX)) ?_
      refine JM.setv (u' := enV x) 22 rfl rfl ?_
      refine JM.take 5 (fun _ h => h) rfl (by kernel_rfl) rfl rfl rfl (m' := 63) rfl (Pur.move rfl) ?_
      refine JM.take 6 (fun _ h => h) rfl (by kernel_rfl) rfl rfl rfl (m' := 127) rfl (Pur.move rfl) ?_
      refine JM.take 7 (fun _ h => h) rfl (by kernel_rfl) rfl rfl rfl (m' := 255) rfl (Pur.sub rfl rfl (wr64 (by omega))) ?_
      refine JM.take 8 (fun _ h => h) rfl (by kernel_rfl) rfl rfl rfl (m' := 511) rfl (Pur.idx rfl rfl rfl (by first | rfl | (simp; done) | omega | (rw [List.length_drop]; omega)) hk1c (by omega)) ?_
      refine JM.take 9 (fun _ h => h) rfl (by kernel_rfl) rfl rfl rfl (m' := 1023) rfl (Pur.loadA rfl rfl rfl (CellsIn.el rfl hY)) ?_
      refine JM.setv (u' := enV y) 27 rfl rfl ?_
      refine JM.one (i := 10) (by kernel_rfl) ?_
      refine JMi.effR (fun _ h => h) rfl rfl rfl rfl (m' := 2047) rfl (Eff.callV rfl rfl (same_cl (x := x) (y := y))) ?_
      refine JM.done rfl ?_
      refine J.splitB 28 rfl (fun h28 => ?_) (fun h28 => ?_)
      · try simp only [decide_eq_true_eq, decide_eq_false_iff_not, Bool.not_eq_true', Bool.not_eq_false', Bool.and_eq_true, Bool.or_eq_true, Bool.and_eq_false_iff, Bool.or_eq_false_iff, Option.isNone_some, Option.isSome_some, Option.isNone_none, Option.isSome_none, Int.not_lt, Int.not_le, beq_iff_eq, beq_eq_false_iff_ne, bne_iff_ne, ne_eq, Bool.not_not, Decidable.not_not] at h28
        have hc1 : cptN enK es (k + 1) = es.take k := by rw [cptN_yes hX hk1 (by rw [h28, kA_of hY]), hck]
        have hc1l : (cptN enK es (k + 1)).length = k := by rw [hc1, List.length_take]; omega
        refine J.condT rfl rfl ?_
        refine J.seq rfl ?_
        refine J.region rfl ?_
        refine JO.pur rfl rfl rfl (Pur.move rfl) ?_
        refine JO.pur rfl rfl rfl (Pur.move rfl) ?_
        refine JO.pur rfl rfl rfl (Pur.slice1 rfl rfl rfl (by omega) (by omega)) ?_
        refine JO.pur rfl rfl rfl (Pur.assign rfl) ?_
        refine JO.nil ?_
        refine J.seq rfl ?_
        refine J.seq rfl ?_
        refine J.region rfl ?_
        refine JO.pur rfl rfl rfl (Pur.assign rfl) ?_
        refine JO.nil ?_
        refine J.block rfl ?_
        refine J.loopF (ι := Nat) (fun q => 1 ≤ q ∧ k + q ≤ es.length ∧ (cptN enK es (k + q)).length < k + q) (fun q => [(5, .int .i64 ((cptN enK es (k + q)).length : Int)), (7, .int .i64 (q : Int))]) [(0, _), (1, _), (6, _)] (fun q => sl enE a cap ((cptN enK es (k + q)) ++ es.drop (cptN enK es (k + q)).length) :: L) (fun q => es.length - q) 1 rfl (.cons rfl rfl (.cons rfl rfl (.cons rfl rfl .nil))) (.cons rfl (congrArg (Value.int .i64) (by rw [hc1l])) (.cons rfl rfl .nil)) (fun h s => by rw [hc1l, hc1, List.take_append_drop]; exact SubC.out h s) ⟨Nat.le_refl _, by omega, by omega⟩ ?_
        rintro j ⟨hj1, hj, hjl⟩ ihj
        try dsimp only
        have hxl : ((cptN enK es (k + j)) ++ es.drop (cptN enK es (k + j)).length).length = es.length := by rw [List.length_append, List.length_drop]; omega
        refine J.seq rfl ?_
        refine J.seq rfl ?_
        refine J.region rfl ?_
        refine JO.pur rfl rfl rfl (Pur.move rfl) ?_
        refine JO.pur rfl rfl rfl (Pur.move rfl) ?_
        refine JO.pur rfl rfl rfl (Pur.len rfl) ?_
        refine JO.pur rfl rfl rfl (Pur.lss rfl rfl) ?_
        refine JO.nil ?_
        refine J.splitB 35 rfl (fun h35 => ?_) (fun h35 => ?_)
        · try simp only [decide_eq_true_eq, decide_eq_false_iff_not, Bool.not_eq_true', Bool.not_eq_false', Bool.and_eq_true, Bool.or_eq_true, Bool.and_eq_false_iff, Bool.or_eq_false_iff, Option.isNone_some, Option.isSome_some, Option.isNone_none, Option.isSome_none, Int.not_lt, Int.not_le, beq_iff_eq, beq_eq_false_iff_ne, bne_iff_ne, ne_eq, Bool.not_not, Decidable.not_not] at h35
          have hjl2 : k + j < es.length := by omega
          obtain ⟨x2, hX2⟩ : ∃ x, es[k + j]? = some x := ⟨_, List.getElem?_eq_getElem hjl2⟩
          obtain ⟨y2, hY2⟩ : ∃ y, es[k + j - 1]? = some y := ⟨_, List.getElem?_eq_getElem (by omega)⟩
          have hj1c : (j : Int) - 1 = ((j - 1 : Nat) : Int) := by omega
          have hg1 : (((cptN enK es (k + j)) ++ es.drop (cptN enK es (k + j)).length).drop k)[j]? = some x2 := by rw [List.getElem?_drop, List.getElem?_append_right (by omega), List.getElem?_drop, show (cptN enK es (k + j)).length + (k + j - (cptN enK es (k + j)).length) = k + j by omega]; exact hX2
          have hg2 : (((cptN enK es (k + j)) ++ es.drop (cptN enK es (k + j)).length).drop k)[j - 1]? = some y2 := by rw [List.getElem?_drop, List.getElem?_append_right (by omega), List.getElem?_drop, show (cptN enK es (k + j)).length + (k + (j - 1) - (cptN enK es (k + j)).length) = k + j - 1 by omega]; exact hY2
          refine J.condT rfl rfl ?_
          refine J.skip rfl ?_
          refine J.seq rfl ?_
          refine J.block rfl ?_
          refine J.seq rfl ?_
          refine J.mask0 (n := 12) [] rfl Try.mixed rfl (by kernel_rfl) ?_
          refine JM.take 0 (fun _ h => h) rfl (by kernel_rfl) rfl rfl rfl (m' := 1) rfl (Pur.move rfl) ?_
          refine JM.take 1 (fun _ h => h) rfl (by kernel_rfl) rfl rfl rfl (m' := 3) rfl (Pur.move rfl) ?_
          refine JM.take 2 (fun _ h => h) rfl (by kernel_rfl) rfl rfl rfl (m' := 7) rfl (Pur.move rfl) ?_
          refine JM.take 3 (fun _ h => h) rfl (by kernel_rfl) rfl rfl rfl (m' := 15) rfl (Pur.idx (hs := (SlIn.dropN (E := enE) (cap := cap) (a := a) (xs := ((cptN enK es (k + j)) ++ es.drop (cptN enK es (k + j)).length)) (m := 2) inferInstance rfl k (fun e => by omega))) rfl rfl rfl (by first | rfl | (simp; done) | omega | (rw [List.length_drop]; omega)) rfl (by rw [List.length_drop]; omega)) ?_
          refine JM.take 4 (fun _ h => h) rfl (by kernel_rfl) rfl rfl rfl (m' := 31) rfl (Pur.loadA rfl rfl rfl (CellsIn.el (hh := (SlIn.dropN (E := enE) (cap := cap) (a := a) (xs := ((cptN enK es (k + j)) ++ es.drop (cptN enK es (k + j)).length)) (m := 2) inferInstance rfl k (fun e => by omega))) rfl hg1)) ?_
          refine JM.setv (u' := enV x2) 42 rfl rfl ?_
          refine JM.take 5 (fun _ h => h) rfl (by kernel_rfl) rfl rfl rfl (m' := 63) rfl (Pur.move rfl) ?_
          refine JM.take 6 (fun _ h => h) rfl (by kernel_rfl) rfl rfl rfl (m' := 127) rfl (Pur.move rfl) ?_
          refine JM.take 7 (fun _ h => h) rfl (by kernel_rfl) rfl rfl rfl (m' := 255) rfl (Pur.sub rfl rfl (wr64 (by omega))) ?_
          refine JM.take 8 (fun _ h => h) rfl (by kernel_rfl) rfl rfl rfl (m' := 511) rfl (Pur.idx (hs := (SlIn.dropN (E := enE) (cap := cap) (a := a) (xs := ((cptN enK es (k + j)) ++ es.drop (cptN enK es (k + j)).length)) (m := 2) inferInstance rfl k (fun e => by omega))) rfl rfl rfl (by first | rfl | (simp; done) | omega | (rw [List.length_drop]; omega)) hj1c (by rw [List.length_drop]; omega)) ?_
          refine JM.take 9 (fun _ h => h) rfl (by kernel_rfl) rfl rfl rfl (m' := 1023) rfl (Pur.loadA rfl rfl rfl (CellsIn.el (hh := (SlIn.dropN (E := enE) (cap := cap) (a := a) (xs := ((cptN enK es (k + j)) ++ es.drop (cptN enK es (k + j)).length)) (m := 2) inferInstance rfl k (fun e => by omega))) rfl hg2)) ?_
          refine JM.setv (u' := enV y2) 47 rfl rfl ?_
          refine JM.one (i := 10) (by kernel_rfl) ?_
          refine JMi.effR (fun _ h => h) rfl rfl rfl rfl (m' := 2047) rfl (Eff.callV rfl rfl (same_cl (x := x2) (y := y2))) ?_
          refine JM.take 11 (fun _ h => h) rfl (by kernel_rfl) rfl rfl rfl (m' := 4095) rfl (Pur.not rfl) ?_
          refine JM.done rfl ?_
          refine J.splitB 49 rfl (fun h49 => ?_) (fun h49 => ?_)
          · try simp only [decide_eq_true_eq, decide_eq_false_iff_not, Bool.not_eq_true', Bool.not_eq_false', Bool.and_eq_true, Bool.or_eq_true, Bool.and_eq_false_iff, Bool.or_eq_false_iff, Option.isNone_some, Option.isSome_some, Option.isNone_none, Option.isSome_none, Int.not_lt, Int.not_le, beq_iff_eq, beq_eq_false_iff_ne, bne_iff_ne, ne_eq, Bool.not_not, Decidable.not_not] at h49
            have hst : (cptN enK es (k + j + 1)) = (cptN enK es (k + j)) ++ [x2] := cptN_no hX2 (fun g => h49 (by rw [g.2, kA_of hY2]))
            have hset : ((cptN enK es (k + j)) ++ es.drop (cptN enK es (k + j)).length).set (cptN enK es (k + j)).length x2 = (cptN enK es (k + j)) ++ [x2] ++ es.drop ((cptN enK es (k + j)).length + 1) := by rw [List.drop_eq_getElem_cons (by omega), set_mid]; simp
            refine J.condT rfl rfl ?_
            refine J.seq rfl ?_
            refine J.region rfl ?_
            refine JO.pur rfl rfl rfl (Pur.move rfl) ?_
            refine JO.pur rfl rfl rfl (Pur.move rfl) ?_
            refine JO.pur rfl rfl rfl (Pur.move rfl) ?_
            refine JO.pur rfl rfl rfl (Pur.move rfl) ?_
            refine JO.pur rfl rfl rfl (Pur.idx (hs := (SlIn.dropN (E := enE) (cap := cap) (a := a) (xs := ((cptN enK es (k + j)) ++ es.drop (cptN enK es (k + j)).length)) (m := 2) inferInstance rfl k (fun e => by omega))) rfl rfl rfl (by first | rfl | (simp; done) | omega | (rw [List.length_drop]; omega)) rfl (by rw [List.length_drop]; omega)) ?_
            refine JO.pur rfl rfl rfl (Pur.loadA rfl rfl rfl (CellsIn.el (hh := (SlIn.dropN (E := enE) (cap := cap) (a := a) (xs := ((cptN enK es (k + j)) ++ es.drop (cptN enK es (k + j)).length)) (m := 2) inferInstance rfl k (fun e => by omega))) rfl hg1)) ?_
            refine JO.setv (u' := enV x2) 55 rfl rfl ?_
            refine JO.pur rfl rfl rfl (Pur.idx rfl rfl rfl (by first | rfl | (simp; done) | omega | (rw [List.length_drop]; omega)) rfl (by omega)) ?_
            refine JO.effN rfl rfl (Eff.storeSA (z' := x2) rfl rfl rfl rfl (by omega) rfl) ?_
            rintro _ _ ⟨rfl, rfl⟩
            refine JO.nil ?_
            refine J.region rfl ?_
            refine JO.pur rfl rfl rfl (Pur.move rfl) ?_
            refine JO.pur rfl rfl rfl (Pur.add rfl rfl (wr64 (by omega))) ?_
            refine JO.pur rfl rfl rfl (Pur.assign rfl) ?_
            refine JO.nil ?_
            refine J.inBlock ?_
            refine J.region rfl ?_
            refine JO.pur rfl rfl rfl (Pur.move rfl) ?_
            refine JO.pur rfl rfl rfl (Pur.add rfl rfl (wr64 (by omega))) ?_
            refine JO.pur rfl rfl rfl (Pur.assign rfl) ?_
            refine JO.nil ?_
            exact J.weaken (.cons rfl (congrArg (Value.int .i64) (by rw [← Nat.add_assoc, hst, List.length_append, List.length_singleton]; rfl)) (.cons rfl (congrArg (Value.int .i64) (by first | rfl | (dsimp only; omega))) (.cons rfl rfl (.cons rfl rfl (.cons rfl rfl .nil))))) (fun h s => by rw [← Nat.add_assoc, hst, List.length_append, List.length_singleton]; rw [hset] at s; exact SubC.out h s) (ihj (j + 1) ⟨by omega, by omega, by rw [← Nat.add_assoc, hst, List.length_append, List.length_singleton]; omega⟩ (by omega))
          · try simp only [decide_eq_true_eq, decide_eq_false_iff_not, Bool.not_eq_true', Bool.not_eq_false', Bool.and_eq_true, Bool.or_eq_true, Bool.and_eq_false_iff, Bool.or_eq_false_iff, Option.isNone_some, Option.isSome_some, Option.isNone_none, Option.isSome_none, Int.not_lt, Int.not_le, beq_iff_eq, beq_eq_false_iff_ne, bne_iff_ne, ne_eq, Bool.not_not, Decidable.not_not] at h49
            have hst : (cptN enK es (k + j + 1)) = (cptN enK es (k + j)) := cptN_yes hX2 (by omega) (by rw [h49, kA_of hY2])
            refine J.condF rfl rfl ?_
            refine J.skip rfl ?_
            refine J.inBlock ?_
            refine J.region rfl ?_
            refine JO.pur rfl rfl rfl (Pur.move rfl) ?_
            refine JO.pur rfl rfl rfl (Pur.add rfl rfl (wr64 (by omega))) ?_
            refine JO.pur rfl rfl rfl (Pur.assign rfl) ?_
            refine JO.nil ?_
            exact J.weaken (.cons rfl (congrArg (Value.int .i64) (by rw [← Nat.add_assoc, hst])) (.cons rfl (congrArg (Value.int .i64) (by first | rfl | (dsimp only; omega))) (.cons rfl rfl (.cons rfl rfl (.cons rfl rfl .nil))))) (fun h s => by rw [← Nat.add_assoc, hst]; exact SubC.out h s) (ihj (j + 1) ⟨by omega, by omega, by rw [← Nat.add_assoc, hst]; omega⟩ (by omega))
        · try simp only [decide_eq_true_eq, decide_eq_false_iff_not, Bool.not_eq_true', Bool.not_eq_false', Bool.and_eq_true, Bool.or_eq_true, Bool.and_eq_false_iff, Bool.or_eq_false_iff, Option.isNone_some, Option.isSome_some, Option.isNone_none, Option.isSome_none, Int.not_lt, Int.not_le, beq_iff_eq, beq_eq_false_iff_ne, bne_iff_ne, ne_eq, Bool.not_not, Decidable.not_not] at h35
          have hje : k + j = es.length := by omega
          refine J.condF rfl rfl ?_
          refine J.exit rfl rfl ?_
          refine J.seq rfl ?_
          refine J.region rfl ?_
          refine JO.pur rfl rfl rfl (Pur.move rfl) ?_
          refine JO.pur rfl rfl rfl (Pur.move rfl) ?_
          refine JO.pur rfl rfl rfl (Pur.slice1 rfl rfl rfl (by omega) (by omega)) ?_
          refine JO.imp (fun h s => cut_sl (E := enE) (a := a) (cap := cap) (cptN enK es (k + j)).length s) ?_
          rw [List.take_left' rfl]
          refine JO.effN rfl rfl (Eff.clearSpare rfl rfl rfl rfl (by omega) (by decide)) ?_
          rintro _ _ ⟨rfl, rfl⟩
          refine JO.nil ?_
          refine J.seq rfl ?_
          refine J.region rfl ?_
          refine JO.pur rfl rfl rfl (Pur.move rfl) ?_
          refine JO.pur rfl rfl rfl (Pur.move rfl) ?_
          refine JO.pur rfl rfl rfl (Pur.slice0 rfl rfl rfl (by omega)) ?_
          refine JO.pur rfl rfl rfl (Pur.assign rfl) ?_
          refine JO.nil ?_
          refine J.ret rfl rfl ?_
          refine ⟨_, _, ⟨rfl, rfl⟩, by rw [hje]; rfl, fun h s => ?_⟩
          rw [hje] at s
          exact SubC.out h s
      · try simp only [decide_eq_true_eq, decide_eq_false_iff_not, Bool.not_eq_true', Bool.not_eq_false', Bool.and_eq_true, Bool.or_eq_true, Bool.and_eq_false_iff, Bool.or_eq_false_iff, Option.isNone_some, Option.isSome_some, Option.isNone_none, Option.isSome_none, Int.not_lt, Int.not_le, beq_iff_eq, beq_eq_false_iff_ne, bne_iff_ne, ne_eq, Bool.not_not, Decidable.not_not] at h28
        refine J.condF rfl rfl ?_
        refine J.skip rfl ?_
        refine J.inBlock ?_
        refine J.region rfl ?_
        refine JO.pur rfl rfl rfl (Pur.move rfl) ?_
        refine JO.pur rfl rfl rfl (Pur.add rfl rfl (wr64 (by omega))) ?_
        refine JO.pur rfl rfl rfl (Pur.assign rfl) ?_
        refine JO.nil ?_
        exact J.weaken (.cons rfl (congrArg (Value.int .i64) (by first | rfl | (dsimp only; omega))) (.cons rfl rfl (.cons rfl rfl .nil))) (by first | exact fun _ h => h | exact SubC.out | (dsimp only; exact SubC.out)) (ihk (k + 1) ⟨by omega, by omega, by rw [cptN_no hX (fun g => h28 (by rw [g.2, kA_of hY])), hck]; exact (take_get hX).symm⟩ (by omega))
    · try simp only [decide_eq_true_eq, decide_eq_false_iff_not, Bool.not_eq_true', Bool.not_eq_false', Bool.and_eq_true, Bool.or_eq_true, Bool.and_eq_false_iff, Bool.or_eq_false_iff, Option.isNone_some, Option.isSome_some, Option.isNone_none, Option.isSome_none, Int.not_lt, Int.not_le, beq_iff_eq, beq_eq_false_iff_ne, bne_iff_ne, ne_eq, Bool.not_not, Decidable.not_not] at h15
      have hke : k = es.length := by omega
      refine J.condF rfl rfl ?_
      refine J.exit rfl rfl ?_
      refine J.seq rfl ?_
      refine J.region rfl ?_
      refine JO.pur rfl rfl rfl (Pur.move rfl) ?_
      refine JO.pur rfl rfl rfl (Pur.assign rfl) ?_
      refine JO.nil ?_
      refine J.ret rfl rfl ?_
      have hsh : cptN enK es es.length = es := by rw [hke] at hck; rw [hck]; exact List.take_length
      refine ⟨_, _, ⟨rfl, rfl⟩, by rw [hsh]; rfl, fun h s => ?_⟩
      rw [hsh]
      exact SubC.out h s

theorem Pur_cap {P : Program} {F : Fr} {L : List Asn} {dst : Option Tmp} {ty : TypeId} {pos : String} {aft : Array Edge} {gd : Option (Nat × Bool)} {t e m by_ : Nat} {z : Value} [ha : SlT P t e m by_ z] {x : Operand} {a : Option Addr} {n cap : Nat} (hx : ev F x = some (.slice a n cap)) :
    Pur P F L ⟨dst, .call ⟨.builtin .cap, #[x], #[t]⟩, ty, pos, aft, gd⟩ (.int .i64 cap) := fun ρ w hρ _ => by
  obtain ⟨i', hu, _⟩ := sltB_spec ha.out
  simp [execOp, resolve, invoke, builtin, Builtin.cap_, hρ _ _ hx, hu, underlying, goInt, go_sem]
theorem grow_ok {L : List Asn} {m : Nat} (hm : m ≤ 1000000) :
    CallS Try.prog 162 [.slice none 0 0, .int .i64 (m : Int)].toArray L (fun v M => ∃ a' c', v = .slice a' 0 c' ∧ M = sl hE a' c' [] :: L) := by
  refine CallS.ent ?_
  refine CallS.enter Try.func162 rfl rfl rfl rfl rfl ?_
  refine J.seq rfl ?_
  refine J.region rfl ?_
  refine JO.pur rfl rfl rfl (Pur.assign rfl) ?_
  refine JO.nil ?_
  refine J.seq rfl ?_
  refine J.seq rfl ?_
  refine J.region rfl ?_
  refine JO.pur rfl rfl rfl (Pur.move rfl) ?_
  refine JO.pur rfl rfl rfl (Pur.lss rfl rfl) ?_
  refine JO.nil ?_
  refine J.setv (u' := .bool false) 6 rfl (congrArg Value.bool (decide_eq_false (by omega))) ?_
  refine J.condF rfl rfl ?_
  refine J.skip rfl ?_
  refine J.seq rfl ?_
  refine J.seq rfl ?_
  refine J.region rfl ?_
  refine JO.pur rfl rfl rfl (Pur.move rfl) ?_
  refine JO.pur rfl rfl rfl (Pur.move rfl) ?_
  refine JO.pur rfl rfl rfl (Pur_cap rfl) ?_
  refine JO.pur rfl rfl rfl (Pur.move rfl) ?_
  refine JO.pur rfl rfl rfl (Pur.len rfl) ?_
  refine JO.pur rfl rfl rfl (Pur.sub rfl rfl (wr64 (by omega))) ?_
  refine JO.pur rfl rfl rfl (Pur.sub rfl rfl (wr64 (by omega))) ?_
  refine JO.setv (u' := .int .i64 (m : Int)) 14 rfl (congrArg (Value.int .i64) (by omega)) ?_
  refine JO.pur rfl rfl rfl (Pur.assign rfl) ?_
  refine JO.nil ?_
  refine J.seq rfl ?_
  refine J.region rfl ?_
  refine JO.pur rfl rfl rfl (Pur.move rfl) ?_
  refine JO.pur rfl rfl rfl (Pur.gtr rfl rfl) ?_
  refine JO.nil ?_
  refine J.splitB 16 rfl (fun h16 => ?_) (fun h16 => ?_)
  · try simp only [decide_eq_true_eq, decide_eq_false_iff_not, Bool.not_eq_true', Bool.not_eq_false', Bool.and_eq_true, Bool.or_eq_true, Bool.and_eq_false_iff, Bool.or_eq_false_iff, Option.isNone_some, Option.isSome_some, Option.isNone_none, Option.isSome_none, Int.not_lt, Int.not_le, beq_iff_eq, beq_eq_false_iff_ne, bne_iff_ne, ne_eq, Bool.not_not, Decidable.not_not] at h16
    refine J.condT rfl rfl ?_
    refine J.imp (fun h s => sl_nil_new (E := hE) s) ?_
    refine J.region rfl ?_
    refine JO.pur rfl rfl rfl (Pur.move rfl) ?_
    refine JO.pur rfl rfl rfl (Pur.move rfl) ?_
    refine JO.pur rfl rfl rfl (Pur_cap rfl) ?_
    refine JO.pur rfl rfl rfl (Pur.slice0 rfl rfl rfl (by omega)) ?_
    refine JO.pur rfl rfl rfl (Pur.move rfl) ?_
    refine JO.eff rfl rfl rfl (Eff.appendZ (E := hE) (xs := []) ⟨none, 0, 0⟩ (k := m) (kn := .i64) (by kernel_rfl) rfl rfl rfl rfl rfl rfl rfl (by omega) (by simp; omega) (by simp; omega)) ?_
    rintro _ _ ⟨a22, c22, rfl, rfl⟩
    refine JO.pur rfl rfl rfl (Pur.move rfl) ?_
    refine JO.pur rfl rfl rfl (Pur.len rfl) ?_
    refine JO.pur rfl rfl rfl (Pur.slice0 rfl rfl rfl (Nat.zero_le _)) ?_
    refine JO.pur rfl rfl rfl (Pur.assign rfl) ?_
    refine JO.nil ?_
    refine J.seq rfl ?_
    refine J.region rfl ?_
    refine JO.pur rfl rfl rfl (Pur.move rfl) ?_
    refine JO.pur rfl rfl rfl (Pur.assign rfl) ?_
    refine JO.nil ?_
    refine J.ret rfl rfl ?_
    refine ⟨_, _, ⟨a22, c22, rfl, rfl⟩, rfl, fun h s => ?_⟩
    have s2 := cut_sl (E := hE) (a := a22) (cap := c22) 0 s
    rw [List.take_zero] at s2
    exact SubC.out h s2
  · try simp only [decide_eq_true_eq, decide_eq_false_iff_not, Bool.not_eq_true', Bool.not_eq_false', Bool.and_eq_true, Bool.or_eq_true, Bool.and_eq_false_iff, Bool.or_eq_false_iff, Option.isNone_some, Option.isSome_some, Option.isNone_none, Option.isSome_none, Int.not_lt, Int.not_le, beq_iff_eq, beq_eq_false_iff_ne, bne_iff_ne, ne_eq, Bool.not_not, Decidable.not_not] at h16
    refine J.condF rfl rfl ?_
    refine J.skip rfl ?_
    refine J.seq rfl ?_
    refine J.region rfl ?_
    refine JO.pur rfl rfl rfl (Pur.move rfl) ?_
    refine JO.pur rfl rfl rfl (Pur.assign rfl) ?_
    refine JO.nil ?_
    refine J.ret rfl rfl ?_
    refine ⟨_, _, ⟨none, 0, rfl, rfl⟩, rfl, fun h s => ?_⟩
    exact sl_nil_new (SubC.out h s)

def lE : Enc Hdr := hdrE 25
def cat2 (hs gs : List Hdr) (q : Nat) : List Hdr := if q = 0 then [] else if q = 1 then hs else hs ++ gs
theorem concat_ok {L : List Asn} {sa la lb : Option Addr} {n cap lc lc2 : Nat} {hs gs : List Hdr} [hS : SlIn lE L sa [⟨la, hs.length, lc⟩, ⟨lb, gs.length, lc2⟩]] [hA : SlIn hE L la hs] [hB : SlIn hE L lb gs] (hn : n = 2) (hnA : la = none → hs.length = 0 ∧ lc = 0) (hnB : lb = none → gs.length = 0 ∧ lc2 = 0) (hb1 : hs.length ≤ 400) (hb2 : gs.length ≤ 400) :
    CallS Try.prog 115 [.slice sa n cap].toArray L (fun v M => ∃ a' c', v = .slice a' (cat2 hs gs 2).length c' ∧ M = sl hE a' c' (hs ++ gs) :: L) := by
  subst hn
  refine CallS.ent ?_
  refine CallS.enter Try.func115 rfl rfl rfl rfl rfl ?_
  refine J.seq rfl ?_
  refine J.region rfl ?_
  refine JO.pur rfl rfl rfl (Pur.assign rfl) ?_
  refine JO.nil ?_
  refine J.seq rfl ?_
  refine J.region rfl ?_
  refine JO.pur rfl rfl rfl (Pur.assign rfl) ?_
  refine JO.nil ?_
  refine J.seq rfl ?_
  refine J.seq rfl ?_
  refine J.region rfl ?_
  refine JO.pur rfl rfl rfl (Pur.move rfl) ?_
  refine JO.pur rfl rfl rfl (Pur.len rfl) ?_
  refine JO.pur rfl rfl rfl (Pur.move rfl) ?_
  refine JO.nil ?_
  refine J.block rfl ?_
  refine J.loopF (ι := Nat) (fun q => q ≤ 2) (fun q => [(3, .int .i64 ((cat2 hs gs (q)).length : Int)), (11, .int .i64 (q : Int))]) [(0, _), (9, _), (10, _)] (fun q => L) (fun q => 2 - q) 0 rfl (.cons rfl rfl (.cons rfl rfl (.cons rfl rfl .nil))) (.cons rfl rfl (.cons rfl rfl .nil)) (by first | exact fun _ h => h | exact SubC.out | (dsimp only; exact SubC.out)) (Nat.zero_le _) ?_
  rintro q hq ihq
  try dsimp only
  refine J.seq rfl ?_
  refine J.region rfl ?_
  refine JO.pur rfl rfl rfl (Pur.lss rfl rfl) ?_
  refine JO.nil ?_
  refine J.seq rfl ?_
  refine J.splitB 12 rfl (fun h12 => ?_) (fun h12 => ?_)
  · try simp only [decide_eq_true_eq, decide_eq_false_iff_not, Bool.not_eq_true', Bool.not_eq_false', Bool.and_eq_true, Bool.or_eq_true, Bool.and_eq_false_iff, Bool.or_eq_false_iff, Option.isNone_some, Option.isSome_some, Option.isNone_none, Option.isSome_none, Int.not_lt, Int.not_le, beq_iff_eq, beq_eq_false_iff_ne, bne_iff_ne, ne_eq, Bool.not_not, Decidable.not_not] at h12
    have hq2 : q = 0 ∨ q = 1 := by omega
    obtain ⟨da, dn, dc, X, hH, hdn, hI, hcat, hnl, hxb⟩ : ∃ (da : Option Addr) (dn dc : Nat) (X : List Hdr), ([⟨la, hs.length, lc⟩, ⟨lb, gs.length, lc2⟩] : List Hdr)[q]? = some ⟨da, dn, dc⟩ ∧ dn = X.length ∧ SlIn hE L da X ∧ cat2 hs gs (q + 1) = cat2 hs gs q ++ X ∧ (da = none → dn = 0 ∧ dc = 0) ∧ X.length ≤ 400 := by
      rcases hq2 with rfl | rfl
      · exact ⟨la, hs.length, lc, hs, rfl, rfl, inferInstance, rfl, hnA, hb1⟩
      · exact ⟨lb, gs.length, lc2, gs, rfl, rfl, inferInstance, rfl, hnB, hb2⟩
    haveI := hI
    have hcl : (cat2 hs gs (q + 1)).length = (cat2 hs gs q).length + X.length := by rw [hcat, List.length_append]
    have hc2 : (cat2 hs gs q).length ≤ 800 := by unfold cat2; split; simp; split; omega; rw [List.length_append]; omega
    refine J.condT rfl rfl ?_
    refine J.skip rfl ?_
    refine J.seq rfl ?_
    refine J.block rfl ?_
    refine J.seq rfl ?_
    refine J.region rfl ?_
    refine JO.pur rfl rfl rfl (Pur.idx rfl rfl rfl (by first | rfl | (simp; done) | omega) rfl (by simp; omega)) ?_
    refine JO.pur rfl rfl rfl (Pur.load rfl (CellIn.el0 rfl hH rfl)) ?_
    refine JO.setv (u' := .slice da dn dc) 14 rfl rfl ?_
    refine JO.pur rfl rfl rfl (Pur.assign rfl) ?_
    refine JO.nil ?_
    refine J.seq rfl ?_
    refine J.region rfl ?_
    refine JO.pur rfl rfl rfl (Pur.move rfl) ?_
    refine JO.pur rfl rfl rfl (Pur.move rfl) ?_
    refine JO.pur rfl rfl rfl (Pur.len rfl) ?_
    refine JO.pur rfl rfl rfl (Pur.add rfl rfl (wr64 (by omega))) ?_
    refine JO.pur rfl rfl rfl (Pur.assign rfl) ?_
    refine JO.nil ?_
    refine J.seq rfl ?_
    refine J.region rfl ?_
    refine JO.pur rfl rfl rfl (Pur.move rfl) ?_
    refine JO.pur rfl rfl rfl (Pur.lss rfl rfl) ?_
    refine JO.nil ?_
    refine J.setv (u' := .bool false) 20 rfl (congrArg Value.bool (decide_eq_false (by omega))) ?_
    refine J.condF rfl rfl ?_
    refine J.skip rfl ?_
    refine J.inBlock ?_
    refine J.region rfl ?_
    refine JO.pur rfl rfl rfl (Pur.add rfl rfl (wr64 (by omega))) ?_
    refine JO.pur rfl rfl rfl (Pur.move rfl) ?_
    refine JO.nil ?_
    exact J.weaken (.cons rfl (congrArg (Value.int .i64) (by rw [hcl]; omega)) (.cons rfl (congrArg (Value.int .i64) (by first | rfl | (dsimp only; omega))) (.cons rfl rfl (.cons rfl rfl (.cons rfl rfl .nil))))) (by first | exact fun _ h => h | exact SubC.out | (dsimp only; exact SubC.out)) (ihq (q + 1) (by omega) (by omega))
  · try simp only [decide_eq_true_eq, decide_eq_false_iff_not, Bool.not_eq_true', Bool.not_eq_false', Bool.and_eq_true, Bool.or_eq_true, Bool.and_eq_false_iff, Bool.or_eq_false_iff, Option.isNone_some, Option.isSome_some, Option.isNone_none, Option.isSome_none, Int.not_lt, Int.not_le, beq_iff_eq, beq_eq_false_iff_ne, bne_iff_ne, ne_eq, Bool.not_not, Decidable.not_not] at h12
    have hqe : q = 2 := by omega
    have hcl2 : (cat2 hs gs 2).length ≤ 800 := by show (hs ++ gs).length ≤ 800; rw [List.length_append]; omega
    refine J.condF rfl rfl ?_
    refine J.exit rfl rfl ?_
    refine J.seq rfl ?_
    refine J.region rfl ?_
    refine JO.pur rfl rfl rfl (Pur.move rfl) ?_
    refine JO.eff rfl rfl rfl (Eff.call rfl (grow_ok (m := (cat2 hs gs q).length) (by rw [hqe]; omega))) ?_
    rintro _ _ ⟨a24, c24, rfl, rfl⟩
    refine JO.pur rfl rfl rfl (Pur.assign rfl) ?_
    refine JO.nil ?_
    refine J.seq rfl ?_
    refine J.seq rfl ?_
    refine J.region rfl ?_
    refine JO.pur rfl rfl rfl (Pur.move rfl) ?_
    refine JO.pur rfl rfl rfl (Pur.len rfl) ?_
    refine JO.pur rfl rfl rfl (Pur.move rfl) ?_
    refine JO.nil ?_
    refine J.block rfl ?_
    refine J.loopF (ι := Nat × Option Addr × Nat) (fun q => q.1 ≤ 2) (fun q => [(6, .slice q.2.1 (cat2 hs gs (q.1)).length q.2.2), (27, .int .i64 (q.1 : Int))]) [(25, _), (26, _)] (fun q => sl hE q.2.1 q.2.2 (cat2 hs gs (q.1)) :: L) (fun q => 2 - q.1) (0, a24, c24) rfl (.cons rfl rfl (.cons rfl rfl .nil)) (.cons rfl rfl (.cons rfl rfl .nil)) (by first | exact fun _ h => h | exact SubC.out | (dsimp only; exact SubC.out)) (Nat.zero_le _) ?_
    rintro ⟨q, a6, c6⟩ hq ihj
    try dsimp only
    dsimp only at hq
    refine J.seq rfl ?_
    refine J.region rfl ?_
    refine JO.pur rfl rfl rfl (Pur.lss rfl rfl) ?_
    refine JO.nil ?_
    refine J.seq rfl ?_
    refine J.splitB 28 rfl (fun h28 => ?_) (fun h28 => ?_)
    · try simp only [decide_eq_true_eq, decide_eq_false_iff_not, Bool.not_eq_true', Bool.not_eq_false', Bool.and_eq_true, Bool.or_eq_true, Bool.and_eq_false_iff, Bool.or_eq_false_iff, Option.isNone_some, Option.isSome_some, Option.isNone_none, Option.isSome_none, Int.not_lt, Int.not_le, beq_iff_eq, beq_eq_false_iff_ne, bne_iff_ne, ne_eq, Bool.not_not, Decidable.not_not] at h28
      have hq2 : q = 0 ∨ q = 1 := by omega
      obtain ⟨da, dn, dc, X, hH, hdn, hI, hcat, hnl, hxb⟩ : ∃ (da : Option Addr) (dn dc : Nat) (X : List Hdr), ([⟨la, hs.length, lc⟩, ⟨lb, gs.length, lc2⟩] : List Hdr)[q]? = some ⟨da, dn, dc⟩ ∧ dn = X.length ∧ SlIn hE L da X ∧ cat2 hs gs (q + 1) = cat2 hs gs q ++ X ∧ (da = none → dn = 0 ∧ dc = 0) ∧ X.length ≤ 400 := by
        rcases hq2 with rfl | rfl
        · exact ⟨la, hs.length, lc, hs, rfl, rfl, inferInstance, rfl, hnA, hb1⟩
        · exact ⟨lb, gs.length, lc2, gs, rfl, rfl, inferInstance, rfl, hnB, hb2⟩
      haveI := hI
      have hcl : (cat2 hs gs (q + 1)).length = (cat2 hs gs q).length + X.length := by rw [hcat, List.length_append]
      have hc2 : (cat2 hs gs q).length ≤ 800 := by unfold cat2; split; simp; split; omega; rw [List.length_append]; omega
      refine J.condT rfl rfl ?_
      refine J.skip rfl ?_
      refine J.seq rfl ?_
      refine J.block rfl ?_
      refine J.seq rfl ?_
      refine J.region rfl ?_
      refine JO.pur rfl rfl rfl (Pur.idx rfl rfl rfl (by first | rfl | (simp; done) | omega) rfl (by simp; omega)) ?_
      refine JO.pur rfl rfl rfl (Pur.load rfl (CellIn.el0 rfl hH rfl)) ?_
      refine JO.setv (u' := .slice da dn dc) 30 rfl rfl ?_
      refine JO.pur rfl rfl rfl (Pur.assign rfl) ?_
      refine JO.nil ?_
      refine J.region rfl ?_
      refine JO.pur rfl rfl rfl (Pur.move rfl) ?_
      refine JO.pur rfl rfl rfl (Pur.move rfl) ?_
      refine JO.eff rfl rfl rfl (Eff.append rfl rfl rfl rfl (by first | rfl | omega | (simp; done) | (simp; omega)) (by first | rfl | omega | (simp; done) | (simp; omega)) (by decide) (by omega) (by omega) hnl) ?_
      rintro _ _ ⟨a33, c33, rfl, rfl⟩
      refine JO.pur rfl rfl rfl (Pur.assign rfl) ?_
      refine JO.nil ?_
      refine J.inBlock ?_
      refine J.region rfl ?_
      refine JO.pur rfl rfl rfl (Pur.add rfl rfl (wr64 (by omega))) ?_
      refine JO.pur rfl rfl rfl (Pur.move rfl) ?_
      refine JO.nil ?_
      exact J.weaken (.cons rfl (by dsimp only; rw [hcl]) (.cons rfl (congrArg (Value.int .i64) (by first | rfl | (dsimp only; omega))) (.cons rfl rfl (.cons rfl rfl .nil)))) (fun h s => by dsimp only; rw [hcat]; exact SubC.out h s) (ihj (q + 1, a33, c33) (by dsimp only; omega) (by dsimp only; omega))
    · try simp only [decide_eq_true_eq, decide_eq_false_iff_not, Bool.not_eq_true', Bool.not_eq_false', Bool.and_eq_true, Bool.or_eq_true, Bool.and_eq_false_iff, Bool.or_eq_false_iff, Option.isNone_some, Option.isSome_some, Option.isNone_none, Option.isSome_none, Int.not_lt, Int.not_le, beq_iff_eq, beq_eq_false_iff_ne, bne_iff_ne, ne_eq, Bool.not_not, Decidable.not_not] at h28
      have hqe : q = 2 := by omega
      refine J.condF rfl rfl ?_
      refine J.exit rfl rfl ?_
      refine J.seq rfl ?_
      refine J.region rfl ?_
      refine JO.pur rfl rfl rfl (Pur.move rfl) ?_
      refine JO.pur rfl rfl rfl (Pur.assign rfl) ?_
      refine JO.nil ?_
      refine J.ret rfl rfl ?_
      refine ⟨_, _, ⟨a6, c6, rfl, rfl⟩, by rw [hqe]; rfl, fun h s => ?_⟩
      rw [hqe] at s
      change Sat h (sl hE a6 c6 (hs ++ gs) :: L) at s
      exact SubC.out h s

end Go.Proofs.Ytnhippfllgnngaa

/- The text SpPlainC. -/
set_option linter.unusedVariables false
set_option linter.unusedSimpArgs false
namespace Go.Proofs.Ytnhippfllgnngaa
open Go Go.KK Dm
theorem sub_lift {α β : Type} {f : α → β} {ys : List β} {gs : List α} (h : ys.Sublist (gs.map f)) : ∃ gs2 : List α, gs2.Sublist gs ∧ gs2.map f = ys := by
  obtain ⟨l, h1, h2⟩ := List.sublist_map_iff.1 h
  exact ⟨l, h1, h2.symm⟩
theorem plc_cpt {rs : List Rg} {es ys : List (Int × Hdr)} {xss : List (List Int)} (h : es.map (·.1) = xss.map (atS rs)) (p : ys.Sublist es) : ∃ yss : List (List Int), yss.Sublist xss ∧ ys.map (·.1) = yss.map (atS rs) ∧ ys.length = yss.length ∧ ((ys.map (·.2)).zip yss).Sublist ((es.map (·.2)).zip xss) := by
  have hl : es.length = xss.length := by have := congrArg List.length h; simpa using this
  obtain ⟨e1, e2⟩ := fst_zip hl
  obtain ⟨gs, pg, eg⟩ := sub_lift (ys := ys) (f := fun g : (Int × Hdr) × List Int => g.1) (gs := es.zip xss) (by rw [e1]; exact p)
  refine ⟨gs.map (·.2), by have := pg.map (·.2); rwa [e2] at this, ?_, by rw [← eg]; simp, ?_⟩
  · rw [← eg, List.map_map, List.map_map]
    apply List.map_congr_left
    intro g hg
    exact zip_fst_at h g (pg.subset hg)
  · rw [zip_map_snd, zip_map_snd, ← eg, zip_back]
    exact pg.map _
theorem srt_pw {rs : List Rg} {es : List (Int × Hdr)} {zs : List (List Int)} {r : Int → Int → Prop} (h : es.map (·.1) = zs.map (atS rs)) (hp : es.Pairwise fun x y => r (enK x) (enK y)) : zs.Pairwise fun x y => r (atS rs x) (atS rs y) := by
  have h1 : (es.map (·.1)).Pairwise r := List.pairwise_map.2 hp
  rw [h] at h1
  exact List.pairwise_map.1 h1
/-- What is made of all places of two lists. -/
theorem add_made {rs : List Rg} {ls zss zs : List (List Int)} {es cs : List (Int × Hdr)} (hok : okD rs) (hall : ∀ x ∈ ls, (plD rs x).isSome = true) (hp : zss.Perm ls) (he : es.map (·.1) = zss.map (atS rs)) (hs : srtd enK es) (hc : cs = cptN enK es es.length) (hz : zs.Sublist zss) (hz1 : cs.map (·.1) = zs.map (atS rs)) : madeL rs (ls.map (atS rs)) = zs := by
  have hsome : ∀ y ∈ zs, (plD rs y).isSome = true := fun y hy => hall y (hp.mem_iff.1 (hz.subset hy))
  have hasc : zs.Pairwise fun x y => atS rs x < atS rs y := srt_pw (r := (· < ·)) hz1 (by rw [hc]; exact cptN_asc hs _ (Nat.le_refl _))
  rw [← made_of hok hsome hasc]
  refine made_congr fun t => ?_
  have h1 : (t ∈ ls.map (atS rs)) ↔ t ∈ es.map (·.1) := by rw [he]; exact ((hp.map (atS rs)).mem_iff).symm
  rw [h1, ← hz1]
  constructor
  · intro h
    obtain ⟨e, he1, rfl⟩ := List.mem_map.1 h
    obtain ⟨i, hi, e2⟩ := List.getElem_of_mem he1
    obtain ⟨c, hc1, hc2⟩ := cptN_mem (ky := enK) hs es.length (Nat.le_refl _) i e hi (by rw [List.getElem?_eq_getElem hi, e2])
    rw [← hc] at hc1
    exact List.mem_map.2 ⟨c, hc1, hc2⟩
  · intro h
    obtain ⟨c, hc1, rfl⟩ := List.mem_map.1 h
    rw [hc] at hc1
    have := (cptN_sub (ky := enK) (es := es) es.length (Nat.le_refl _)).subset hc1
    rw [List.take_length] at this
    exact List.mem_map.2 ⟨c, this, rfl⟩
abbrev SpRn := (List Rg × List (List Int)) × Int
/-- All indexes of a list added. -/
def addS (rs : List Rg) (xss yss : List (List Int)) : SpRn := if ¬ okS rs xss then (([], []), 50) else if ¬ ∀ y ∈ yss, (plV rs y).2 = 0 then (([], []), 2) else
  if 400 < (madeL rs ((xss ++ yss).map (atS rs))).length then (([], []), 4) else ((rs, madeL rs ((xss ++ yss).map (atS rs))), 0)
def addN (rs : List Rg) (xss yss : List (List Int)) : Int := if (addS rs xss yss).2 ≠ 0 then 0 else ((addS rs xss yss).1.2.length : Int) - (xss.length : Int)
theorem plc_app {rs : List Rg} {xss yss : List (List Int)} (hs : okS rs xss) : (plcV rs (xss ++ yss)).2 = decide (∀ y ∈ yss, (plV rs y).2 = 0) := by
  by_cases h : ∀ y ∈ yss, (plV rs y).2 = 0
  · rw [plcV_yes (fun x hx => ?_), decide_eq_true h]
    rcases List.mem_append.1 hx with hx | hx
    · exact (plV_ok hs.1 x).1.2 (okS_some hs hx)
    · exact h x hx
  · rw [plcV_no (fun g => h fun y hy => g y (List.mem_append_right _ hy)), decide_eq_false h]
instance RowsR.app {α : Type} {E : Enc α} {L : List Asn} {hs gs : List Hdr} {xss yss : List (List α)} [h1 : RowsR E L hs xss] [h2 : RowsR E L gs yss] : RowsR E L (hs ++ gs) (xss ++ yss) := ⟨fun h s => by
  obtain ⟨a1, b1⟩ := h1.out h s
  obtain ⟨a2, b2⟩ := h2.out h s
  have hl : hs.length = xss.length := rows_len a1
  refine ⟨by rw [List.map_append, List.map_append, a1, a2], fun i hd xs e1 e2 => ?_⟩
  by_cases hi : i < hs.length
  · rw [List.getElem?_append_left hi] at e1
    rw [List.getElem?_append_left (by omega)] at e2
    exact b1 i hd xs e1 e2
  · rw [List.getElem?_append_right (by omega)] at e1
    rw [List.getElem?_append_right (by omega), ← hl] at e2
    exact b2 _ hd xs e1 e2⟩
end Go.Proofs.Ytnhippfllgnngaa

/- The text SJ4. -/
set_option linter.unusedVariables false
set_option linter.unusedSimpArgs false
set_option maxRecDepth 10000
namespace Go.Proofs.Ytnhippfllgnngaa
open Go Go.KK Dm

abbrev SpR := (List Rg × List (List Int)) × Int
def newS (rs : List Rg) : SpR := if ¬ okD rs then (([], []), 50) else ((rs, []), 0)
def denS (rs : List Rg) : SpR := if ¬ okD rs then (([], []), 50) else if 400 < cntD rs then (([], []), 4) else ((rs, idx rs), 0)
def prtS (rs : List Rg) (xss : List (List Int)) (ss : List Rg) : SpR := if ¬ (okS rs xss ∧ okD ss) then (([], []), 50) else if ss.length ≠ rs.length then (([], []), 2) else ((rs, xss.filter fun x => (hasV ss x).1), 0)
end Go.Proofs.Ytnhippfllgnngaa
