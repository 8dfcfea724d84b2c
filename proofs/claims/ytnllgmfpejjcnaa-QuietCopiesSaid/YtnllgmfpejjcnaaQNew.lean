/-
  A part of the proof of the claim that this folder bears.
  This text: QNew.
-/
import Derived.Test.YtnllgmfpejjcnaaQRead
set_option linter.unusedVariables false
set_option linter.unusedSimpArgs false
namespace Go.Proofs.Ytnllgmfpejjcnaa
open Go Go.KK Qt

theorem new_ok {L : List Asn} (n : Int) :
    CallS Try.prog 32 [.int .i64 n].toArray L (fun v M => ((n < 1 ∨ 8 < n) ∧ v = .tuple #[.pointer none, .int .i64 2] ∧ M = L) ∨ ∃ r, (1 ≤ n ∧ n ≤ 8) ∧ v = .tuple #[.pointer (some ⟨r, 0, none⟩), .int .i64 0] ∧ M = ringA r (init n.toNat) :: L) := by
  refine CallS.ent ?_
  refine CallS.enter Try.func32 rfl rfl rfl rfl rfl ?_
  refine J.seq rfl ?_
  refine J.region rfl ?_
  refine JO.pur rfl rfl rfl (Pur.assign rfl) ?_
  refine JO.pur rfl rfl rfl (Pur.assign rfl) ?_
  refine JO.nil ?_
  refine J.seq rfl ?_
  refine J.seq rfl ?_
  refine J.region rfl ?_
  refine JO.pur rfl rfl rfl (Pur.move rfl) ?_
  refine JO.pur rfl rfl rfl (Pur.lss rfl rfl) ?_
  refine JO.pur rfl rfl rfl (Pur.move rfl) ?_
  refine JO.splitB 7 rfl (fun h7 => ?_) (fun h7 => ?_)
  · try simp only [decide_eq_true_eq, decide_eq_false_iff_not, Bool.not_eq_true', Bool.not_eq_false', Bool.and_eq_true, Bool.or_eq_true, Bool.and_eq_false_iff, Bool.or_eq_false_iff, Option.isNone_some, Option.isSome_some, Option.isNone_none, Option.isSome_none, Int.not_lt, Int.not_le, beq_iff_eq, beq_eq_false_iff_ne, bne_iff_ne, ne_eq, Bool.not_not, Decidable.not_not] at h7
    refine JO.no rfl rfl rfl ?_
    refine JO.no rfl rfl rfl ?_
    refine JO.pur rfl rfl rfl (Pur.pickT rfl rfl) ?_
    refine JO.nil ?_
    refine J.condT rfl rfl ?_
    refine J.seq rfl ?_
    refine J.region rfl ?_
    refine JO.pur rfl rfl rfl (Pur.assign rfl) ?_
    refine JO.pur rfl rfl rfl (Pur.assign rfl) ?_
    refine JO.nil ?_
    refine J.ret rfl rfl ?_
    refine ⟨_, _, .inl ⟨by omega, rfl, rfl⟩, rfl, fun _ h => h⟩
  · try simp only [decide_eq_true_eq, decide_eq_false_iff_not, Bool.not_eq_true', Bool.not_eq_false', Bool.and_eq_true, Bool.or_eq_true, Bool.and_eq_false_iff, Bool.or_eq_false_iff, Option.isNone_some, Option.isSome_some, Option.isNone_none, Option.isSome_none, Int.not_lt, Int.not_le, beq_iff_eq, beq_eq_false_iff_ne, bne_iff_ne, ne_eq, Bool.not_not, Decidable.not_not] at h7
    refine JO.pur rfl rfl rfl (Pur.move rfl) ?_
    refine JO.pur rfl rfl rfl (Pur.gtr rfl rfl) ?_
    refine JO.pur rfl rfl rfl (Pur.pickF rfl rfl) ?_
    refine JO.nil ?_
    refine J.splitB 10 rfl (fun h10 => ?_) (fun h10 => ?_)
    · try simp only [decide_eq_true_eq, decide_eq_false_iff_not, Bool.not_eq_true', Bool.not_eq_false', Bool.and_eq_true, Bool.or_eq_true, Bool.and_eq_false_iff, Bool.or_eq_false_iff, Option.isNone_some, Option.isSome_some, Option.isNone_none, Option.isSome_none, Int.not_lt, Int.not_le, beq_iff_eq, beq_eq_false_iff_ne, bne_iff_ne, ne_eq, Bool.not_not, Decidable.not_not] at h10
      refine J.condT rfl rfl ?_
      refine J.seq rfl ?_
      refine J.region rfl ?_
      refine JO.pur rfl rfl rfl (Pur.assign rfl) ?_
      refine JO.pur rfl rfl rfl (Pur.assign rfl) ?_
      refine JO.nil ?_
      refine J.ret rfl rfl ?_
      refine ⟨_, _, .inl ⟨by omega, rfl, rfl⟩, rfl, fun _ h => h⟩
    · try simp only [decide_eq_true_eq, decide_eq_false_iff_not, Bool.not_eq_true', Bool.not_eq_false', Bool.and_eq_true, Bool.or_eq_true, Bool.and_eq_false_iff, Bool.or_eq_false_iff, Option.isNone_some, Option.isSome_some, Option.isNone_none, Option.isSome_none, Int.not_lt, Int.not_le, beq_iff_eq, beq_eq_false_iff_ne, bne_iff_ne, ne_eq, Bool.not_not, Decidable.not_not] at h10
      obtain ⟨m, rfl⟩ := Int.eq_ofNat_of_zero_le (show 0 ≤ n by omega)
      have hz : (List.replicate m (⟨false, false, 0⟩ : Spot))[0]? = some ⟨false, false, 0⟩ := by simp [List.getElem?_replicate]; omega
      have hzb : (List.replicate m false)[0]? = some false := by simp [List.getElem?_replicate]; omega
      refine J.condF rfl rfl ?_
      refine J.skip rfl ?_
      refine J.seq rfl ?_
      refine J.region rfl ?_
      refine JO.pur rfl rfl rfl (Pur.move rfl) ?_
      refine JO.eff rfl rfl rfl (Eff.make spotE (⟨false, false, 0⟩ : Spot) rfl rfl rfl rfl rfl (by decide) (by omega) (by omega)) ?_
      rintro _ _ ⟨b12, rfl, rfl⟩
      refine JO.pur rfl rfl rfl (Pur.build (cs := [_, _, _, _, _, _, _, _]) rfl rfl) ?_
      refine JO.eff rfl rfl rfl (Eff.box (cs := [_, _, _, _, _, _, _, _]) rfl rfl) ?_
      rintro _ _ ⟨b14, rfl, rfl⟩
      refine JO.pur rfl rfl rfl (Pur.assign rfl) ?_
      refine JO.nil ?_
      refine J.seq rfl ?_
      refine J.region rfl ?_
      refine JO.pur rfl rfl rfl (Pur.move rfl) ?_
      refine JO.pur rfl rfl rfl (Pur.nilCheck rfl) ?_
      refine JO.pur rfl rfl rfl (Pur.fieldAddr rfl) ?_
      refine JO.pur rfl rfl rfl (Pur.load rfl (CellIn.blk rfl)) ?_
      refine JO.pur rfl rfl rfl (Pur.idx (k := 0) rfl rfl rfl (by first | rfl | simp) rfl (by first | omega | (simp only [List.length_map]; omega) | (simp; omega))) ?_
      refine JO.pur rfl rfl rfl (Pur.fieldAddr rfl) ?_
      refine JO.effN rfl rfl (Eff.storeS (E := spotE) (a := some ⟨b12, 0, none⟩) (z' := (⟨true, false, 0⟩ : Spot)) rfl rfl rfl rfl hz .head) ?_
      rintro _ _ ⟨rfl, rfl⟩
      refine JO.nil ?_
      refine J.seq rfl ?_
      refine J.region rfl ?_
      refine JO.pur rfl rfl rfl (Pur.move rfl) ?_
      refine JO.pur rfl rfl rfl (Pur.assign rfl) ?_
      refine JO.pur rfl rfl rfl (Pur.assign rfl) ?_
      refine JO.nil ?_
      refine J.ret rfl rfl ?_
      refine ⟨_, _, .inr ⟨b14, ⟨by omega, by omega⟩, rfl, rfl⟩, rfl, fun h hs => ?_⟩
      exact ring_shut (σ := init m) (by simp [init]) rfl (Sat.cons_imp (fun _ h => h) (fun _ hs => Sat.cons_imp (fun _ h => h) (fun _ hs => sl_nil_new hs) hs) hs)

theorem rnew_ok {L : List Asn} (n : Int) :
    CallS Try.prog 33 [.int .i64 n].toArray L (fun v M => ((n < 1 ∨ 8 < n) ∧ v = .tuple #[.pointer none, .int .i64 2] ∧ M = L) ∨ ∃ r, (1 ≤ n ∧ n ≤ 8) ∧ v = .tuple #[.pointer (some ⟨r, 0, none⟩), .int .i64 0] ∧ M = refA r (init n.toNat) :: L) := by
  refine CallS.ent ?_
  refine CallS.enter Try.func33 rfl rfl rfl rfl rfl ?_
  refine J.seq rfl ?_
  refine J.region rfl ?_
  refine JO.pur rfl rfl rfl (Pur.assign rfl) ?_
  refine JO.pur rfl rfl rfl (Pur.assign rfl) ?_
  refine JO.nil ?_
  refine J.seq rfl ?_
  refine J.seq rfl ?_
  refine J.region rfl ?_
  refine JO.pur rfl rfl rfl (Pur.move rfl) ?_
  refine JO.pur rfl rfl rfl (Pur.lss rfl rfl) ?_
  refine JO.pur rfl rfl rfl (Pur.move rfl) ?_
  refine JO.splitB 7 rfl (fun h7 => ?_) (fun h7 => ?_)
  · try simp only [decide_eq_true_eq, decide_eq_false_iff_not, Bool.not_eq_true', Bool.not_eq_false', Bool.and_eq_true, Bool.or_eq_true, Bool.and_eq_false_iff, Bool.or_eq_false_iff, Option.isNone_some, Option.isSome_some, Option.isNone_none, Option.isSome_none, Int.not_lt, Int.not_le, beq_iff_eq, beq_eq_false_iff_ne, bne_iff_ne, ne_eq, Bool.not_not, Decidable.not_not] at h7
    refine JO.no rfl rfl rfl ?_
    refine JO.no rfl rfl rfl ?_
    refine JO.pur rfl rfl rfl (Pur.pickT rfl rfl) ?_
    refine JO.nil ?_
    refine J.condT rfl rfl ?_
    refine J.seq rfl ?_
    refine J.region rfl ?_
    refine JO.pur rfl rfl rfl (Pur.assign rfl) ?_
    refine JO.pur rfl rfl rfl (Pur.assign rfl) ?_
    refine JO.nil ?_
    refine J.ret rfl rfl ?_
    refine ⟨_, _, .inl ⟨by omega, rfl, rfl⟩, rfl, fun _ h => h⟩
  · try simp only [decide_eq_true_eq, decide_eq_false_iff_not, Bool.not_eq_true', Bool.not_eq_false', Bool.and_eq_true, Bool.or_eq_true, Bool.and_eq_false_iff, Bool.or_eq_false_iff, Option.isNone_some, Option.isSome_some, Option.isNone_none, Option.isSome_none, Int.not_lt, Int.not_le, beq_iff_eq, beq_eq_false_iff_ne, bne_iff_ne, ne_eq, Bool.not_not, Decidable.not_not] at h7
    refine JO.pur rfl rfl rfl (Pur.move rfl) ?_
    refine JO.pur rfl rfl rfl (Pur.gtr rfl rfl) ?_
    refine JO.pur rfl rfl rfl (Pur.pickF rfl rfl) ?_
    refine JO.nil ?_
    refine J.splitB 10 rfl (fun h10 => ?_) (fun h10 => ?_)
    · try simp only [decide_eq_true_eq, decide_eq_false_iff_not, Bool.not_eq_true', Bool.not_eq_false', Bool.and_eq_true, Bool.or_eq_true, Bool.and_eq_false_iff, Bool.or_eq_false_iff, Option.isNone_some, Option.isSome_some, Option.isNone_none, Option.isSome_none, Int.not_lt, Int.not_le, beq_iff_eq, beq_eq_false_iff_ne, bne_iff_ne, ne_eq, Bool.not_not, Decidable.not_not] at h10
      refine J.condT rfl rfl ?_
      refine J.seq rfl ?_
      refine J.region rfl ?_
      refine JO.pur rfl rfl rfl (Pur.assign rfl) ?_
      refine JO.pur rfl rfl rfl (Pur.assign rfl) ?_
      refine JO.nil ?_
      refine J.ret rfl rfl ?_
      refine ⟨_, _, .inl ⟨by omega, rfl, rfl⟩, rfl, fun _ h => h⟩
    · try simp only [decide_eq_true_eq, decide_eq_false_iff_not, Bool.not_eq_true', Bool.not_eq_false', Bool.and_eq_true, Bool.or_eq_true, Bool.and_eq_false_iff, Bool.or_eq_false_iff, Option.isNone_some, Option.isSome_some, Option.isNone_none, Option.isSome_none, Int.not_lt, Int.not_le, beq_iff_eq, beq_eq_false_iff_ne, bne_iff_ne, ne_eq, Bool.not_not, Decidable.not_not] at h10
      obtain ⟨m, rfl⟩ := Int.eq_ofNat_of_zero_le (show 0 ≤ n by omega)
      have hz : (List.replicate m (⟨false, false, 0⟩ : Spot))[0]? = some ⟨false, false, 0⟩ := by simp [List.getElem?_replicate]; omega
      have hzb : (List.replicate m false)[0]? = some false := by simp [List.getElem?_replicate]; omega
      refine J.condF rfl rfl ?_
      refine J.skip rfl ?_
      refine J.seq rfl ?_
      refine J.mask0 (n := 10) [] rfl Try.mixed rfl (by kernel_rfl) ?_
      refine JM.take 0 (fun _ h => h) rfl (by kernel_rfl) rfl rfl rfl (m' := 1) rfl (Pur.move rfl) ?_
      refine JM.take 1 (fun _ h => h) rfl (by kernel_rfl) rfl rfl rfl (m' := 3) rfl (Pur.move rfl) ?_
      refine JM.take 3 (fun _ h => h) rfl (by kernel_rfl) rfl rfl rfl (m' := 11) rfl (Pur.move rfl) ?_
      refine JM.take 5 (fun _ h => h) rfl (by kernel_rfl) rfl rfl rfl (m' := 43) rfl (Pur.move rfl) ?_
      refine JM.many (rs := [2, 4, 6]) (by kernel_rfl) rfl (fun i hi => ?_)
      simp only [List.mem_cons, List.not_mem_nil, or_false] at hi
      rcases hi with rfl | rfl | rfl
      · skip
        refine JMi.eff rfl rfl rfl rfl (m' := 47) rfl (Eff.make boolE false rfl rfl rfl rfl rfl (by decide) (by omega) (by omega)) ?_
        rintro _ _ ⟨b13, rfl, rfl⟩
        refine ⟨.inr (fun _ h => h.tail), ?_⟩
        refine JM.many (rs := [4, 6]) (by kernel_rfl) rfl (fun i hi => ?_)
        simp only [List.mem_cons, List.not_mem_nil, or_false] at hi
        rcases hi with rfl | rfl
        · skip
          refine JMi.eff rfl rfl rfl rfl (m' := 63) rfl (Eff.make boolE false rfl rfl rfl rfl rfl (by decide) (by omega) (by omega)) ?_
          rintro _ _ ⟨b15, rfl, rfl⟩
          refine ⟨.inr (fun _ h => h.tail.tail), ?_⟩
          refine JM.one (i := 6) (by kernel_rfl) ?_
          refine JMi.eff rfl rfl rfl rfl (m' := 127) rfl (Eff.make intE (0 : Int) rfl rfl rfl rfl rfl (by decide) (by omega) (by omega)) ?_
          rintro _ _ ⟨b17, rfl, rfl⟩
          refine ⟨.inr (fun _ h => h.tail.tail.tail), ?_⟩
          refine JM.take 7 (fun _ h => h.tail.tail.tail) rfl (by kernel_rfl) rfl rfl rfl (m' := 255) rfl (Pur.build (cs := [_, _, _, _, _, _, _, _, _, _, _]) rfl rfl) ?_
          refine JM.one (i := 8) (by kernel_rfl) ?_
          refine JMi.eff rfl rfl rfl rfl (m' := 511) rfl (Eff.box (cs := [_, _, _, _, _, _, _, _, _, _, _]) rfl rfl) ?_
          rintro _ _ ⟨b19, rfl, rfl⟩
          refine ⟨.inr (fun _ h => h.tail.tail.tail.tail), ?_⟩
          refine JM.take 9 (fun _ h => h.tail.tail.tail.tail) rfl (by kernel_rfl) rfl rfl rfl (m' := 1023) rfl (Pur.assign rfl) ?_
          refine JM.done rfl ?_
          refine J.seq rfl ?_
          refine J.region rfl ?_
          refine JO.pur rfl rfl rfl (Pur.move rfl) ?_
          refine JO.pur rfl rfl rfl (Pur.nilCheck rfl) ?_
          refine JO.pur rfl rfl rfl (Pur.fieldAddr rfl) ?_
          refine JO.pur rfl rfl rfl (Pur.load rfl (CellIn.blk rfl)) ?_
          refine JO.pur rfl rfl rfl (Pur.idx (k := 0) rfl rfl rfl (by first | rfl | simp) rfl (by first | omega | (simp only [List.length_map]; omega) | (simp; omega))) ?_
          refine JO.effN rfl rfl (Eff.storeS0 (E := boolE) (a := some ⟨b13, 0, none⟩) (z' := true) rfl rfl rfl rfl hzb .head) ?_
          rintro _ _ ⟨rfl, rfl⟩
          refine JO.nil ?_
          refine J.seq rfl ?_
          refine J.region rfl ?_
          refine JO.pur rfl rfl rfl (Pur.move rfl) ?_
          refine JO.pur rfl rfl rfl (Pur.assign rfl) ?_
          refine JO.pur rfl rfl rfl (Pur.assign rfl) ?_
          refine JO.nil ?_
          refine J.ret rfl rfl ?_
          refine ⟨_, _, .inr ⟨b19, ⟨by omega, by omega⟩, rfl, rfl⟩, rfl, fun h hs => ?_⟩
          first
            | exact ref_shut (σ := init m) (Sat.pull (.tail (.tail (.tail (.tail .head)))) (Sat.pull (.tail (.tail (.tail (.tail .head)))) (Sat.pull (.tail (.tail (.tail (.tail .head)))) (Sat.pull (.tail (.tail (.tail (.tail .head)))) (sl_nil_new (E := pairE) hs))))) (by simp [init]) rfl rfl (by simp [init, List.map_set]) (by simp [init, List.map_set]) (by simp [init, List.map_set]) rfl
            | exact ref_shut (σ := init m) (Sat.pull (.tail (.tail (.tail (.tail .head)))) (Sat.pull (.tail (.tail (.tail (.tail .head)))) (Sat.pull (.tail (.tail (.tail (.tail .head)))) (Sat.pull (.tail (.tail (.tail .head))) (sl_nil_new (E := pairE) hs))))) (by simp [init]) rfl rfl (by simp [init, List.map_set]) (by simp [init, List.map_set]) (by simp [init, List.map_set]) rfl
            | exact ref_shut (σ := init m) (Sat.pull (.tail (.tail (.tail (.tail .head)))) (Sat.pull (.tail (.tail (.tail (.tail .head)))) (Sat.pull (.tail (.tail (.tail .head))) (Sat.pull (.tail (.tail (.tail (.tail .head)))) (sl_nil_new (E := pairE) hs))))) (by simp [init]) rfl rfl (by simp [init, List.map_set]) (by simp [init, List.map_set]) (by simp [init, List.map_set]) rfl
            | exact ref_shut (σ := init m) (Sat.pull (.tail (.tail (.tail (.tail .head)))) (Sat.pull (.tail (.tail (.tail (.tail .head)))) (Sat.pull (.tail (.tail (.tail .head))) (Sat.pull (.tail (.tail (.tail .head))) (sl_nil_new (E := pairE) hs))))) (by simp [init]) rfl rfl (by simp [init, List.map_set]) (by simp [init, List.map_set]) (by simp [init, List.map_set]) rfl
            | exact ref_shut (σ := init m) (Sat.pull (.tail (.tail (.tail (.tail .head)))) (Sat.pull (.tail (.tail (.tail (.tail .head)))) (Sat.pull (.tail (.tail (.tail (.tail .head)))) (Sat.pull (.tail (.tail .head)) (sl_nil_new (E := pairE) hs))))) (by simp [init]) rfl rfl (by simp [init, List.map_set]) (by simp [init, List.map_set]) (by simp [init, List.map_set]) rfl
            | exact ref_shut (σ := init m) (Sat.pull (.tail (.tail (.tail (.tail .head)))) (Sat.pull (.tail (.tail (.tail (.tail .head)))) (Sat.pull (.tail (.tail (.tail .head))) (Sat.pull (.tail (.tail .head)) (sl_nil_new (E := pairE) hs))))) (by simp [init]) rfl rfl (by simp [init, List.map_set]) (by simp [init, List.map_set]) (by simp [init, List.map_set]) rfl
        · skip
          refine JMi.eff rfl rfl rfl rfl (m' := 111) rfl (Eff.make intE (0 : Int) rfl rfl rfl rfl rfl (by decide) (by omega) (by omega)) ?_
          rintro _ _ ⟨b17, rfl, rfl⟩
          refine ⟨.inr (fun _ h => h.tail.tail), ?_⟩
          refine JM.one (i := 4) (by kernel_rfl) ?_
          refine JMi.eff rfl rfl rfl rfl (m' := 127) rfl (Eff.make boolE false rfl rfl rfl rfl rfl (by decide) (by omega) (by omega)) ?_
          rintro _ _ ⟨b15, rfl, rfl⟩
          refine ⟨.inr (fun _ h => h.tail.tail.tail), ?_⟩
          refine JM.take 7 (fun _ h => h.tail.tail.tail) rfl (by kernel_rfl) rfl rfl rfl (m' := 255) rfl (Pur.build (cs := [_, _, _, _, _, _, _, _, _, _, _]) rfl rfl) ?_
          refine JM.one (i := 8) (by kernel_rfl) ?_
          refine JMi.eff rfl rfl rfl rfl (m' := 511) rfl (Eff.box (cs := [_, _, _, _, _, _, _, _, _, _, _]) rfl rfl) ?_
          rintro _ _ ⟨b19, rfl, rfl⟩
          refine ⟨.inr (fun _ h => h.tail.tail.tail.tail), ?_⟩
          refine JM.take 9 (fun _ h => h.tail.tail.tail.tail) rfl (by kernel_rfl) rfl rfl rfl (m' := 1023) rfl (Pur.assign rfl) ?_
          refine JM.done rfl ?_
          refine J.seq rfl ?_
          refine J.region rfl ?_
          refine JO.pur rfl rfl rfl (Pur.move rfl) ?_
          refine JO.pur rfl rfl rfl (Pur.nilCheck rfl) ?_
          refine JO.pur rfl rfl rfl (Pur.fieldAddr rfl) ?_
          refine JO.pur rfl rfl rfl (Pur.load rfl (CellIn.blk rfl)) ?_
          refine JO.pur rfl rfl rfl (Pur.idx (k := 0) rfl rfl rfl (by first | rfl | simp) rfl (by first | omega | (simp only [List.length_map]; omega) | (simp; omega))) ?_
          refine JO.effN rfl rfl (Eff.storeS0 (E := boolE) (a := some ⟨b13, 0, none⟩) (z' := true) rfl rfl rfl rfl hzb .head) ?_
          rintro _ _ ⟨rfl, rfl⟩
          refine JO.nil ?_
          refine J.seq rfl ?_
          refine J.region rfl ?_
          refine JO.pur rfl rfl rfl (Pur.move rfl) ?_
          refine JO.pur rfl rfl rfl (Pur.assign rfl) ?_
          refine JO.pur rfl rfl rfl (Pur.assign rfl) ?_
          refine JO.nil ?_
          refine J.ret rfl rfl ?_
          refine ⟨_, _, .inr ⟨b19, ⟨by omega, by omega⟩, rfl, rfl⟩, rfl, fun h hs => ?_⟩
          first
            | exact ref_shut (σ := init m) (Sat.pull (.tail (.tail (.tail (.tail .head)))) (Sat.pull (.tail (.tail (.tail (.tail .head)))) (Sat.pull (.tail (.tail (.tail (.tail .head)))) (Sat.pull (.tail (.tail (.tail (.tail .head)))) (sl_nil_new (E := pairE) hs))))) (by simp [init]) rfl rfl (by simp [init, List.map_set]) (by simp [init, List.map_set]) (by simp [init, List.map_set]) rfl
            | exact ref_shut (σ := init m) (Sat.pull (.tail (.tail (.tail (.tail .head)))) (Sat.pull (.tail (.tail (.tail (.tail .head)))) (Sat.pull (.tail (.tail (.tail (.tail .head)))) (Sat.pull (.tail (.tail (.tail .head))) (sl_nil_new (E := pairE) hs))))) (by simp [init]) rfl rfl (by simp [init, List.map_set]) (by simp [init, List.map_set]) (by simp [init, List.map_set]) rfl
            | exact ref_shut (σ := init m) (Sat.pull (.tail (.tail (.tail (.tail .head)))) (Sat.pull (.tail (.tail (.tail (.tail .head)))) (Sat.pull (.tail (.tail (.tail .head))) (Sat.pull (.tail (.tail (.tail (.tail .head)))) (sl_nil_new (E := pairE) hs))))) (by simp [init]) rfl rfl (by simp [init, List.map_set]) (by simp [init, List.map_set]) (by simp [init, List.map_set]) rfl
            | exact ref_shut (σ := init m) (Sat.pull (.tail (.tail (.tail (.tail .head)))) (Sat.pull (.tail (.tail (.tail (.tail .head)))) (Sat.pull (.tail (.tail (.tail .head))) (Sat.pull (.tail (.tail (.tail .head))) (sl_nil_new (E := pairE) hs))))) (by simp [init]) rfl rfl (by simp [init, List.map_set]) (by simp [init, List.map_set]) (by simp [init, List.map_set]) rfl
            | exact ref_shut (σ := init m) (Sat.pull (.tail (.tail (.tail (.tail .head)))) (Sat.pull (.tail (.tail (.tail (.tail .head)))) (Sat.pull (.tail (.tail (.tail (.tail .head)))) (Sat.pull (.tail (.tail .head)) (sl_nil_new (E := pairE) hs))))) (by simp [init]) rfl rfl (by simp [init, List.map_set]) (by simp [init, List.map_set]) (by simp [init, List.map_set]) rfl
            | exact ref_shut (σ := init m) (Sat.pull (.tail (.tail (.tail (.tail .head)))) (Sat.pull (.tail (.tail (.tail (.tail .head)))) (Sat.pull (.tail (.tail (.tail .head))) (Sat.pull (.tail (.tail .head)) (sl_nil_new (E := pairE) hs))))) (by simp [init]) rfl rfl (by simp [init, List.map_set]) (by simp [init, List.map_set]) (by simp [init, List.map_set]) rfl
      · skip
        refine JMi.eff rfl rfl rfl rfl (m' := 59) rfl (Eff.make boolE false rfl rfl rfl rfl rfl (by decide) (by omega) (by omega)) ?_
        rintro _ _ ⟨b15, rfl, rfl⟩
        refine ⟨.inr (fun _ h => h.tail), ?_⟩
        refine JM.many (rs := [2, 6]) (by kernel_rfl) rfl (fun i hi => ?_)
        simp only [List.mem_cons, List.not_mem_nil, or_false] at hi
        rcases hi with rfl | rfl
        · skip
          refine JMi.eff rfl rfl rfl rfl (m' := 63) rfl (Eff.make boolE false rfl rfl rfl rfl rfl (by decide) (by omega) (by omega)) ?_
          rintro _ _ ⟨b13, rfl, rfl⟩
          refine ⟨.inr (fun _ h => h.tail.tail), ?_⟩
          refine JM.one (i := 6) (by kernel_rfl) ?_
          refine JMi.eff rfl rfl rfl rfl (m' := 127) rfl (Eff.make intE (0 : Int) rfl rfl rfl rfl rfl (by decide) (by omega) (by omega)) ?_
          rintro _ _ ⟨b17, rfl, rfl⟩
          refine ⟨.inr (fun _ h => h.tail.tail.tail), ?_⟩
          refine JM.take 7 (fun _ h => h.tail.tail.tail) rfl (by kernel_rfl) rfl rfl rfl (m' := 255) rfl (Pur.build (cs := [_, _, _, _, _, _, _, _, _, _, _]) rfl rfl) ?_
          refine JM.one (i := 8) (by kernel_rfl) ?_
          refine JMi.eff rfl rfl rfl rfl (m' := 511) rfl (Eff.box (cs := [_, _, _, _, _, _, _, _, _, _, _]) rfl rfl) ?_
          rintro _ _ ⟨b19, rfl, rfl⟩
          refine ⟨.inr (fun _ h => h.tail.tail.tail.tail), ?_⟩
          refine JM.take 9 (fun _ h => h.tail.tail.tail.tail) rfl (by kernel_rfl) rfl rfl rfl (m' := 1023) rfl (Pur.assign rfl) ?_
          refine JM.done rfl ?_
          refine J.seq rfl ?_
          refine J.region rfl ?_
          refine JO.pur rfl rfl rfl (Pur.move rfl) ?_
          refine JO.pur rfl rfl rfl (Pur.nilCheck rfl) ?_
          refine JO.pur rfl rfl rfl (Pur.fieldAddr rfl) ?_
          refine JO.pur rfl rfl rfl (Pur.load rfl (CellIn.blk rfl)) ?_
          refine JO.pur rfl rfl rfl (Pur.idx (k := 0) rfl rfl rfl (by first | rfl | simp) rfl (by first | omega | (simp only [List.length_map]; omega) | (simp; omega))) ?_
          refine JO.effN rfl rfl (Eff.storeS0 (E := boolE) (a := some ⟨b13, 0, none⟩) (z' := true) rfl rfl rfl rfl hzb .head) ?_
          rintro _ _ ⟨rfl, rfl⟩
          refine JO.nil ?_
          refine J.seq rfl ?_
          refine J.region rfl ?_
          refine JO.pur rfl rfl rfl (Pur.move rfl) ?_
          refine JO.pur rfl rfl rfl (Pur.assign rfl) ?_
          refine JO.pur rfl rfl rfl (Pur.assign rfl) ?_
          refine JO.nil ?_
          refine J.ret rfl rfl ?_
          refine ⟨_, _, .inr ⟨b19, ⟨by omega, by omega⟩, rfl, rfl⟩, rfl, fun h hs => ?_⟩
          first
            | exact ref_shut (σ := init m) (Sat.pull (.tail (.tail (.tail (.tail .head)))) (Sat.pull (.tail (.tail (.tail (.tail .head)))) (Sat.pull (.tail (.tail (.tail (.tail .head)))) (Sat.pull (.tail (.tail (.tail (.tail .head)))) (sl_nil_new (E := pairE) hs))))) (by simp [init]) rfl rfl (by simp [init, List.map_set]) (by simp [init, List.map_set]) (by simp [init, List.map_set]) rfl
            | exact ref_shut (σ := init m) (Sat.pull (.tail (.tail (.tail (.tail .head)))) (Sat.pull (.tail (.tail (.tail (.tail .head)))) (Sat.pull (.tail (.tail (.tail (.tail .head)))) (Sat.pull (.tail (.tail (.tail .head))) (sl_nil_new (E := pairE) hs))))) (by simp [init]) rfl rfl (by simp [init, List.map_set]) (by simp [init, List.map_set]) (by simp [init, List.map_set]) rfl
            | exact ref_shut (σ := init m) (Sat.pull (.tail (.tail (.tail (.tail .head)))) (Sat.pull (.tail (.tail (.tail (.tail .head)))) (Sat.pull (.tail (.tail (.tail .head))) (Sat.pull (.tail (.tail (.tail (.tail .head)))) (sl_nil_new (E := pairE) hs))))) (by simp [init]) rfl rfl (by simp [init, List.map_set]) (by simp [init, List.map_set]) (by simp [init, List.map_set]) rfl
            | exact ref_shut (σ := init m) (Sat.pull (.tail (.tail (.tail (.tail .head)))) (Sat.pull (.tail (.tail (.tail (.tail .head)))) (Sat.pull (.tail (.tail (.tail .head))) (Sat.pull (.tail (.tail (.tail .head))) (sl_nil_new (E := pairE) hs))))) (by simp [init]) rfl rfl (by simp [init, List.map_set]) (by simp [init, List.map_set]) (by simp [init, List.map_set]) rfl
            | exact ref_shut (σ := init m) (Sat.pull (.tail (.tail (.tail (.tail .head)))) (Sat.pull (.tail (.tail (.tail (.tail .head)))) (Sat.pull (.tail (.tail (.tail (.tail .head)))) (Sat.pull (.tail (.tail .head)) (sl_nil_new (E := pairE) hs))))) (by simp [init]) rfl rfl (by simp [init, List.map_set]) (by simp [init, List.map_set]) (by simp [init, List.map_set]) rfl
            | exact ref_shut (σ := init m) (Sat.pull (.tail (.tail (.tail (.tail .head)))) (Sat.pull (.tail (.tail (.tail (.tail .head)))) (Sat.pull (.tail (.tail (.tail .head))) (Sat.pull (.tail (.tail .head)) (sl_nil_new (E := pairE) hs))))) (by simp [init]) rfl rfl (by simp [init, List.map_set]) (by simp [init, List.map_set]) (by simp [init, List.map_set]) rfl
        · skip
          refine JMi.eff rfl rfl rfl rfl (m' := 123) rfl (Eff.make intE (0 : Int) rfl rfl rfl rfl rfl (by decide) (by omega) (by omega)) ?_
          rintro _ _ ⟨b17, rfl, rfl⟩
          refine ⟨.inr (fun _ h => h.tail.tail), ?_⟩
          refine JM.one (i := 2) (by kernel_rfl) ?_
          refine JMi.eff rfl rfl rfl rfl (m' := 127) rfl (Eff.make boolE false rfl rfl rfl rfl rfl (by decide) (by omega) (by omega)) ?_
          rintro _ _ ⟨b13, rfl, rfl⟩
          refine ⟨.inr (fun _ h => h.tail.tail.tail), ?_⟩
          refine JM.take 7 (fun _ h => h.tail.tail.tail) rfl (by kernel_rfl) rfl rfl rfl (m' := 255) rfl (Pur.build (cs := [_, _, _, _, _, _, _, _, _, _, _]) rfl rfl) ?_
          refine JM.one (i := 8) (by kernel_rfl) ?_
          refine JMi.eff rfl rfl rfl rfl (m' := 511) rfl (Eff.box (cs := [_, _, _, _, _, _, _, _, _, _, _]) rfl rfl) ?_
          rintro _ _ ⟨b19, rfl, rfl⟩
          refine ⟨.inr (fun _ h => h.tail.tail.tail.tail), ?_⟩
          refine JM.take 9 (fun _ h => h.tail.tail.tail.tail) rfl (by kernel_rfl) rfl rfl rfl (m' := 1023) rfl (Pur.assign rfl) ?_
          refine JM.done rfl ?_
          refine J.seq rfl ?_
          refine J.region rfl ?_
          refine JO.pur rfl rfl rfl (Pur.move rfl) ?_
          refine JO.pur rfl rfl rfl (Pur.nilCheck rfl) ?_
          refine JO.pur rfl rfl rfl (Pur.fieldAddr rfl) ?_
          refine JO.pur rfl rfl rfl (Pur.load rfl (CellIn.blk rfl)) ?_
          refine JO.pur rfl rfl rfl (Pur.idx (k := 0) rfl rfl rfl (by first | rfl | simp) rfl (by first | omega | (simp only [List.length_map]; omega) | (simp; omega))) ?_
          refine JO.effN rfl rfl (Eff.storeS0 (E := boolE) (a := some ⟨b13, 0, none⟩) (z' := true) rfl rfl rfl rfl hzb .head) ?_
          rintro _ _ ⟨rfl, rfl⟩
          refine JO.nil ?_
          refine J.seq rfl ?_
          refine J.region rfl ?_
          refine JO.pur rfl rfl rfl (Pur.move rfl) ?_
          refine JO.pur rfl rfl rfl (Pur.assign rfl) ?_
          refine JO.pur rfl rfl rfl (Pur.assign rfl) ?_
          refine JO.nil ?_
          refine J.ret rfl rfl ?_
          refine ⟨_, _, .inr ⟨b19, ⟨by omega, by omega⟩, rfl, rfl⟩, rfl, fun h hs => ?_⟩
          first
            | exact ref_shut (σ := init m) (Sat.pull (.tail (.tail (.tail (.tail .head)))) (Sat.pull (.tail (.tail (.tail (.tail .head)))) (Sat.pull (.tail (.tail (.tail (.tail .head)))) (Sat.pull (.tail (.tail (.tail (.tail .head)))) (sl_nil_new (E := pairE) hs))))) (by simp [init]) rfl rfl (by simp [init, List.map_set]) (by simp [init, List.map_set]) (by simp [init, List.map_set]) rfl
            | exact ref_shut (σ := init m) (Sat.pull (.tail (.tail (.tail (.tail .head)))) (Sat.pull (.tail (.tail (.tail (.tail .head)))) (Sat.pull (.tail (.tail (.tail (.tail .head)))) (Sat.pull (.tail (.tail (.tail .head))) (sl_nil_new (E := pairE) hs))))) (by simp [init]) rfl rfl (by simp [init, List.map_set]) (by simp [init, List.map_set]) (by simp [init, List.map_set]) rfl
            | exact ref_shut (σ := init m) (Sat.pull (.tail (.tail (.tail (.tail .head)))) (Sat.pull (.tail (.tail (.tail (.tail .head)))) (Sat.pull (.tail (.tail (.tail .head))) (Sat.pull (.tail (.tail (.tail (.tail .head)))) (sl_nil_new (E := pairE) hs))))) (by simp [init]) rfl rfl (by simp [init, List.map_set]) (by simp [init, List.map_set]) (by simp [init, List.map_set]) rfl
            | exact ref_shut (σ := init m) (Sat.pull (.tail (.tail (.tail (.tail .head)))) (Sat.pull (.tail (.tail (.tail (.tail .head)))) (Sat.pull (.tail (.tail (.tail .head))) (Sat.pull (.tail (.tail (.tail .head))) (sl_nil_new (E := pairE) hs))))) (by simp [init]) rfl rfl (by simp [init, List.map_set]) (by simp [init, List.map_set]) (by simp [init, List.map_set]) rfl
            | exact ref_shut (σ := init m) (Sat.pull (.tail (.tail (.tail (.tail .head)))) (Sat.pull (.tail (.tail (.tail (.tail .head)))) (Sat.pull (.tail (.tail (.tail (.tail .head)))) (Sat.pull (.tail (.tail .head)) (sl_nil_new (E := pairE) hs))))) (by simp [init]) rfl rfl (by simp [init, List.map_set]) (by simp [init, List.map_set]) (by simp [init, List.map_set]) rfl
            | exact ref_shut (σ := init m) (Sat.pull (.tail (.tail (.tail (.tail .head)))) (Sat.pull (.tail (.tail (.tail (.tail .head)))) (Sat.pull (.tail (.tail (.tail .head))) (Sat.pull (.tail (.tail .head)) (sl_nil_new (E := pairE) hs))))) (by simp [init]) rfl rfl (by simp [init, List.map_set]) (by simp [init, List.map_set]) (by simp [init, List.map_set]) rfl
      · skip
        refine JMi.eff rfl rfl rfl rfl (m' := 107) rfl (Eff.make intE (0 : Int) rfl rfl rfl rfl rfl (by decide) (by omega) (by omega)) ?_
        rintro _ _ ⟨b17, rfl, rfl⟩
        refine ⟨.inr (fun _ h => h.tail), ?_⟩
        refine JM.many (rs := [2, 4]) (by kernel_rfl) rfl (fun i hi => ?_)
        simp only [List.mem_cons, List.not_mem_nil, or_false] at hi
        rcases hi with rfl | rfl
        · skip
          refine JMi.eff rfl rfl rfl rfl (m' := 111) rfl (Eff.make boolE false rfl rfl rfl rfl rfl (by decide) (by omega) (by omega)) ?_
          rintro _ _ ⟨b13, rfl, rfl⟩
          refine ⟨.inr (fun _ h => h.tail.tail), ?_⟩
          refine JM.one (i := 4) (by kernel_rfl) ?_
          refine JMi.eff rfl rfl rfl rfl (m' := 127) rfl (Eff.make boolE false rfl rfl rfl rfl rfl (by decide) (by omega) (by omega)) ?_
          rintro _ _ ⟨b15, rfl, rfl⟩
          refine ⟨.inr (fun _ h => h.tail.tail.tail), ?_⟩
          refine JM.take 7 (fun _ h => h.tail.tail.tail) rfl (by kernel_rfl) rfl rfl rfl (m' := 255) rfl (Pur.build (cs := [_, _, _, _, _, _, _, _, _, _, _]) rfl rfl) ?_
          refine JM.one (i := 8) (by kernel_rfl) ?_
          refine JMi.eff rfl rfl rfl rfl (m' := 511) rfl (Eff.box (cs := [_, _, _, _, _, _, _, _, _, _, _]) rfl rfl) ?_
          rintro _ _ ⟨b19, rfl, rfl⟩
          refine ⟨.inr (fun _ h => h.tail.tail.tail.tail), ?_⟩
          refine JM.take 9 (fun _ h => h.tail.tail.tail.tail) rfl (by kernel_rfl) rfl rfl rfl (m' := 1023) rfl (Pur.assign rfl) ?_
          refine JM.done rfl ?_
          refine J.seq rfl ?_
          refine J.region rfl ?_
          refine JO.pur rfl rfl rfl (Pur.move rfl) ?_
          refine JO.pur rfl rfl rfl (Pur.nilCheck rfl) ?_
          refine JO.pur rfl rfl rfl (Pur.fieldAddr rfl) ?_
          refine JO.pur rfl rfl rfl (Pur.load rfl (CellIn.blk rfl)) ?_
          refine JO.pur rfl rfl rfl (Pur.idx (k := 0) rfl rfl rfl (by first | rfl | simp) rfl (by first | omega | (simp only [List.length_map]; omega) | (simp; omega))) ?_
          refine JO.effN rfl rfl (Eff.storeS0 (E := boolE) (a := some ⟨b13, 0, none⟩) (z' := true) rfl rfl rfl rfl hzb .head) ?_
          rintro _ _ ⟨rfl, rfl⟩
          refine JO.nil ?_
          refine J.seq rfl ?_
          refine J.region rfl ?_
          refine JO.pur rfl rfl rfl (Pur.move rfl) ?_
          refine JO.pur rfl rfl rfl (Pur.assign rfl) ?_
          refine JO.pur rfl rfl rfl (Pur.assign rfl) ?_
          refine JO.nil ?_
          refine J.ret rfl rfl ?_
          refine ⟨_, _, .inr ⟨b19, ⟨by omega, by omega⟩, rfl, rfl⟩, rfl, fun h hs => ?_⟩
          first
            | exact ref_shut (σ := init m) (Sat.pull (.tail (.tail (.tail (.tail .head)))) (Sat.pull (.tail (.tail (.tail (.tail .head)))) (Sat.pull (.tail (.tail (.tail (.tail .head)))) (Sat.pull (.tail (.tail (.tail (.tail .head)))) (sl_nil_new (E := pairE) hs))))) (by simp [init]) rfl rfl (by simp [init, List.map_set]) (by simp [init, List.map_set]) (by simp [init, List.map_set]) rfl
            | exact ref_shut (σ := init m) (Sat.pull (.tail (.tail (.tail (.tail .head)))) (Sat.pull (.tail (.tail (.tail (.tail .head)))) (Sat.pull (.tail (.tail (.tail (.tail .head)))) (Sat.pull (.tail (.tail (.tail .head))) (sl_nil_new (E := pairE) hs))))) (by simp [init]) rfl rfl (by simp [init, List.map_set]) (by simp [init, List.map_set]) (by simp [init, List.map_set]) rfl
            | exact ref_shut (σ := init m) (Sat.pull (.tail (.tail (.tail (.tail .head)))) (Sat.pull (.tail (.tail (.tail (.tail .head)))) (Sat.pull (.tail (.tail (.tail .head))) (Sat.pull (.tail (.tail (.tail (.tail .head)))) (sl_nil_new (E := pairE) hs))))) (by simp [init]) rfl rfl (by simp [init, List.map_set]) (by simp [init, List.map_set]) (by simp [init, List.map_set]) rfl
            | exact ref_shut (σ := init m) (Sat.pull (.tail (.tail (.tail (.tail .head)))) (Sat.pull (.tail (.tail (.tail (.tail .head)))) (Sat.pull (.tail (.tail (.tail .head))) (Sat.pull (.tail (.tail (.tail .head))) (sl_nil_new (E := pairE) hs))))) (by simp [init]) rfl rfl (by simp [init, List.map_set]) (by simp [init, List.map_set]) (by simp [init, List.map_set]) rfl
            | exact ref_shut (σ := init m) (Sat.pull (.tail (.tail (.tail (.tail .head)))) (Sat.pull (.tail (.tail (.tail (.tail .head)))) (Sat.pull (.tail (.tail (.tail (.tail .head)))) (Sat.pull (.tail (.tail .head)) (sl_nil_new (E := pairE) hs))))) (by simp [init]) rfl rfl (by simp [init, List.map_set]) (by simp [init, List.map_set]) (by simp [init, List.map_set]) rfl
            | exact ref_shut (σ := init m) (Sat.pull (.tail (.tail (.tail (.tail .head)))) (Sat.pull (.tail (.tail (.tail (.tail .head)))) (Sat.pull (.tail (.tail (.tail .head))) (Sat.pull (.tail (.tail .head)) (sl_nil_new (E := pairE) hs))))) (by simp [init]) rfl rfl (by simp [init, List.map_set]) (by simp [init, List.map_set]) (by simp [init, List.map_set]) rfl
        · skip
          refine JMi.eff rfl rfl rfl rfl (m' := 123) rfl (Eff.make boolE false rfl rfl rfl rfl rfl (by decide) (by omega) (by omega)) ?_
          rintro _ _ ⟨b15, rfl, rfl⟩
          refine ⟨.inr (fun _ h => h.tail.tail), ?_⟩
          refine JM.one (i := 2) (by kernel_rfl) ?_
          refine JMi.eff rfl rfl rfl rfl (m' := 127) rfl (Eff.make boolE false rfl rfl rfl rfl rfl (by decide) (by omega) (by omega)) ?_
          rintro _ _ ⟨b13, rfl, rfl⟩
          refine ⟨.inr (fun _ h => h.tail.tail.tail), ?_⟩
          refine JM.take 7 (fun _ h => h.tail.tail.tail) rfl (by kernel_rfl) rfl rfl rfl (m' := 255) rfl (Pur.build (cs := [_, _, _, _, _, _, _, _, _, _, _]) rfl rfl) ?_
          refine JM.one (i := 8) (by kernel_rfl) ?_
          refine JMi.eff rfl rfl rfl rfl (m' := 511) rfl (Eff.box (cs := [_, _, _, _, _, _, _, _, _, _, _]) rfl rfl) ?_
          rintro _ _ ⟨b19, rfl, rfl⟩
          refine ⟨.inr (fun _ h => h.tail.tail.tail.tail), ?_⟩
          refine JM.take 9 (fun _ h => h.tail.tail.tail.tail) rfl (by kernel_rfl) rfl rfl rfl (m' := 1023) rfl (Pur.assign rfl) ?_
          refine JM.done rfl ?_
          refine J.seq rfl ?_
          refine J.region rfl ?_
          refine JO.pur rfl rfl rfl (Pur.move rfl) ?_
          refine JO.pur rfl rfl rfl (Pur.nilCheck rfl) ?_
          refine JO.pur rfl rfl rfl (Pur.fieldAddr rfl) ?_
          refine JO.pur rfl rfl rfl (Pur.load rfl (CellIn.blk rfl)) ?_
          refine JO.pur rfl rfl rfl (Pur.idx (k := 0) rfl rfl rfl (by first | rfl | simp) rfl (by first | omega | (simp only [List.length_map]; omega) | (simp; omega))) ?_
          refine JO.effN rfl rfl (Eff.storeS0 (E := boolE) (a := some ⟨b13, 0, none⟩) (z' := true) rfl rfl rfl rfl hzb .head) ?_
          rintro _ _ ⟨rfl, rfl⟩
          refine JO.nil ?_
          refine J.seq rfl ?_
          refine J.region rfl ?_
          refine JO.pur rfl rfl rfl (Pur.move rfl) ?_
          refine JO.pur rfl rfl rfl (Pur.assign rfl) ?_
          refine JO.pur rfl rfl rfl (Pur.assign rfl) ?_
          refine JO.nil ?_
          refine J.ret rfl rfl ?_
          refine ⟨_, _, .inr ⟨b19, ⟨by omega, by omega⟩, rfl, rfl⟩, rfl, fun h hs => ?_⟩
          first
            | exact ref_shut (σ := init m) (Sat.pull (.tail (.tail (.tail (.tail .head)))) (Sat.pull (.tail (.tail (.tail (.tail .head)))) (Sat.pull (.tail (.tail (.tail (.tail .head)))) (Sat.pull (.tail (.tail (.tail (.tail .head)))) (sl_nil_new (E := pairE) hs))))) (by simp [init]) rfl rfl (by simp [init, List.map_set]) (by simp [init, List.map_set]) (by simp [init, List.map_set]) rfl
            | exact ref_shut (σ := init m) (Sat.pull (.tail (.tail (.tail (.tail .head)))) (Sat.pull (.tail (.tail (.tail (.tail .head)))) (Sat.pull (.tail (.tail (.tail (.tail .head)))) (Sat.pull (.tail (.tail (.tail .head))) (sl_nil_new (E := pairE) hs))))) (by simp [init]) rfl rfl (by simp [init, List.map_set]) (by simp [init, List.map_set]) (by simp [init, List.map_set]) rfl
            | exact ref_shut (σ := init m) (Sat.pull (.tail (.tail (.tail (.tail .head)))) (Sat.pull (.tail (.tail (.tail (.tail .head)))) (Sat.pull (.tail (.tail (.tail .head))) (Sat.pull (.tail (.tail (.tail (.tail .head)))) (sl_nil_new (E := pairE) hs))))) (by simp [init]) rfl rfl (by simp [init, List.map_set]) (by simp [init, List.map_set]) (by simp [init, List.map_set]) rfl
            | exact ref_shut (σ := init m) (Sat.pull (.tail (.tail (.tail (.tail .head)))) (Sat.pull (.tail (.tail (.tail (.tail .head)))) (Sat.pull (.tail (.tail (.tail .head))) (Sat.pull (.tail (.tail (.tail .head))) (sl_nil_new (E := pairE) hs))))) (by simp [init]) rfl rfl (by simp [init, List.map_set]) (by simp [init, List.map_set]) (by simp [init, List.map_set]) rfl
            | exact ref_shut (σ := init m) (Sat.pull (.tail (.tail (.tail (.tail .head)))) (Sat.pull (.tail (.tail (.tail (.tail .head)))) (Sat.pull (.tail (.tail (.tail (.tail .head)))) (Sat.pull (.tail (.tail .head)) (sl_nil_new (E := pairE) hs))))) (by simp [init]) rfl rfl (by simp [init, List.map_set]) (by simp [init, List.map_set]) (by simp [init, List.map_set]) rfl
            | exact ref_shut (σ := init m) (Sat.pull (.tail (.tail (.tail (.tail .head)))) (Sat.pull (.tail (.tail (.tail (.tail .head)))) (Sat.pull (.tail (.tail (.tail .head))) (Sat.pull (.tail (.tail .head)) (sl_nil_new (E := pairE) hs))))) (by simp [init]) rfl rfl (by simp [init, List.map_set]) (by simp [init, List.map_set]) (by simp [init, List.map_set]) rfl

end Go.Proofs.Ytnllgmfpejjcnaa
