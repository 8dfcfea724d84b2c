/-
  A part of the proof of the claim that this folder bears.
-/
import Derived.Test.YtgbckamaenapeaaPAE
import Derived.Test.YtgbckamaenapeaaPAG
/- The text HLaw4. -/
set_option linter.unusedVariables false
set_option linter.unusedSimpArgs false
set_option maxRecDepth 10000
namespace Go.Proofs.Ytgbckamaenapeaa
open Go Go.KK Hf

theorem channelTogether_ok {L : List Asn} {a b : Option Addr} {n cap m cq : Nat} {hs : List Hdr} {parts : List (List UInt8)} {picks : List Int} [SlIn hbE L a hs] [RowsR byE L hs parts] [SlIn intE L b picks] (hn : n = hs.length) (hm : m = picks.length) (hpl : ∀ ys ∈ parts, ys.length ≤ 9223372036854775807) (size : Int) :
    CallS Try.prog 4 [.int .i64 size, .slice a n cap, .slice b m cq].toArray L (fun v M => v = .bool true ∧ M = L) := by
  subst hn
  subst hm
  refine CallS.fact (fun h s => RowsR.len (E := byE) (hs := hs) (xss := parts) s) fun hnn => ?_
  have hhl : hs.length = parts.length := rows_len hnn
  refine CallS.ent ?_
  refine CallS.enter Try.func4 rfl rfl rfl rfl rfl ?_
  refine J.seq rfl ?_
  refine J.region rfl ?_
  refine JO.pur rfl rfl rfl (Pur.assign rfl) ?_
  refine JO.nil ?_
  refine J.seq rfl ?_
  refine J.region rfl ?_
  refine JO.pur rfl rfl rfl (Pur.move rfl) ?_
  refine JO.pur rfl rfl rfl (Pur.move rfl) ?_
  refine JO.eff rfl rfl rfl (Eff.call rfl (Together_ok (parts := parts) rfl size)) ?_
  rintro _ _ ⟨a23, c23, rfl, rfl⟩
  refine JO.pur rfl rfl rfl (Pur.move rfl) ?_
  refine JO.pur rfl rfl rfl (Pur.extract rfl rfl) ?_
  refine JO.pur rfl rfl rfl (Pur.extract rfl rfl) ?_
  refine JO.pur rfl rfl rfl (Pur.assign rfl) ?_
  refine JO.pur rfl rfl rfl (Pur.assign rfl) ?_
  refine JO.nil ?_
  refine J.seq rfl ?_
  refine J.seq rfl ?_
  refine J.region rfl ?_
  refine JO.pur rfl rfl rfl (Pur.move rfl) ?_
  refine JO.pur rfl rfl rfl (Pur.neqI rfl rfl) ?_
  refine JO.pur rfl rfl rfl (Pur.move rfl) ?_
  refine JO.splitB 28 rfl (fun h28 => ?_) (fun h28 => ?_)
  · try simp only [decide_eq_true_eq, decide_eq_false_iff_not, Bool.not_eq_true', Bool.not_eq_false', Bool.and_eq_true, Bool.or_eq_true, Bool.and_eq_false_iff, Bool.or_eq_false_iff, Option.isNone_some, Option.isSome_some, Option.isNone_none, Option.isSome_none, Int.not_lt, Int.not_le, beq_iff_eq, beq_eq_false_iff_ne, bne_iff_ne, ne_eq, Bool.not_not, Decidable.not_not] at h28
    refine JO.no rfl rfl rfl ?_
    refine JO.no rfl rfl rfl ?_
    refine JO.no rfl rfl rfl ?_
    refine JO.pur rfl rfl rfl (Pur.pickT rfl rfl) ?_
    refine JO.nil ?_
    refine J.condT rfl rfl ?_
    refine J.seq rfl ?_
    refine J.region rfl ?_
    refine JO.effR rfl rfl rfl (Eff.call rfl (first_ok)) ?_
    refine JO.setv (u' := .bool true) 33 rfl (congrArg Value.bool (rfl)) ?_
    refine JO.pur rfl rfl rfl (Pur.assign rfl) ?_
    refine JO.nil ?_
    refine J.ret rfl rfl ?_
    exact ⟨_, _, ⟨rfl, rfl⟩, rfl, SubC.out⟩
  · try simp only [decide_eq_true_eq, decide_eq_false_iff_not, Bool.not_eq_true', Bool.not_eq_false', Bool.and_eq_true, Bool.or_eq_true, Bool.and_eq_false_iff, Bool.or_eq_false_iff, Option.isNone_some, Option.isSome_some, Option.isNone_none, Option.isSome_none, Int.not_lt, Int.not_le, beq_iff_eq, beq_eq_false_iff_ne, bne_iff_ne, ne_eq, Bool.not_not, Decidable.not_not] at h28
    refine JO.pur rfl rfl rfl (Pur.move rfl) ?_
    refine JO.pur rfl rfl rfl (Pur.len rfl) ?_
    refine JO.pur rfl rfl rfl (Pur.gtr rfl rfl) ?_
    refine JO.pur rfl rfl rfl (Pur.pickF rfl rfl) ?_
    refine JO.nil ?_
    refine J.splitB 32 rfl (fun h32 => ?_) (fun h32 => ?_)
    · try simp only [decide_eq_true_eq, decide_eq_false_iff_not, Bool.not_eq_true', Bool.not_eq_false', Bool.and_eq_true, Bool.or_eq_true, Bool.and_eq_false_iff, Bool.or_eq_false_iff, Option.isNone_some, Option.isSome_some, Option.isNone_none, Option.isSome_none, Int.not_lt, Int.not_le, beq_iff_eq, beq_eq_false_iff_ne, bne_iff_ne, ne_eq, Bool.not_not, Decidable.not_not] at h32
      refine J.condT rfl rfl ?_
      refine J.seq rfl ?_
      refine J.region rfl ?_
      refine JO.effR rfl rfl rfl (Eff.call rfl (first_ok)) ?_
      refine JO.setv (u' := .bool true) 33 rfl (congrArg Value.bool (rfl)) ?_
      refine JO.pur rfl rfl rfl (Pur.assign rfl) ?_
      refine JO.nil ?_
      refine J.ret rfl rfl ?_
      exact ⟨_, _, ⟨rfl, rfl⟩, rfl, SubC.out⟩
    · try simp only [decide_eq_true_eq, decide_eq_false_iff_not, Bool.not_eq_true', Bool.not_eq_false', Bool.and_eq_true, Bool.or_eq_true, Bool.and_eq_false_iff, Bool.or_eq_false_iff, Option.isNone_some, Option.isSome_some, Option.isNone_none, Option.isSome_none, Int.not_lt, Int.not_le, beq_iff_eq, beq_eq_false_iff_ne, bne_iff_ne, ne_eq, Bool.not_not, Decidable.not_not] at h32
      refine J.condF rfl rfl ?_
      refine J.skip rfl ?_
      refine J.seq rfl ?_
      obtain ⟨hok, hft, htv⟩ := togV_zero (size := size) (parts := parts) (by omega)
      have hin := cut_in hok
      have hcl := cut_len hok
      have hsz : size = ((size.toNat : Nat) : Int) := by omega
      refine J.region rfl ?_
      refine JO.pur rfl rfl rfl (Pur.move rfl) ?_
      refine JO.pur rfl rfl rfl (Pur.move rfl) ?_
      refine JO.pur rfl rfl rfl (Pur.len rfl) ?_
      refine JO.eff rfl rfl rfl (Eff.call rfl (Cuts_ok size (hs.length : Int))) ?_
      rintro _ _ ⟨a38, c38, rfl, rfl⟩
      rw [hhl]
      refine JO.pur rfl rfl rfl (Pur.move rfl) ?_
      refine JO.pur rfl rfl rfl (Pur.extract rfl rfl) ?_
      refine JO.pur rfl rfl rfl (Pur.extract rfl rfl) ?_
      refine JO.pur rfl rfl rfl (Pur.assign rfl) ?_
      refine JO.pur rfl rfl rfl (Pur.assign rfl) ?_
      refine JO.nil ?_
      refine J.seq rfl ?_
      refine J.region rfl ?_
      refine JO.pur rfl rfl rfl (Pur.move rfl) ?_
      refine JO.eff rfl rfl rfl (Eff.make byE 0 (n := size.toNat) (by first | exact congrArg (fun z => some (Value.int .i64 z)) hsz | rfl) (by first | exact congrArg (fun z => some (Value.int .i64 z)) hsz | rfl) rfl rfl rfl (by decide) (by omega) (by omega)) ?_
      rintro _ _ ⟨b43, rfl, rfl⟩
      refine JO.eff rfl rfl rfl (Eff.call rfl (New_ok (ys := List.replicate size.toNat 0) (by simp) (by simp; omega) (fun e => by cases e))) ?_
      rintro _ _ ⟨p, rfl, rfl⟩
      refine JO.pur rfl rfl rfl (Pur.move rfl) ?_
      refine JO.pur rfl rfl rfl (Pur.extract rfl rfl) ?_
      refine JO.pur rfl rfl rfl (Pur.extract rfl rfl) ?_
      refine JO.pur rfl rfl rfl (Pur.assign rfl) ?_
      refine JO.pur rfl rfl rfl (Pur.assign rfl) ?_
      refine JO.nil ?_
      refine J.seq rfl ?_
      refine J.seq rfl ?_
      refine J.region rfl ?_
      refine JO.pur rfl rfl rfl (Pur.move rfl) ?_
      refine JO.pur rfl rfl rfl (Pur.neqI rfl rfl) ?_
      refine JO.setv (u' := .bool false) 48 rfl (congrArg Value.bool (decide_eq_false (by rw [cut_err hok]; simp))) ?_
      refine JO.pur rfl rfl rfl (Pur.move rfl) ?_
      refine JO.pur rfl rfl rfl (Pur.move rfl) ?_
      refine JO.pur rfl rfl rfl (Pur.neqI rfl rfl) ?_
      refine JO.setv (u' := .bool false) 51 rfl (congrArg Value.bool (rfl)) ?_
      refine JO.pur rfl rfl rfl (Pur.pickF rfl rfl) ?_
      refine JO.pur rfl rfl rfl (Pur.move rfl) ?_
      refine JO.pur rfl rfl rfl (Pur.move rfl) ?_
      refine JO.pur rfl rfl rfl (Pur.eqlPtrNil rfl) ?_
      refine JO.setv (u' := .bool false) 55 rfl (congrArg Value.bool (rfl)) ?_
      refine JO.pur rfl rfl rfl (Pur.pickF rfl rfl) ?_
      refine JO.pur rfl rfl rfl (Pur.move rfl) ?_
      refine JO.pur rfl rfl rfl (Pur.move rfl) ?_
      refine JO.pur rfl rfl rfl (Pur.len rfl) ?_
      refine JO.pur rfl rfl rfl (Pur.move rfl) ?_
      refine JO.pur rfl rfl rfl (Pur.len rfl) ?_
      refine JO.pur rfl rfl rfl (Pur.neqI rfl rfl) ?_
      refine JO.setv (u' := .bool false) 62 rfl (congrArg Value.bool (decide_eq_false (by rw [hcl]; omega))) ?_
      refine JO.pur rfl rfl rfl (Pur.pickF rfl rfl) ?_
      refine JO.nil ?_
      refine J.condF rfl rfl ?_
      refine J.skip rfl ?_
      refine J.seq rfl ?_
      refine J.region rfl ?_
      refine JO.pur rfl rfl rfl (Pur.assign rfl) ?_
      refine JO.nil ?_
      refine J.seq rfl ?_
      refine J.seq rfl ?_
      refine J.region rfl ?_
      refine JO.pur rfl rfl rfl (Pur.assign rfl) ?_
      refine JO.nil ?_
      refine J.block rfl ?_
      refine J.loopF (ι := Nat × Option Addr × Nat) (fun q => q.1 ≤ parts.length ∧ Hf.Good (TF size parts (Z0 size) ((q.1 + 1 : Nat) : Int) q.1 (fun _ => false)) q.1) (fun q => [(12, .slice q.2.1 (numsT q.1).length q.2.2), (13, .int .i64 (q.1 : Int))]) [(1, _), (2, _), (7, _), (9, _), (10, _)] (fun q => FA p (TF size parts (Z0 size) ((q.1 + 1 : Nat) : Int) q.1 (fun _ => false)) :: sl intE q.2.1 q.2.2 (numsT q.1) :: sl pairE a38 c38 (cutsV size (parts.length : Int)).1 :: sl byE a23 c23 (togV size parts).1 :: L) (fun q => parts.length - q.1) (0, none, 0) rfl (.cons rfl rfl (.cons rfl rfl (.cons rfl rfl (.cons rfl rfl (.cons rfl rfl .nil))))) (.cons rfl rfl (.cons rfl rfl .nil)) (fun h s => show Sat h (FA p (newF (List.replicate size.toNat 0)) :: sl intE none 0 [] :: sl pairE a38 c38 (cutsV size (parts.length : Int)).1 :: sl byE a23 c23 (togV size parts).1 :: L) from SubC.out h (sl_nil_new (E := intE) s)) ⟨Nat.zero_le _, good_new (bs := List.replicate size.toNat 0) (by simp; omega)⟩ ?_
      rintro ⟨k, a12, c12⟩ ⟨hk, hg⟩ ih0
      try dsimp only
      dsimp only at hk hg
      refine J.seq rfl ?_
      refine J.seq rfl ?_
      refine J.region rfl ?_
      refine JO.pur rfl rfl rfl (Pur.move rfl) ?_
      refine JO.pur rfl rfl rfl (Pur.move rfl) ?_
      refine JO.pur rfl rfl rfl (Pur.len rfl) ?_
      refine JO.pur rfl rfl rfl (Pur.lss rfl rfl) ?_
      refine JO.nil ?_
      refine J.splitB 67 rfl (fun h67 => ?_) (fun h67 => ?_)
      · try simp only [decide_eq_true_eq, decide_eq_false_iff_not, Bool.not_eq_true', Bool.not_eq_false', Bool.and_eq_true, Bool.or_eq_true, Bool.and_eq_false_iff, Bool.or_eq_false_iff, Option.isNone_some, Option.isSome_some, Option.isNone_none, Option.isSome_none, Int.not_lt, Int.not_le, beq_iff_eq, beq_eq_false_iff_ne, bne_iff_ne, ne_eq, Bool.not_not, Decidable.not_not] at h67
        have hkp : k < parts.length := by omega
        have hnlk := numsT_len k
        have hcg := cut_get hok (k := k) (by omega)
        have hg2 := good_begin hg (cutA size parts.length k) (cutA size parts.length (k + 1)) true
        rw [tw_begin hok hkp] at hg2
        refine J.condT rfl rfl ?_
        refine J.skip rfl ?_
        refine J.seq rfl ?_
        refine J.block rfl ?_
        refine J.seq rfl ?_
        refine J.mask1 (n := 17) [] rfl Try.mixed rfl (by kernel_rfl) ?_
        refine JM.take 0 (fun _ h => h.tail) rfl (by kernel_rfl) rfl rfl rfl (m' := 1) rfl (Pur.move rfl) ?_
        refine JM.take 1 (fun _ h => h.tail) rfl (by kernel_rfl) rfl rfl rfl (m' := 3) rfl (Pur.move rfl) ?_
        refine JM.take 2 (fun _ h => h.tail) rfl (by kernel_rfl) rfl rfl rfl (m' := 7) rfl (Pur.move rfl) ?_
        refine JM.take 3 (fun _ h => h.tail) rfl (by kernel_rfl) rfl rfl rfl (m' := 15) rfl (Pur.idx rfl rfl rfl (by first | rfl | (simp; done) | omega) rfl (by rw [hcl]; omega)) ?_
        refine JM.take 4 (fun _ h => h.tail) rfl (by kernel_rfl) rfl rfl rfl (m' := 31) rfl (Pur.idxA (k := 0) rfl rfl rfl (by decide)) ?_
        refine JM.take 5 (fun _ h => h.tail) rfl (by kernel_rfl) rfl rfl rfl (m' := 63) rfl (Pur.load rfl (CellIn.el rfl hcg rfl)) ?_
        refine JM.setv (u' := .int .i64 (cutA size (parts.length : Int) k)) 76 rfl rfl ?_
        refine JM.take 6 (fun _ h => h.tail) rfl (by kernel_rfl) rfl rfl rfl (m' := 127) rfl (Pur.move rfl) ?_
        refine JM.take 7 (fun _ h => h.tail) rfl (by kernel_rfl) rfl rfl rfl (m' := 255) rfl (Pur.move rfl) ?_
        refine JM.take 8 (fun _ h => h.tail) rfl (by kernel_rfl) rfl rfl rfl (m' := 511) rfl (Pur.idx rfl rfl rfl (by first | rfl | (simp; done) | omega) rfl (by rw [hcl]; omega)) ?_
        refine JM.take 9 (fun _ h => h.tail) rfl (by kernel_rfl) rfl rfl rfl (m' := 1023) rfl (Pur.idxA (k := 1) rfl rfl rfl (by decide)) ?_
        refine JM.take 10 (fun _ h => h.tail) rfl (by kernel_rfl) rfl rfl rfl (m' := 2047) rfl (Pur.load rfl (CellIn.el rfl hcg rfl)) ?_
        refine JM.setv (u' := .int .i64 (cutA size (parts.length : Int) (k + 1))) 81 rfl rfl ?_
        refine JM.one (i := 11) (by kernel_rfl) ?_
        refine JMi.eff rfl rfl rfl rfl (m' := 4095) rfl (Eff.call rfl (Writer_ok hg (by omega))) ?_
        rintro _ _ ⟨rfl, rfl⟩
        refine ⟨.inr (fun _ h => h.tail), ?_⟩
        rw [tw_begin hok hkp]
        refine JM.take 12 (fun _ h => h.tail) rfl (by kernel_rfl) rfl rfl rfl (m' := 8191) rfl (Pur.move rfl) ?_
        refine JM.take 13 (fun _ h => h.tail) rfl (by kernel_rfl) rfl rfl rfl (m' := 16383) rfl (Pur.extract rfl rfl) ?_
        refine JM.take 14 (fun _ h => h.tail) rfl (by kernel_rfl) rfl rfl rfl (m' := 32767) rfl (Pur.extract rfl rfl) ?_
        refine JM.take 15 (fun _ h => h.tail) rfl (by kernel_rfl) rfl rfl rfl (m' := 65535) rfl (Pur.assign rfl) ?_
        refine JM.take 16 (fun _ h => h.tail) rfl (by kernel_rfl) rfl rfl rfl (m' := 131071) rfl (Pur.assign rfl) ?_
        refine JM.done rfl ?_
        refine J.seq rfl ?_
        refine J.seq rfl ?_
        refine J.region rfl ?_
        refine JO.pur rfl rfl rfl (Pur.move rfl) ?_
        refine JO.pur rfl rfl rfl (Pur.neqI rfl rfl) ?_
        refine JO.setv (u' := .bool false) 86 rfl (congrArg Value.bool (rfl)) ?_
        refine JO.nil ?_
        refine J.condF rfl rfl ?_
        refine J.skip rfl ?_
        refine J.region rfl ?_
        refine JO.pur rfl rfl rfl (Pur.move rfl) ?_
        refine JO.pur rfl rfl rfl (Pur.move rfl) ?_
        refine JO.setv (u' := .int .i64 ((k + 1 : Nat) : Int)) 88 rfl rfl ?_
        refine JO.eff rfl rfl rfl (Eff.buildSlice intE [((k + 1 : Nat) : Int)] rfl rfl rfl rfl rfl rfl rfl) ?_
        rintro _ _ ⟨b89, rfl, -, rfl⟩
        refine JO.eff rfl rfl rfl (Eff.append rfl rfl rfl rfl (by first | rfl | omega | (simp; done) | (simp; omega)) (by first | rfl | omega | (simp; done) | (simp; omega)) (by decide) (by simp; omega) (by simp; omega) (fun h => by cases h)) ?_
        rintro _ _ ⟨a90, c90, rfl, rfl⟩
        refine JO.pur rfl rfl rfl (Pur.assign rfl) ?_
        refine JO.nil ?_
        refine J.inBlock ?_
        refine J.region rfl ?_
        refine JO.pur rfl rfl rfl (Pur.move rfl) ?_
        refine JO.pur rfl rfl rfl (Pur.add rfl rfl (wr64 (by omega))) ?_
        refine JO.pur rfl rfl rfl (Pur.assign rfl) ?_
        refine JO.nil ?_
        exact J.weaken (.cons rfl (by dsimp only; rw [numsT_succ, List.length_append]) (.cons rfl (congrArg (Value.int .i64) (by first | rfl | (dsimp only; omega))) (.cons rfl rfl (.cons rfl rfl (.cons rfl rfl (.cons rfl rfl (.cons rfl rfl .nil))))))) (fun h s => by dsimp only; rw [numsT_succ]; exact SubC.out h s) (ih0 (k + 1, a90, c90) ⟨(by dsimp only; omega), hg2⟩ (by dsimp only; omega))
      · try simp only [decide_eq_true_eq, decide_eq_false_iff_not, Bool.not_eq_true', Bool.not_eq_false', Bool.and_eq_true, Bool.or_eq_true, Bool.and_eq_false_iff, Bool.or_eq_false_iff, Option.isNone_some, Option.isSome_some, Option.isNone_none, Option.isSome_none, Int.not_lt, Int.not_le, beq_iff_eq, beq_eq_false_iff_ne, bne_iff_ne, ne_eq, Bool.not_not, Decidable.not_not] at h67
        obtain rfl : k = parts.length := by omega
        have hT0 : (TF size parts (Z0 size) ((parts.length + 1 : Nat) : Int) parts.length (fun i => (List.replicate parts.length false).getD i false)) = (TF size parts (Z0 size) ((parts.length + 1 : Nat) : Int) parts.length (fun _ => false)) := tf_all hok (fun i hi => by simp [List.getD_eq_getElem?_getD, List.getElem?_replicate]; split <;> rfl)
        refine J.condF rfl rfl ?_
        refine J.exit rfl rfl ?_
        refine J.seq rfl ?_
        refine J.region rfl ?_
        refine JO.pur rfl rfl rfl (Pur.move rfl) ?_
        refine JO.pur rfl rfl rfl (Pur.len rfl) ?_
        refine JO.eff rfl rfl rfl (Eff.make boE false (n := parts.length) rfl rfl rfl rfl rfl (by decide) (by omega) (by omega)) ?_
        rintro _ _ ⟨b93, rfl, rfl⟩
        refine JO.pur rfl rfl rfl (Pur.assign rfl) ?_
        refine JO.nil ?_
        refine J.seq rfl ?_
        refine J.seq rfl ?_
        refine J.region rfl ?_
        refine JO.pur rfl rfl rfl (Pur.assign rfl) ?_
        refine JO.nil ?_
        refine J.block rfl ?_
        refine J.loopF (ι := Nat × List Bool) (fun q => q.1 ≤ picks.length + parts.length ∧ q.2.length = parts.length ∧ (∀ i, i < parts.length → picks.length + i < q.1 → q.2.getD i false = true) ∧ Hf.Good (TF size parts (Z0 size) ((parts.length + 1 : Nat) : Int) parts.length (fun i => q.2.getD i false)) parts.length) (fun q => [(17, .int .i64 (q.1 : Int))]) [(1, _), (2, _), (7, _), (10, _), (12, _), (16, _)] (fun q => FA p (TF size parts (Z0 size) ((parts.length + 1 : Nat) : Int) parts.length (fun i => q.2.getD i false)) :: sl boE (some ⟨b93, 0, none⟩) parts.length q.2 :: sl intE a12 c12 (numsT parts.length) :: sl byE a23 c23 (togV size parts).1 :: L) (fun q => picks.length + parts.length - q.1) (0, List.replicate parts.length false) rfl (.cons rfl rfl (.cons rfl rfl (.cons rfl rfl (.cons rfl rfl (.cons rfl rfl (.cons rfl rfl .nil)))))) (.cons rfl rfl .nil) (fun h s => by dsimp only; rw [hT0]; exact SubC.out h s) ⟨Nat.zero_le _, by simp, fun i hi h => by dsimp only at h; omega, by dsimp only; rw [hT0]; exact hg⟩ ?_
        rintro ⟨k, ds⟩ ⟨hk, hdl, hds, hgd⟩ ih1
        try dsimp only
        dsimp only at hk hdl hds hgd
        refine J.seq rfl ?_
        refine J.seq rfl ?_
        refine J.region rfl ?_
        refine JO.pur rfl rfl rfl (Pur.move rfl) ?_
        refine JO.pur rfl rfl rfl (Pur.move rfl) ?_
        refine JO.pur rfl rfl rfl (Pur.len rfl) ?_
        refine JO.pur rfl rfl rfl (Pur.move rfl) ?_
        refine JO.pur rfl rfl rfl (Pur.len rfl) ?_
        refine JO.pur rfl rfl rfl (Pur.add rfl rfl (wr64 (by omega))) ?_
        refine JO.pur rfl rfl rfl (Pur.lss rfl rfl) ?_
        refine JO.nil ?_
        refine J.splitB 100 rfl (fun h100 => ?_) (fun h100 => ?_)
        · try simp only [decide_eq_true_eq, decide_eq_false_iff_not, Bool.not_eq_true', Bool.not_eq_false', Bool.and_eq_true, Bool.or_eq_true, Bool.and_eq_false_iff, Bool.or_eq_false_iff, Option.isNone_some, Option.isSome_some, Option.isNone_none, Option.isSome_none, Int.not_lt, Int.not_le, beq_iff_eq, beq_eq_false_iff_ne, bne_iff_ne, ne_eq, Bool.not_not, Decidable.not_not] at h100
          refine J.condT rfl rfl ?_
          refine J.skip rfl ?_
          refine J.seq rfl ?_
          refine J.block rfl ?_
          refine J.seq rfl ?_
          refine J.region rfl ?_
          refine JO.pur rfl rfl rfl (Pur.move rfl) ?_
          refine JO.pur rfl rfl rfl (Pur.move rfl) ?_
          refine JO.pur rfl rfl rfl (Pur.len rfl) ?_
          refine JO.pur rfl rfl rfl (Pur.sub rfl rfl (wr64 (by omega))) ?_
          refine JO.pur rfl rfl rfl (Pur.assign rfl) ?_
          refine JO.nil ?_
          refine J.seq rfl ?_
          refine J.seq rfl ?_
          refine J.region rfl ?_
          refine JO.pur rfl rfl rfl (Pur.move rfl) ?_
          refine JO.pur rfl rfl rfl (Pur.move rfl) ?_
          refine JO.pur rfl rfl rfl (Pur.len rfl) ?_
          refine JO.pur rfl rfl rfl (Pur.lss rfl rfl) ?_
          refine JO.nil ?_
          refine J.splitB 110 rfl (fun h110 => ?_) (fun h110 => ?_)
          · try simp only [decide_eq_true_eq, decide_eq_false_iff_not, Bool.not_eq_true', Bool.not_eq_false', Bool.and_eq_true, Bool.or_eq_true, Bool.and_eq_false_iff, Bool.or_eq_false_iff, Option.isNone_some, Option.isSome_some, Option.isNone_none, Option.isSome_none, Int.not_lt, Int.not_le, beq_iff_eq, beq_eq_false_iff_ne, bne_iff_ne, ne_eq, Bool.not_not, Decidable.not_not] at h110
            obtain ⟨pv, hpk⟩ : ∃ pv, picks[k]? = some pv := ⟨_, List.getElem?_eq_getElem (by omega)⟩
            refine J.condT rfl rfl ?_
            refine J.region rfl ?_
            refine JO.pur rfl rfl rfl (Pur.move rfl) ?_
            refine JO.pur rfl rfl rfl (Pur.move rfl) ?_
            refine JO.pur rfl rfl rfl (Pur.idx rfl rfl rfl (by first | rfl | (simp; done) | omega) rfl (by omega)) ?_
            refine JO.pur rfl rfl rfl (Pur.load rfl (CellIn.el0 rfl hpk rfl)) ?_
            refine JO.pur rfl rfl rfl (Pur.assign rfl) ?_
            refine JO.nil ?_
            refine J.seq rfl ?_
            refine J.seq rfl ?_
            refine J.setv (u' := .int .i64 pv) 18 rfl (by first | rfl | exact congrArg (Value.int .i64) hpv.symm) ?_
            refine J.region rfl ?_
            refine JO.pur rfl rfl rfl (Pur.move rfl) ?_
            refine JO.pur rfl rfl rfl (Pur.lss rfl rfl) ?_
            refine JO.pur rfl rfl rfl (Pur.move rfl) ?_
            refine JO.splitB 117 rfl (fun h117 => ?_) (fun h117 => ?_)
            · try simp only [decide_eq_true_eq, decide_eq_false_iff_not, Bool.not_eq_true', Bool.not_eq_false', Bool.and_eq_true, Bool.or_eq_true, Bool.and_eq_false_iff, Bool.or_eq_false_iff, Option.isNone_some, Option.isSome_some, Option.isNone_none, Option.isSome_none, Int.not_lt, Int.not_le, beq_iff_eq, beq_eq_false_iff_ne, bne_iff_ne, ne_eq, Bool.not_not, Decidable.not_not] at h117
              have hnx : ∀ i, i < parts.length → picks.length + i < k + 1 → ds.getD i false = true := fun i hi h => by
                by_cases hki : picks.length + i < k
                · exact hds i hi hki
                · first
                  | omega
                  | (have e : i = pv.toNat := by omega
                     rw [e]; assumption)
              refine JO.no rfl rfl rfl ?_
              refine JO.no rfl rfl rfl ?_
              refine JO.no rfl rfl rfl ?_
              refine JO.no rfl rfl rfl ?_
              refine JO.pur rfl rfl rfl (Pur.pickT rfl rfl) ?_
              refine JO.pur rfl rfl rfl (Pur.move rfl) ?_
              refine JO.no rfl rfl rfl ?_
              refine JO.no rfl rfl rfl ?_
              refine JO.no rfl rfl rfl ?_
              refine JO.no rfl rfl rfl ?_
              refine JO.pur rfl rfl rfl (Pur.pickT rfl rfl) ?_
              refine JO.nil ?_
              refine J.condT rfl rfl ?_
              refine J.exit rfl rfl ?_
              refine J.region rfl ?_
              refine JO.pur rfl rfl rfl (Pur.move rfl) ?_
              refine JO.pur rfl rfl rfl (Pur.add rfl rfl (wr64 (by omega))) ?_
              refine JO.pur rfl rfl rfl (Pur.assign rfl) ?_
              refine JO.nil ?_
              first
                | exact J.weaken (.cons rfl (congrArg (Value.int .i64) (by first | rfl | (dsimp only; omega))) (.cons rfl rfl (.cons rfl rfl (.cons rfl rfl (.cons rfl rfl (.cons rfl rfl (.cons rfl rfl .nil))))))) (by first | exact fun _ h => h | exact SubC.out | (dsimp only; exact SubC.out)) (ih1 (k + 1, ds) ⟨(by dsimp only; omega), hdl, hnx, hgd⟩ (by dsimp only; omega))
                | exact J.weaken (.cons rfl (congrArg (Value.int .i64) (by first | rfl | (dsimp only; omega))) (.cons rfl rfl (.cons rfl rfl (.cons rfl rfl (.cons rfl rfl (.cons rfl rfl (.cons rfl rfl .nil))))))) (by first | exact fun _ h => h | exact SubC.out | (dsimp only; exact SubC.out)) (ih1 (k + 1, ds.set pv.toNat true) ⟨(by dsimp only; omega), hdl2, hnx2, hgd2⟩ (by dsimp only; omega))
            · try simp only [decide_eq_true_eq, decide_eq_false_iff_not, Bool.not_eq_true', Bool.not_eq_false', Bool.and_eq_true, Bool.or_eq_true, Bool.and_eq_false_iff, Bool.or_eq_false_iff, Option.isNone_some, Option.isSome_some, Option.isNone_none, Option.isSome_none, Int.not_lt, Int.not_le, beq_iff_eq, beq_eq_false_iff_ne, bne_iff_ne, ne_eq, Bool.not_not, Decidable.not_not] at h117
              refine JO.pur rfl rfl rfl (Pur.move rfl) ?_
              refine JO.pur rfl rfl rfl (Pur.move rfl) ?_
              refine JO.pur rfl rfl rfl (Pur.len rfl) ?_
              refine JO.pur rfl rfl rfl (Pur.geq rfl rfl) ?_
              refine JO.pur rfl rfl rfl (Pur.pickF rfl rfl) ?_
              refine JO.pur rfl rfl rfl (Pur.move rfl) ?_
              refine JO.splitB 123 rfl (fun h123 => ?_) (fun h123 => ?_)
              · try simp only [decide_eq_true_eq, decide_eq_false_iff_not, Bool.not_eq_true', Bool.not_eq_false', Bool.and_eq_true, Bool.or_eq_true, Bool.and_eq_false_iff, Bool.or_eq_false_iff, Option.isNone_some, Option.isSome_some, Option.isNone_none, Option.isSome_none, Int.not_lt, Int.not_le, beq_iff_eq, beq_eq_false_iff_ne, bne_iff_ne, ne_eq, Bool.not_not, Decidable.not_not] at h123
                have hnx : ∀ i, i < parts.length → picks.length + i < k + 1 → ds.getD i false = true := fun i hi h => by
                  by_cases hki : picks.length + i < k
                  · exact hds i hi hki
                  · first
                    | omega
                    | (have e : i = pv.toNat := by omega
                       rw [e]; assumption)
                refine JO.no rfl rfl rfl ?_
                refine JO.no rfl rfl rfl ?_
                refine JO.no rfl rfl rfl ?_
                refine JO.no rfl rfl rfl ?_
                refine JO.pur rfl rfl rfl (Pur.pickT rfl rfl) ?_
                refine JO.nil ?_
                refine J.condT rfl rfl ?_
                refine J.exit rfl rfl ?_
                refine J.region rfl ?_
                refine JO.pur rfl rfl rfl (Pur.move rfl) ?_
                refine JO.pur rfl rfl rfl (Pur.add rfl rfl (wr64 (by omega))) ?_
                refine JO.pur rfl rfl rfl (Pur.assign rfl) ?_
                refine JO.nil ?_
                first
                  | exact J.weaken (.cons rfl (congrArg (Value.int .i64) (by first | rfl | (dsimp only; omega))) (.cons rfl rfl (.cons rfl rfl (.cons rfl rfl (.cons rfl rfl (.cons rfl rfl (.cons rfl rfl .nil))))))) (by first | exact fun _ h => h | exact SubC.out | (dsimp only; exact SubC.out)) (ih1 (k + 1, ds) ⟨(by dsimp only; omega), hdl, hnx, hgd⟩ (by dsimp only; omega))
                  | exact J.weaken (.cons rfl (congrArg (Value.int .i64) (by first | rfl | (dsimp only; omega))) (.cons rfl rfl (.cons rfl rfl (.cons rfl rfl (.cons rfl rfl (.cons rfl rfl (.cons rfl rfl .nil))))))) (by first | exact fun _ h => h | exact SubC.out | (dsimp only; exact SubC.out)) (ih1 (k + 1, ds.set pv.toNat true) ⟨(by dsimp only; omega), hdl2, hnx2, hgd2⟩ (by dsimp only; omega))
              · try simp only [decide_eq_true_eq, decide_eq_false_iff_not, Bool.not_eq_true', Bool.not_eq_false', Bool.and_eq_true, Bool.or_eq_true, Bool.and_eq_false_iff, Bool.or_eq_false_iff, Option.isNone_some, Option.isSome_some, Option.isNone_none, Option.isSome_none, Int.not_lt, Int.not_le, beq_iff_eq, beq_eq_false_iff_ne, bne_iff_ne, ne_eq, Bool.not_not, Decidable.not_not] at h123
                have hp0 : 0 ≤ pv := by omega
                have hpl2 : pv.toNat < parts.length := by omega
                have hdb : ds[pv.toNat]? = some (ds.getD pv.toNat false) := by rw [List.getD_eq_getElem?_getD, List.getElem?_eq_getElem (by omega)]; rfl
                refine JO.pur rfl rfl rfl (Pur.move rfl) ?_
                refine JO.pur rfl rfl rfl (Pur.move rfl) ?_
                refine JO.pur rfl rfl rfl (Pur.idx rfl rfl rfl (by first | rfl | (simp; done) | omega) (Int.toNat_of_nonneg hp0).symm (by omega)) ?_
                refine JO.pur rfl rfl rfl (Pur.load rfl (CellIn.el0 rfl hdb rfl)) ?_
                refine JO.pur rfl rfl rfl (Pur.pickF rfl rfl) ?_
                refine JO.nil ?_
                refine J.splitB 128 rfl (fun h128 => ?_) (fun h128 => ?_)
                · try simp only [decide_eq_true_eq, decide_eq_false_iff_not, Bool.not_eq_true', Bool.not_eq_false', Bool.and_eq_true, Bool.or_eq_true, Bool.and_eq_false_iff, Bool.or_eq_false_iff, Option.isNone_some, Option.isSome_some, Option.isNone_none, Option.isSome_none, Int.not_lt, Int.not_le, beq_iff_eq, beq_eq_false_iff_ne, bne_iff_ne, ne_eq, Bool.not_not, Decidable.not_not] at h128
                  have hnx : ∀ i, i < parts.length → picks.length + i < k + 1 → ds.getD i false = true := fun i hi h => by
                    by_cases hki : picks.length + i < k
                    · exact hds i hi hki
                    · first
                      | omega
                      | (have e : i = pv.toNat := by omega
                         rw [e]; assumption)
                  refine J.condT rfl rfl ?_
                  refine J.exit rfl rfl ?_
                  refine J.region rfl ?_
                  refine JO.pur rfl rfl rfl (Pur.move rfl) ?_
                  refine JO.pur rfl rfl rfl (Pur.add rfl rfl (wr64 (by omega))) ?_
                  refine JO.pur rfl rfl rfl (Pur.assign rfl) ?_
                  refine JO.nil ?_
                  first
                    | exact J.weaken (.cons rfl (congrArg (Value.int .i64) (by first | rfl | (dsimp only; omega))) (.cons rfl rfl (.cons rfl rfl (.cons rfl rfl (.cons rfl rfl (.cons rfl rfl (.cons rfl rfl .nil))))))) (by first | exact fun _ h => h | exact SubC.out | (dsimp only; exact SubC.out)) (ih1 (k + 1, ds) ⟨(by dsimp only; omega), hdl, hnx, hgd⟩ (by dsimp only; omega))
                    | exact J.weaken (.cons rfl (congrArg (Value.int .i64) (by first | rfl | (dsimp only; omega))) (.cons rfl rfl (.cons rfl rfl (.cons rfl rfl (.cons rfl rfl (.cons rfl rfl (.cons rfl rfl .nil))))))) (by first | exact fun _ h => h | exact SubC.out | (dsimp only; exact SubC.out)) (ih1 (k + 1, ds.set pv.toNat true) ⟨(by dsimp only; omega), hdl2, hnx2, hgd2⟩ (by dsimp only; omega))
                · try simp only [decide_eq_true_eq, decide_eq_false_iff_not, Bool.not_eq_true', Bool.not_eq_false', Bool.and_eq_true, Bool.or_eq_true, Bool.and_eq_false_iff, Bool.or_eq_false_iff, Option.isNone_some, Option.isSome_some, Option.isNone_none, Option.isSome_none, Int.not_lt, Int.not_le, beq_iff_eq, beq_eq_false_iff_ne, bne_iff_ne, ne_eq, Bool.not_not, Decidable.not_not] at h128
                  obtain ⟨hd, hH⟩ : ∃ hd, hs[pv.toNat]? = some hd := ⟨_, List.getElem?_eq_getElem (by omega)⟩
                  have hC := getD_part hpl2
                  have hdn := hdr_n hnn hH hC
                  have hyl : (parts.getD pv.toNat []).length ≤ 9223372036854775807 := hpl _ (List.mem_of_getElem? hC)
                  have hnm := numsT_get hpl2
                  have hdf : ds.getD pv.toNat false = false := by simpa using h128
                  have hw := tw_write hok (B := Z0 size) (nx := ((parts.length + 1 : Nat) : Int)) (m := parts.length) (d := fun i => ds.getD i false) hpl2 hdf (hft _ hpl2)
                  rw [set_setd (by omega)] at hw
                  have hgd2 := good_write hgd ((pv.toNat + 1 : Nat) : Int) (parts.getD pv.toNat [])
                  rw [hw] at hgd2
                  have hdl2 : (ds.set pv.toNat true).length = parts.length := by rw [List.length_set]; exact hdl
                  have hnx2 : ∀ i, i < parts.length → picks.length + i < k + 1 → (ds.set pv.toNat true).getD i false = true := fun i hi h => by
                    rw [List.getD_eq_getElem?_getD, List.getElem?_set]
                    by_cases e : pv.toNat = i
                    · rw [if_pos e, if_pos (by omega)]; rfl
                    · rw [if_neg e, ← List.getD_eq_getElem?_getD]
                      exact hds i hi (by first | omega | skip)
                  refine J.condF rfl rfl ?_
                  refine J.skip rfl ?_
                  refine J.seq rfl ?_
                  refine J.region rfl ?_
                  refine JO.pur rfl rfl rfl (Pur.move rfl) ?_
                  refine JO.pur rfl rfl rfl (Pur.move rfl) ?_
                  refine JO.pur rfl rfl rfl (Pur.idx rfl rfl rfl (by first | rfl | (simp; done) | omega) (Int.toNat_of_nonneg hp0).symm (by omega)) ?_
                  refine JO.effN rfl rfl (Eff.storeS0 (z' := true) rfl rfl rfl rfl hdb .head) ?_
                  rintro _ _ ⟨rfl, rfl⟩
                  refine JO.nil ?_
                  refine J.seq rfl ?_
                  refine J.fact (fun h s => RowsR.fit (E := byE) (hs := hs) (xss := parts) s hH hC) fun hfit => ?_
                  refine J.imp (M := FA p (TF size parts (Z0 size) ((parts.length + 1 : Nat) : Int) parts.length (fun i => ds.getD i false)) :: sl boE (some ⟨b93, 0, none⟩) parts.length (ds.set pv.toNat true) :: sl intE a12 c12 (numsT parts.length) :: sl byE a23 c23 (togV size parts).1 :: L) (fun h s => SubC.out h s) ?_
                  refine J.mask1 (n := 11) [] rfl Try.mixed rfl (by kernel_rfl) ?_
                  refine JM.take 0 (fun _ h => h.tail) rfl (by kernel_rfl) rfl rfl rfl (m' := 1) rfl (Pur.move rfl) ?_
                  refine JM.take 1 (fun _ h => h.tail) rfl (by kernel_rfl) rfl rfl rfl (m' := 3) rfl (Pur.move rfl) ?_
                  refine JM.take 2 (fun _ h => h.tail) rfl (by kernel_rfl) rfl rfl rfl (m' := 7) rfl (Pur.move rfl) ?_
                  refine JM.take 3 (fun _ h => h.tail) rfl (by kernel_rfl) rfl rfl rfl (m' := 15) rfl (Pur.idx rfl rfl rfl (by first | rfl | (simp; done) | omega) (Int.toNat_of_nonneg hp0).symm (by rw [numsT_len]; omega)) ?_
                  refine JM.take 4 (fun _ h => h.tail) rfl (by kernel_rfl) rfl rfl rfl (m' := 31) rfl (Pur.load rfl (CellIn.el0 rfl hnm rfl)) ?_
                  refine JM.take 5 (fun _ h => h.tail) rfl (by kernel_rfl) rfl rfl rfl (m' := 63) rfl (Pur.move rfl) ?_
                  refine JM.take 6 (fun _ h => h.tail) rfl (by kernel_rfl) rfl rfl rfl (m' := 127) rfl (Pur.move rfl) ?_
                  refine JM.take 7 (fun _ h => h.tail) rfl (by kernel_rfl) rfl rfl rfl (m' := 255) rfl (Pur.idx rfl rfl rfl (by first | rfl | (simp; done) | omega) (Int.toNat_of_nonneg hp0).symm (by omega)) ?_
                  refine JM.take 8 (fun _ h => h.tail) rfl (by kernel_rfl) rfl rfl rfl (m' := 511) rfl (Pur.load rfl (CellIn.el0 rfl hH rfl)) ?_
                  refine JM.one (i := 9) (by kernel_rfl) ?_
                  refine JMi.eff rfl rfl rfl rfl (m' := 1023) rfl (Eff.call rfl (@Write_ok _ _ _ _ _ _ _ (parts.getD pv.toNat []) (RowsR.row (E := byE) inferInstance hH hC) hdn hyl hfit.1 parts.length hgd (by omega))) ?_
                  rintro _ _ ⟨rfl, rfl⟩
                  refine ⟨.inr (fun _ h => h.tail), ?_⟩
                  rw [hw]
                  refine JM.take 10 (fun _ h => h.tail) rfl (by kernel_rfl) rfl rfl rfl (m' := 2047) rfl (Pur.neqI rfl rfl) ?_
                  refine JM.setv (u' := .bool false) 142 rfl (congrArg Value.bool (rfl)) ?_
                  refine JM.done rfl ?_
                  refine J.condF rfl rfl ?_
                  refine J.skip rfl ?_
                  refine J.inBlock ?_
                  refine J.region rfl ?_
                  refine JO.pur rfl rfl rfl (Pur.move rfl) ?_
                  refine JO.pur rfl rfl rfl (Pur.add rfl rfl (wr64 (by omega))) ?_
                  refine JO.pur rfl rfl rfl (Pur.assign rfl) ?_
                  refine JO.nil ?_
                  first
                    | exact J.weaken (.cons rfl (congrArg (Value.int .i64) (by first | rfl | (dsimp only; omega))) (.cons rfl rfl (.cons rfl rfl (.cons rfl rfl (.cons rfl rfl (.cons rfl rfl (.cons rfl rfl .nil))))))) (by first | exact fun _ h => h | exact SubC.out | (dsimp only; exact SubC.out)) (ih1 (k + 1, ds) ⟨(by dsimp only; omega), hdl, hnx, hgd⟩ (by dsimp only; omega))
                    | exact J.weaken (.cons rfl (congrArg (Value.int .i64) (by first | rfl | (dsimp only; omega))) (.cons rfl rfl (.cons rfl rfl (.cons rfl rfl (.cons rfl rfl (.cons rfl rfl (.cons rfl rfl .nil))))))) (by first | exact fun _ h => h | exact SubC.out | (dsimp only; exact SubC.out)) (ih1 (k + 1, ds.set pv.toNat true) ⟨(by dsimp only; omega), hdl2, hnx2, hgd2⟩ (by dsimp only; omega))
          · try simp only [decide_eq_true_eq, decide_eq_false_iff_not, Bool.not_eq_true', Bool.not_eq_false', Bool.and_eq_true, Bool.or_eq_true, Bool.and_eq_false_iff, Bool.or_eq_false_iff, Option.isNone_some, Option.isSome_some, Option.isNone_none, Option.isSome_none, Int.not_lt, Int.not_le, beq_iff_eq, beq_eq_false_iff_ne, bne_iff_ne, ne_eq, Bool.not_not, Decidable.not_not] at h110
            obtain ⟨pv, hpv⟩ : ∃ pv : Int, pv = (k : Int) - (picks.length : Int) := ⟨_, rfl⟩
            refine J.condF rfl rfl ?_
            refine J.skip rfl ?_
            refine J.seq rfl ?_
            refine J.seq rfl ?_
            refine J.setv (u' := .int .i64 pv) 18 rfl (by first | rfl | exact congrArg (Value.int .i64) hpv.symm) ?_
            refine J.region rfl ?_
            refine JO.pur rfl rfl rfl (Pur.move rfl) ?_
            refine JO.pur rfl rfl rfl (Pur.lss rfl rfl) ?_
            refine JO.pur rfl rfl rfl (Pur.move rfl) ?_
            refine JO.splitB 117 rfl (fun h117 => ?_) (fun h117 => ?_)
            · try simp only [decide_eq_true_eq, decide_eq_false_iff_not, Bool.not_eq_true', Bool.not_eq_false', Bool.and_eq_true, Bool.or_eq_true, Bool.and_eq_false_iff, Bool.or_eq_false_iff, Option.isNone_some, Option.isSome_some, Option.isNone_none, Option.isSome_none, Int.not_lt, Int.not_le, beq_iff_eq, beq_eq_false_iff_ne, bne_iff_ne, ne_eq, Bool.not_not, Decidable.not_not] at h117
              have hnx : ∀ i, i < parts.length → picks.length + i < k + 1 → ds.getD i false = true := fun i hi h => by
                by_cases hki : picks.length + i < k
                · exact hds i hi hki
                · first
                  | omega
                  | (have e : i = pv.toNat := by omega
                     rw [e]; assumption)
              refine JO.no rfl rfl rfl ?_
              refine JO.no rfl rfl rfl ?_
              refine JO.no rfl rfl rfl ?_
              refine JO.no rfl rfl rfl ?_
              refine JO.pur rfl rfl rfl (Pur.pickT rfl rfl) ?_
              refine JO.pur rfl rfl rfl (Pur.move rfl) ?_
              refine JO.no rfl rfl rfl ?_
              refine JO.no rfl rfl rfl ?_
              refine JO.no rfl rfl rfl ?_
              refine JO.no rfl rfl rfl ?_
              refine JO.pur rfl rfl rfl (Pur.pickT rfl rfl) ?_
              refine JO.nil ?_
              refine J.condT rfl rfl ?_
              refine J.exit rfl rfl ?_
              refine J.region rfl ?_
              refine JO.pur rfl rfl rfl (Pur.move rfl) ?_
              refine JO.pur rfl rfl rfl (Pur.add rfl rfl (wr64 (by omega))) ?_
              refine JO.pur rfl rfl rfl (Pur.assign rfl) ?_
              refine JO.nil ?_
              first
                | exact J.weaken (.cons rfl (congrArg (Value.int .i64) (by first | rfl | (dsimp only; omega))) (.cons rfl rfl (.cons rfl rfl (.cons rfl rfl (.cons rfl rfl (.cons rfl rfl (.cons rfl rfl .nil))))))) (by first | exact fun _ h => h | exact SubC.out | (dsimp only; exact SubC.out)) (ih1 (k + 1, ds) ⟨(by dsimp only; omega), hdl, hnx, hgd⟩ (by dsimp only; omega))
                | exact J.weaken (.cons rfl (congrArg (Value.int .i64) (by first | rfl | (dsimp only; omega))) (.cons rfl rfl (.cons rfl rfl (.cons rfl rfl (.cons rfl rfl (.cons rfl rfl (.cons rfl rfl .nil))))))) (by first | exact fun _ h => h | exact SubC.out | (dsimp only; exact SubC.out)) (ih1 (k + 1, ds.set pv.toNat true) ⟨(by dsimp only; omega), hdl2, hnx2, hgd2⟩ (by dsimp only; omega))
            · try simp only [decide_eq_true_eq, decide_eq_false_iff_not, Bool.not_eq_true', Bool.not_eq_false', Bool.and_eq_true, Bool.or_eq_true, Bool.and_eq_false_iff, Bool.or_eq_false_iff, Option.isNone_some, Option.isSome_some, Option.isNone_none, Option.isSome_none, Int.not_lt, Int.not_le, beq_iff_eq, beq_eq_false_iff_ne, bne_iff_ne, ne_eq, Bool.not_not, Decidable.not_not] at h117
              refine JO.pur rfl rfl rfl (Pur.move rfl) ?_
              refine JO.pur rfl rfl rfl (Pur.move rfl) ?_
              refine JO.pur rfl rfl rfl (Pur.len rfl) ?_
              refine JO.pur rfl rfl rfl (Pur.geq rfl rfl) ?_
              refine JO.pur rfl rfl rfl (Pur.pickF rfl rfl) ?_
              refine JO.pur rfl rfl rfl (Pur.move rfl) ?_
              refine JO.splitB 123 rfl (fun h123 => ?_) (fun h123 => ?_)
              · try simp only [decide_eq_true_eq, decide_eq_false_iff_not, Bool.not_eq_true', Bool.not_eq_false', Bool.and_eq_true, Bool.or_eq_true, Bool.and_eq_false_iff, Bool.or_eq_false_iff, Option.isNone_some, Option.isSome_some, Option.isNone_none, Option.isSome_none, Int.not_lt, Int.not_le, beq_iff_eq, beq_eq_false_iff_ne, bne_iff_ne, ne_eq, Bool.not_not, Decidable.not_not] at h123
                have hnx : ∀ i, i < parts.length → picks.length + i < k + 1 → ds.getD i false = true := fun i hi h => by
                  by_cases hki : picks.length + i < k
                  · exact hds i hi hki
                  · first
                    | omega
                    | (have e : i = pv.toNat := by omega
                       rw [e]; assumption)
                refine JO.no rfl rfl rfl ?_
                refine JO.no rfl rfl rfl ?_
                refine JO.no rfl rfl rfl ?_
                refine JO.no rfl rfl rfl ?_
                refine JO.pur rfl rfl rfl (Pur.pickT rfl rfl) ?_
                refine JO.nil ?_
                refine J.condT rfl rfl ?_
                refine J.exit rfl rfl ?_
                refine J.region rfl ?_
                refine JO.pur rfl rfl rfl (Pur.move rfl) ?_
                refine JO.pur rfl rfl rfl (Pur.add rfl rfl (wr64 (by omega))) ?_
                refine JO.pur rfl rfl rfl (Pur.assign rfl) ?_
                refine JO.nil ?_
                first
                  | exact J.weaken (.cons rfl (congrArg (Value.int .i64) (by first | rfl | (dsimp only; omega))) (.cons rfl rfl (.cons rfl rfl (.cons rfl rfl (.cons rfl rfl (.cons rfl rfl (.cons rfl rfl .nil))))))) (by first | exact fun _ h => h | exact SubC.out | (dsimp only; exact SubC.out)) (ih1 (k + 1, ds) ⟨(by dsimp only; omega), hdl, hnx, hgd⟩ (by dsimp only; omega))
                  | exact J.weaken (.cons rfl (congrArg (Value.int .i64) (by first | rfl | (dsimp only; omega))) (.cons rfl rfl (.cons rfl rfl (.cons rfl rfl (.cons rfl rfl (.cons rfl rfl (.cons rfl rfl .nil))))))) (by first | exact fun _ h => h | exact SubC.out | (dsimp only; exact SubC.out)) (ih1 (k + 1, ds.set pv.toNat true) ⟨(by dsimp only; omega), hdl2, hnx2, hgd2⟩ (by dsimp only; omega))
              · try simp only [decide_eq_true_eq, decide_eq_false_iff_not, Bool.not_eq_true', Bool.not_eq_false', Bool.and_eq_true, Bool.or_eq_true, Bool.and_eq_false_iff, Bool.or_eq_false_iff, Option.isNone_some, Option.isSome_some, Option.isNone_none, Option.isSome_none, Int.not_lt, Int.not_le, beq_iff_eq, beq_eq_false_iff_ne, bne_iff_ne, ne_eq, Bool.not_not, Decidable.not_not] at h123
                have hp0 : 0 ≤ pv := by omega
                have hpl2 : pv.toNat < parts.length := by omega
                have hdb : ds[pv.toNat]? = some (ds.getD pv.toNat false) := by rw [List.getD_eq_getElem?_getD, List.getElem?_eq_getElem (by omega)]; rfl
                refine JO.pur rfl rfl rfl (Pur.move rfl) ?_
                refine JO.pur rfl rfl rfl (Pur.move rfl) ?_
                refine JO.pur rfl rfl rfl (Pur.idx rfl rfl rfl (by first | rfl | (simp; done) | omega) (Int.toNat_of_nonneg hp0).symm (by omega)) ?_
                refine JO.pur rfl rfl rfl (Pur.load rfl (CellIn.el0 rfl hdb rfl)) ?_
                refine JO.pur rfl rfl rfl (Pur.pickF rfl rfl) ?_
                refine JO.nil ?_
                refine J.splitB 128 rfl (fun h128 => ?_) (fun h128 => ?_)
                · try simp only [decide_eq_true_eq, decide_eq_false_iff_not, Bool.not_eq_true', Bool.not_eq_false', Bool.and_eq_true, Bool.or_eq_true, Bool.and_eq_false_iff, Bool.or_eq_false_iff, Option.isNone_some, Option.isSome_some, Option.isNone_none, Option.isSome_none, Int.not_lt, Int.not_le, beq_iff_eq, beq_eq_false_iff_ne, bne_iff_ne, ne_eq, Bool.not_not, Decidable.not_not] at h128
                  have hnx : ∀ i, i < parts.length → picks.length + i < k + 1 → ds.getD i false = true := fun i hi h => by
                    by_cases hki : picks.length + i < k
                    · exact hds i hi hki
                    · first
                      | omega
                      | (have e : i = pv.toNat := by omega
                         rw [e]; assumption)
                  refine J.condT rfl rfl ?_
                  refine J.exit rfl rfl ?_
                  refine J.region rfl ?_
                  refine JO.pur rfl rfl rfl (Pur.move rfl) ?_
                  refine JO.pur rfl rfl rfl (Pur.add rfl rfl (wr64 (by omega))) ?_
                  refine JO.pur rfl rfl rfl (Pur.assign rfl) ?_
                  refine JO.nil ?_
                  first
                    | exact J.weaken (.cons rfl (congrArg (Value.int .i64) (by first | rfl | (dsimp only; omega))) (.cons rfl rfl (.cons rfl rfl (.cons rfl rfl (.cons rfl rfl (.cons rfl rfl (.cons rfl rfl .nil))))))) (by first | exact fun _ h => h | exact SubC.out | (dsimp only; exact SubC.out)) (ih1 (k + 1, ds) ⟨(by dsimp only; omega), hdl, hnx, hgd⟩ (by dsimp only; omega))
                    | exact J.weaken (.cons rfl (congrArg (Value.int .i64) (by first | rfl | (dsimp only; omega))) (.cons rfl rfl (.cons rfl rfl (.cons rfl rfl (.cons rfl rfl (.cons rfl rfl (.cons rfl rfl .nil))))))) (by first | exact fun _ h => h | exact SubC.out | (dsimp only; exact SubC.out)) (ih1 (k + 1, ds.set pv.toNat true) ⟨(by dsimp only; omega), hdl2, hnx2, hgd2⟩ (by dsimp only; omega))
                · try simp only [decide_eq_true_eq, decide_eq_false_iff_not, Bool.not_eq_true', Bool.not_eq_false', Bool.and_eq_true, Bool.or_eq_true, Bool.and_eq_false_iff, Bool.or_eq_false_iff, Option.isNone_some, Option.isSome_some, Option.isNone_none, Option.isSome_none, Int.not_lt, Int.not_le, beq_iff_eq, beq_eq_false_iff_ne, bne_iff_ne, ne_eq, Bool.not_not, Decidable.not_not] at h128
                  obtain ⟨hd, hH⟩ : ∃ hd, hs[pv.toNat]? = some hd := ⟨_, List.getElem?_eq_getElem (by omega)⟩
                  have hC := getD_part hpl2
                  have hdn := hdr_n hnn hH hC
                  have hyl : (parts.getD pv.toNat []).length ≤ 9223372036854775807 := hpl _ (List.mem_of_getElem? hC)
                  have hnm := numsT_get hpl2
                  have hdf : ds.getD pv.toNat false = false := by simpa using h128
                  have hw := tw_write hok (B := Z0 size) (nx := ((parts.length + 1 : Nat) : Int)) (m := parts.length) (d := fun i => ds.getD i false) hpl2 hdf (hft _ hpl2)
                  rw [set_setd (by omega)] at hw
                  have hgd2 := good_write hgd ((pv.toNat + 1 : Nat) : Int) (parts.getD pv.toNat [])
                  rw [hw] at hgd2
                  have hdl2 : (ds.set pv.toNat true).length = parts.length := by rw [List.length_set]; exact hdl
                  have hnx2 : ∀ i, i < parts.length → picks.length + i < k + 1 → (ds.set pv.toNat true).getD i false = true := fun i hi h => by
                    rw [List.getD_eq_getElem?_getD, List.getElem?_set]
                    by_cases e : pv.toNat = i
                    · rw [if_pos e, if_pos (by omega)]; rfl
                    · rw [if_neg e, ← List.getD_eq_getElem?_getD]
                      exact hds i hi (by first | omega | skip)
                  refine J.condF rfl rfl ?_
                  refine J.skip rfl ?_
                  refine J.seq rfl ?_
                  refine J.region rfl ?_
                  refine JO.pur rfl rfl rfl (Pur.move rfl) ?_
                  refine JO.pur rfl rfl rfl (Pur.move rfl) ?_
                  refine JO.pur rfl rfl rfl (Pur.idx rfl rfl rfl (by first | rfl | (simp; done) | omega) (Int.toNat_of_nonneg hp0).symm (by omega)) ?_
                  refine JO.effN rfl rfl (Eff.storeS0 (z' := true) rfl rfl rfl rfl hdb .head) ?_
                  rintro _ _ ⟨rfl, rfl⟩
                  refine JO.nil ?_
                  refine J.seq rfl ?_
                  refine J.fact (fun h s => RowsR.fit (E := byE) (hs := hs) (xss := parts) s hH hC) fun hfit => ?_
                  refine J.imp (M := FA p (TF size parts (Z0 size) ((parts.length + 1 : Nat) : Int) parts.length (fun i => ds.getD i false)) :: sl boE (some ⟨b93, 0, none⟩) parts.length (ds.set pv.toNat true) :: sl intE a12 c12 (numsT parts.length) :: sl byE a23 c23 (togV size parts).1 :: L) (fun h s => SubC.out h s) ?_
                  refine J.mask1 (n := 11) [] rfl Try.mixed rfl (by kernel_rfl) ?_
                  refine JM.take 0 (fun _ h => h.tail) rfl (by kernel_rfl) rfl rfl rfl (m' := 1) rfl (Pur.move rfl) ?_
                  refine JM.take 1 (fun _ h => h.tail) rfl (by kernel_rfl) rfl rfl rfl (m' := 3) rfl (Pur.move rfl) ?_
                  refine JM.take 2 (fun _ h => h.tail) rfl (by kernel_rfl) rfl rfl rfl (m' := 7) rfl (Pur.move rfl) ?_
                  refine JM.take 3 (fun _ h => h.tail) rfl (by kernel_rfl) rfl rfl rfl (m' := 15) rfl (Pur.idx rfl rfl rfl (by first | rfl | (simp; done) | omega) (Int.toNat_of_nonneg hp0).symm (by rw [numsT_len]; omega)) ?_
                  refine JM.take 4 (fun _ h => h.tail) rfl (by kernel_rfl) rfl rfl rfl (m' := 31) rfl (Pur.load rfl (CellIn.el0 rfl hnm rfl)) ?_
                  refine JM.take 5 (fun _ h => h.tail) rfl (by kernel_rfl) rfl rfl rfl (m' := 63) rfl (Pur.move rfl) ?_
                  refine JM.take 6 (fun _ h => h.tail) rfl (by kernel_rfl) rfl rfl rfl (m' := 127) rfl (Pur.move rfl) ?_
                  refine JM.take 7 (fun _ h => h.tail) rfl (by kernel_rfl) rfl rfl rfl (m' := 255) rfl (Pur.idx rfl rfl rfl (by first | rfl | (simp; done) | omega) (Int.toNat_of_nonneg hp0).symm (by omega)) ?_
                  refine JM.take 8 (fun _ h => h.tail) rfl (by kernel_rfl) rfl rfl rfl (m' := 511) rfl (Pur.load rfl (CellIn.el0 rfl hH rfl)) ?_
                  refine JM.one (i := 9) (by kernel_rfl) ?_
                  refine JMi.eff rfl rfl rfl rfl (m' := 1023) rfl (Eff.call rfl (@Write_ok _ _ _ _ _ _ _ (parts.getD pv.toNat []) (RowsR.row (E := byE) inferInstance hH hC) hdn hyl hfit.1 parts.length hgd (by omega))) ?_
                  rintro _ _ ⟨rfl, rfl⟩
                  refine ⟨.inr (fun _ h => h.tail), ?_⟩
                  rw [hw]
                  refine JM.take 10 (fun _ h => h.tail) rfl (by kernel_rfl) rfl rfl rfl (m' := 2047) rfl (Pur.neqI rfl rfl) ?_
                  refine JM.setv (u' := .bool false) 142 rfl (congrArg Value.bool (rfl)) ?_
                  refine JM.done rfl ?_
                  refine J.condF rfl rfl ?_
                  refine J.skip rfl ?_
                  refine J.inBlock ?_
                  refine J.region rfl ?_
                  refine JO.pur rfl rfl rfl (Pur.move rfl) ?_
                  refine JO.pur rfl rfl rfl (Pur.add rfl rfl (wr64 (by omega))) ?_
                  refine JO.pur rfl rfl rfl (Pur.assign rfl) ?_
                  refine JO.nil ?_
                  first
                    | exact J.weaken (.cons rfl (congrArg (Value.int .i64) (by first | rfl | (dsimp only; omega))) (.cons rfl rfl (.cons rfl rfl (.cons rfl rfl (.cons rfl rfl (.cons rfl rfl (.cons rfl rfl .nil))))))) (by first | exact fun _ h => h | exact SubC.out | (dsimp only; exact SubC.out)) (ih1 (k + 1, ds) ⟨(by dsimp only; omega), hdl, hnx, hgd⟩ (by dsimp only; omega))
                    | exact J.weaken (.cons rfl (congrArg (Value.int .i64) (by first | rfl | (dsimp only; omega))) (.cons rfl rfl (.cons rfl rfl (.cons rfl rfl (.cons rfl rfl (.cons rfl rfl (.cons rfl rfl .nil))))))) (by first | exact fun _ h => h | exact SubC.out | (dsimp only; exact SubC.out)) (ih1 (k + 1, ds.set pv.toNat true) ⟨(by dsimp only; omega), hdl2, hnx2, hgd2⟩ (by dsimp only; omega))
        · try simp only [decide_eq_true_eq, decide_eq_false_iff_not, Bool.not_eq_true', Bool.not_eq_false', Bool.and_eq_true, Bool.or_eq_true, Bool.and_eq_false_iff, Bool.or_eq_false_iff, Option.isNone_some, Option.isSome_some, Option.isNone_none, Option.isSome_none, Int.not_lt, Int.not_le, beq_iff_eq, beq_eq_false_iff_ne, bne_iff_ne, ne_eq, Bool.not_not, Decidable.not_not] at h100
          obtain rfl : k = picks.length + parts.length := by omega
          have hTa : (TF size parts (Z0 size) ((parts.length + 1 : Nat) : Int) parts.length (fun i => ds.getD i false)) = (TF size parts (DB size parts parts.length) ((parts.length + 1 : Nat) : Int) parts.length (fun _ => true)) := by rw [DB_top hok]; exact tf_all hok (fun i hi => hds i hi (by omega))
          refine J.condF rfl rfl ?_
          refine J.exit rfl rfl ?_
          refine J.seq rfl ?_
          refine J.seq rfl ?_
          refine J.region rfl ?_
          refine JO.pur rfl rfl rfl (Pur.move rfl) ?_
          refine JO.pur rfl rfl rfl (Pur.len rfl) ?_
          refine JO.pur rfl rfl rfl (Pur.sub rfl rfl (wr64 (by rw [numsT_len]; omega))) ?_
          refine JO.pur rfl rfl rfl (Pur.assign rfl) ?_
          refine JO.nil ?_
          refine J.block rfl ?_
          refine J.loopF (ι := Nat) (fun q => q ≤ parts.length ∧ Hf.Good (TF size parts (DB size parts q) ((parts.length + 1 : Nat) : Int) q (fun _ => true)) parts.length) (fun q => [(19, .int .i64 ((q : Int) - 1))]) [(7, _), (10, _), (12, _)] (fun q => FA p (TF size parts (DB size parts q) ((parts.length + 1 : Nat) : Int) q (fun _ => true)) :: sl intE a12 c12 (numsT parts.length) :: sl byE a23 c23 (togV size parts).1 :: L) (fun q => q) parts.length rfl (.cons rfl rfl (.cons rfl rfl (.cons rfl rfl .nil))) (.cons rfl (congrArg (Value.int .i64) (by rw [numsT_len])) .nil) (fun h s => by rw [← hTa]; exact SubC.out h s) ⟨Nat.le_refl _, hTa ▸ hgd⟩ ?_
          rintro k ⟨hk, hg⟩ ih2
          try dsimp only
          refine J.seq rfl ?_
          refine J.seq rfl ?_
          refine J.region rfl ?_
          refine JO.pur rfl rfl rfl (Pur.move rfl) ?_
          refine JO.pur rfl rfl rfl (Pur.geq rfl rfl) ?_
          refine JO.nil ?_
          refine J.splitB 147 rfl (fun h147 => ?_) (fun h147 => ?_)
          · try simp only [decide_eq_true_eq, decide_eq_false_iff_not, Bool.not_eq_true', Bool.not_eq_false', Bool.and_eq_true, Bool.or_eq_true, Bool.and_eq_false_iff, Bool.or_eq_false_iff, Option.isNone_some, Option.isSome_some, Option.isNone_none, Option.isSome_none, Int.not_lt, Int.not_le, beq_iff_eq, beq_eq_false_iff_ne, bne_iff_ne, ne_eq, Bool.not_not, Decidable.not_not] at h147
            obtain ⟨j, rfl⟩ : ∃ j, k = j + 1 := ⟨k - 1, by omega⟩
            have hjp : j < parts.length := by omega
            have hnm := numsT_get hjp
            have hg3 := good_close hg ((j + 1 : Nat) : Int)
            rw [tw_close hok hft hjp] at hg3
            refine J.condT rfl rfl ?_
            refine J.skip rfl ?_
            refine J.seq rfl ?_
            refine J.block rfl ?_
            refine J.seq rfl ?_
            refine J.region rfl ?_
            refine JO.pur rfl rfl rfl (Pur.move rfl) ?_
            refine JO.pur rfl rfl rfl (Pur.move rfl) ?_
            refine JO.pur rfl rfl rfl (Pur.move rfl) ?_
            refine JO.pur rfl rfl rfl (Pur.idx rfl rfl rfl (by first | rfl | (simp; done) | omega) (show ((j + 1 : Nat) : Int) - 1 = (j : Int) by omega) (by rw [numsT_len]; omega)) ?_
            refine JO.pur rfl rfl rfl (Pur.load rfl (CellIn.el0 rfl hnm rfl)) ?_
            refine JO.eff rfl rfl rfl (Eff.call rfl (Close_ok (n := ((j + 1 : Nat) : Int)) hg (by omega))) ?_
            rintro _ _ ⟨rfl, rfl⟩
            rw [tw_close hok hft hjp]
            refine JO.pur rfl rfl rfl (Pur.neqI rfl rfl) ?_
            refine JO.setv (u' := .bool false) 156 rfl (congrArg Value.bool (rfl)) ?_
            refine JO.nil ?_
            refine J.condF rfl rfl ?_
            refine J.skip rfl ?_
            refine J.inBlock ?_
            refine J.region rfl ?_
            refine JO.pur rfl rfl rfl (Pur.move rfl) ?_
            refine JO.pur rfl rfl rfl (Pur.sub rfl rfl (wr64 (by omega))) ?_
            refine JO.pur rfl rfl rfl (Pur.assign rfl) ?_
            refine JO.nil ?_
            exact J.weaken (.cons rfl (congrArg (Value.int .i64) (by omega)) (.cons rfl rfl (.cons rfl rfl (.cons rfl rfl .nil)))) (by first | exact fun _ h => h | exact SubC.out | (dsimp only; exact SubC.out)) (ih2 j ⟨(by omega), hg3⟩ (by omega))
          · try simp only [decide_eq_true_eq, decide_eq_false_iff_not, Bool.not_eq_true', Bool.not_eq_false', Bool.and_eq_true, Bool.or_eq_true, Bool.and_eq_false_iff, Bool.or_eq_false_iff, Option.isNone_some, Option.isSome_some, Option.isNone_none, Option.isSome_none, Int.not_lt, Int.not_le, beq_iff_eq, beq_eq_false_iff_ne, bne_iff_ne, ne_eq, Bool.not_not, Decidable.not_not] at h147
            obtain rfl : k = 0 := by omega
            refine J.condF rfl rfl ?_
            refine J.exit rfl rfl ?_
            refine J.seq rfl ?_
            refine J.region rfl ?_
            refine JO.pur rfl rfl rfl (Pur.move rfl) ?_
            refine JO.eff rfl rfl rfl (Eff.call rfl (Bytes_ok (F := (TF size parts (DB size parts 0) ((parts.length + 1 : Nat) : Int) 0 (fun _ => true))) (DB_len hok hft 0))) ?_
            rintro _ _ ⟨a158, c158, rfl, rfl⟩
            refine JO.pur rfl rfl rfl (Pur.move rfl) ?_
            refine JO.effR rfl rfl rfl (Eff.call rfl (same_ok (xs := DB size parts 0) (ys := (togV size parts).1) rfl rfl)) ?_
            refine JO.setv (u' := .bool true) 160 rfl (congrArg Value.bool (decide_eq_true (by rw [DB_end hok hft]; exact htv.symm))) ?_
            refine JO.pur rfl rfl rfl (Pur.move rfl) ?_
            refine JO.effR rfl rfl rfl (Eff.call rfl (first_ok)) ?_
            refine JO.setv (u' := .bool true) 162 rfl (congrArg Value.bool (rfl)) ?_
            refine JO.pur rfl rfl rfl (Pur.pickT rfl rfl) ?_
            refine JO.pur rfl rfl rfl (Pur.assign rfl) ?_
            refine JO.nil ?_
            refine J.ret rfl rfl ?_
            exact ⟨_, _, ⟨rfl, rfl⟩, rfl, SubC.out⟩

end Go.Proofs.Ytgbckamaenapeaa
