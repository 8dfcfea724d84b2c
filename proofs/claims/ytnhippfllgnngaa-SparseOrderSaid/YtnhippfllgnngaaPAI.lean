/-
  A part of the proof of the claim that this folder bears.
-/
import Derived.Test.YtnhippfllgnngaaPAH
import Derived.Test.YtnhippfllgnngaaPAF
import Derived.Test.YtnhippfllgnngaaPAD
import Derived.Test.YtnhippfllgnngaaPAG
/- The text SM3. -/
set_option linter.unusedVariables false
set_option linter.unusedSimpArgs false
set_option maxRecDepth 10000
namespace Go.Proofs.Ytnhippfllgnngaa
open Go Go.KK Dm

theorem stable_ok {L : List Asn} {ad : Option Addr} {n cap : Nat} {es : List (Int × Hdr)} {m : Int} (hn : n = es.length) (hm : m = (es.length : Int)) (hes : es.length ≤ 1000000) :
    CallS Try.prog 180 [.slice ad n cap, .int .i64 m, (.func (.func 160) #[] #[])].toArray (sl enE ad cap (es) :: L) (fun v M => ∃ ys, v = .tuple #[] ∧ ys.Perm es ∧ srtd enK ys ∧ M = sl enE ad cap (ys) :: L) := by
  subst hn
  subst hm
  refine CallS.ent ?_
  refine CallS.enter Try.func180 rfl rfl rfl rfl rfl ?_
  refine J.seq rfl ?_
  refine J.region rfl ?_
  refine JO.pur rfl rfl rfl (Pur.assign rfl) ?_
  refine JO.nil ?_
  refine J.seq rfl ?_
  refine J.region rfl ?_
  refine JO.pur rfl rfl rfl (Pur.move rfl) ?_
  refine JO.pur rfl rfl rfl (Pur.assign rfl) ?_
  refine JO.pur rfl rfl rfl (Pur.assign rfl) ?_
  refine JO.nil ?_
  refine J.seq rfl ?_
  refine J.block rfl ?_
  refine J.loopF (ι := Nat × List (Int × Hdr)) (fun q => q.2.length = q.1 * 20 ∧ q.1 * 20 ≤ es.length ∧ bsr enK 20 q.2 ∧ q.2.Perm (es.take (q.1 * 20))) (fun q => [(7, .int .i64 ((q.1 * 20 : Nat) : Int)), (8, .int .i64 ((q.1 * 20 + 20 : Nat) : Int))]) [(0, _), (1, _), (2, _), (6, _)] (fun q => sl enE ad cap (q.2 ++ es.drop (q.1 * 20)) :: L) (fun q => es.length - q.1 * 20) (0, []) rfl (.cons rfl rfl (.cons rfl rfl (.cons rfl rfl (.cons rfl rfl .nil)))) (.cons rfl (congrArg (Value.int .i64) (by first | rfl | (dsimp only; omega))) (.cons rfl (congrArg (Value.int .i64) (by first | rfl | (dsimp only; omega))) .nil)) (fun h s => by dsimp only; rw [Nat.zero_mul, List.drop_zero, List.nil_append]; exact SubC.out h s) ⟨rfl, Nat.zero_le _, bsr_nil 20, by simp⟩ ?_
  rintro ⟨q, D⟩ ⟨hD, hq, hb, hp⟩ ihq
  try dsimp only
  dsimp only at hD hq hb hp
  have hdl : (es.drop (q * 20)).length = es.length - q * 20 := List.length_drop
  have hqs : (q + 1) * 20 = q * 20 + 20 := Nat.succ_mul q 20
  refine J.seq rfl ?_
  refine J.seq rfl ?_
  refine J.region rfl ?_
  refine JO.pur rfl rfl rfl (Pur.move rfl) ?_
  refine JO.pur rfl rfl rfl (Pur.move rfl) ?_
  refine JO.pur rfl rfl rfl (Pur.leq rfl rfl) ?_
  refine JO.nil ?_
  refine J.splitB 13 rfl (fun h13 => ?_) (fun h13 => ?_)
  · try simp only [decide_eq_true_eq, decide_eq_false_iff_not, Bool.not_eq_true', Bool.not_eq_false', Bool.and_eq_true, Bool.or_eq_true, Bool.and_eq_false_iff, Bool.or_eq_false_iff, Option.isNone_some, Option.isSome_some, Option.isNone_none, Option.isSome_none, Int.not_lt, Int.not_le, beq_iff_eq, beq_eq_false_iff_ne, bne_iff_ne, ne_eq, Bool.not_not, Decidable.not_not] at h13
    obtain ⟨A, S, hsp, hA⟩ := split_len (l := es.drop (q * 20)) (j := 20) (by omega)
    refine J.condT rfl rfl ?_
    refine J.skip rfl ?_
    refine J.block rfl ?_
    refine J.seq rfl ?_
    refine J.region rfl ?_
    refine JO.pur rfl rfl rfl (Pur.move rfl) ?_
    refine JO.pur rfl rfl rfl (Pur.move rfl) ?_
    refine JO.pur rfl rfl rfl (Pur.move rfl) ?_
    refine JO.pur rfl rfl rfl (Pur.move rfl) ?_
    refine JO.eff rfl rfl rfl (Eff.call rfl (insert_ok (P := D) (A := A) (S := S) (by rw [hsp]; simp) (by rw [List.length_append, hdl]; omega) (by omega) (by omega) (by rw [List.length_append, hdl]; omega))) ?_
    rintro _ _ ⟨A2, rfl, hAp, hAs, rfl⟩
    have hst := blk_step (ky := enK) (by omega) hD hb hp hsp hAp hAs
    rw [hA] at hst
    refine JO.nil ?_
    refine J.seq rfl ?_
    refine J.region rfl ?_
    refine JO.pur rfl rfl rfl (Pur.move rfl) ?_
    refine JO.pur rfl rfl rfl (Pur.assign rfl) ?_
    refine JO.nil ?_
    refine J.region rfl ?_
    refine JO.pur rfl rfl rfl (Pur.move rfl) ?_
    refine JO.pur rfl rfl rfl (Pur.move rfl) ?_
    refine JO.pur rfl rfl rfl (Pur.add rfl rfl (wr64 (by omega))) ?_
    refine JO.pur rfl rfl rfl (Pur.assign rfl) ?_
    refine JO.nil ?_
    refine J.inBlock ?_
    exact J.weaken (.cons rfl (congrArg (Value.int .i64) (by dsimp only; omega)) (.cons rfl (congrArg (Value.int .i64) (by dsimp only; omega)) (.cons rfl rfl (.cons rfl rfl (.cons rfl rfl (.cons rfl rfl .nil)))))) (fun h s => by dsimp only; rw [hqs, hst.2.2.1]; exact SubC.out h s) (ihq (q + 1, D ++ A2) ⟨by dsimp only; omega, by dsimp only; omega, hst.1, by dsimp only; rw [hqs]; exact hst.2.1⟩ (by dsimp only; omega))
  · try simp only [decide_eq_true_eq, decide_eq_false_iff_not, Bool.not_eq_true', Bool.not_eq_false', Bool.and_eq_true, Bool.or_eq_true, Bool.and_eq_false_iff, Bool.or_eq_false_iff, Option.isNone_some, Option.isSome_some, Option.isNone_none, Option.isSome_none, Int.not_lt, Int.not_le, beq_iff_eq, beq_eq_false_iff_ne, bne_iff_ne, ne_eq, Bool.not_not, Decidable.not_not] at h13
    refine J.condF rfl rfl ?_
    refine J.exit rfl rfl ?_
    refine J.seq rfl ?_
    refine J.region rfl ?_
    refine JO.pur rfl rfl rfl (Pur.move rfl) ?_
    refine JO.pur rfl rfl rfl (Pur.move rfl) ?_
    refine JO.pur rfl rfl rfl (Pur.move rfl) ?_
    refine JO.pur rfl rfl rfl (Pur.move rfl) ?_
    refine JO.eff rfl rfl rfl (Eff.call rfl (insert_ok (P := D) (A := es.drop (q * 20)) (S := []) (by simp) (by rw [List.length_append, hdl]; omega) (by omega) (by omega) (by rw [List.length_append, hdl]; omega))) ?_
    rintro _ _ ⟨A2, rfl, hAp, hAs, rfl⟩
    have hst := blk_step (ky := enK) (S := []) (by omega) hD hb hp (by simp) hAp hAs
    have hpe : (D ++ A2).Perm es := by have := hst.2.1; rwa [List.take_of_length_le (by omega)] at this
    refine JO.nil ?_
    refine J.block rfl ?_
    refine J.loopF (ι := Nat × List (Int × Hdr)) (fun q => 0 < q.1 ∧ q.1 ≤ 4000000 ∧ q.2.Perm es ∧ bsr enK q.1 q.2) (fun q => [(6, .int .i64 (q.1 : Int))]) [(0, _), (1, _), (2, _)] (fun q => sl enE ad cap (q.2) :: L) (fun q => es.length - q.1) (20, D ++ A2) rfl (.cons rfl rfl (.cons rfl rfl (.cons rfl rfl .nil))) (.cons rfl rfl .nil) (fun h s => by rw [List.append_nil] at s; exact SubC.out h s) ⟨by dsimp only; omega, by dsimp only; omega, hpe, hst.1⟩ ?_
    rintro ⟨B, ys⟩ ⟨hB, hB2, hpy, hby⟩ ihB
    try dsimp only
    dsimp only at hB hB2 hpy hby
    have hyl := hpy.length_eq
    refine J.seq rfl ?_
    refine J.seq rfl ?_
    refine J.region rfl ?_
    refine JO.pur rfl rfl rfl (Pur.move rfl) ?_
    refine JO.pur rfl rfl rfl (Pur.move rfl) ?_
    refine JO.pur rfl rfl rfl (Pur.lss rfl rfl) ?_
    refine JO.nil ?_
    refine J.splitB 30 rfl (fun h30 => ?_) (fun h30 => ?_)
    · try simp only [decide_eq_true_eq, decide_eq_false_iff_not, Bool.not_eq_true', Bool.not_eq_false', Bool.and_eq_true, Bool.or_eq_true, Bool.and_eq_false_iff, Bool.or_eq_false_iff, Option.isNone_some, Option.isSome_some, Option.isNone_none, Option.isSome_none, Int.not_lt, Int.not_le, beq_iff_eq, beq_eq_false_iff_ne, bne_iff_ne, ne_eq, Bool.not_not, Decidable.not_not] at h30
      obtain ⟨C, hC⟩ : ∃ C, C = 2 * B := ⟨_, rfl⟩
      refine J.condT rfl rfl ?_
      refine J.skip rfl ?_
      refine J.block rfl ?_
      refine J.seq rfl ?_
      refine J.region rfl ?_
      refine JO.pur rfl rfl rfl (Pur.move rfl) ?_
      refine JO.pur rfl rfl rfl (Pur.mul rfl rfl (wr64 (by omega))) ?_
      refine JO.setv (u' := .int .i64 (C : Int)) 32 rfl (congrArg (Value.int .i64) (by omega)) ?_
      refine JO.pur rfl rfl rfl (Pur.assign rfl) ?_
      refine JO.pur rfl rfl rfl (Pur.assign rfl) ?_
      refine JO.nil ?_
      refine J.seq rfl ?_
      refine J.block rfl ?_
      refine J.loopF (ι := Nat × List (Int × Hdr)) (fun q => q.2.length = q.1 * C ∧ q.1 * C ≤ ys.length ∧ bsr enK C q.2 ∧ q.2.Perm (ys.take (q.1 * C))) (fun q => [(7, .int .i64 ((q.1 * C : Nat) : Int)), (8, .int .i64 ((q.1 * C + C : Nat) : Int))]) [(0, _), (1, _), (2, _), (6, _)] (fun q => sl enE ad cap (q.2 ++ ys.drop (q.1 * C)) :: L) (fun q => ys.length - q.1 * C) (0, []) rfl (.cons rfl rfl (.cons rfl rfl (.cons rfl rfl (.cons rfl rfl .nil)))) (.cons rfl (congrArg (Value.int .i64) (by simp)) (.cons rfl (congrArg (Value.int .i64) (by simp)) .nil)) (fun h s => by dsimp only; rw [Nat.zero_mul, List.drop_zero, List.nil_append]; exact SubC.out h s) ⟨by simp, by simp, bsr_nil C, by simp⟩ ?_
      rintro ⟨q2, D2⟩ ⟨hD2, hq2, hb2, hp2⟩ ihq2
      try dsimp only
      dsimp only at hD2 hq2 hb2 hp2
      have hdl2 : (ys.drop (q2 * C)).length = ys.length - q2 * C := List.length_drop
      have hqs2 : (q2 + 1) * C = q2 * C + C := Nat.succ_mul q2 C
      have hqb : q2 * C = (2 * q2) * B := by rw [hC, Nat.mul_comm 2 q2, Nat.mul_assoc]
      have hqb1 : (2 * q2 + 1) * B = (2 * q2) * B + B := Nat.succ_mul _ B
      have htl2 : (ys.take (q2 * C)).length = q2 * C := by rw [List.length_take]; omega
      have hys := List.take_append_drop (q2 * C) ys
      refine J.seq rfl ?_
      refine J.seq rfl ?_
      refine J.region rfl ?_
      refine JO.pur rfl rfl rfl (Pur.move rfl) ?_
      refine JO.pur rfl rfl rfl (Pur.move rfl) ?_
      refine JO.pur rfl rfl rfl (Pur.leq rfl rfl) ?_
      refine JO.nil ?_
      refine J.splitB 35 rfl (fun h35 => ?_) (fun h35 => ?_)
      · try simp only [decide_eq_true_eq, decide_eq_false_iff_not, Bool.not_eq_true', Bool.not_eq_false', Bool.and_eq_true, Bool.or_eq_true, Bool.and_eq_false_iff, Bool.or_eq_false_iff, Option.isNone_some, Option.isSome_some, Option.isNone_none, Option.isSome_none, Int.not_lt, Int.not_le, beq_iff_eq, beq_eq_false_iff_ne, bne_iff_ne, ne_eq, Bool.not_not, Decidable.not_not] at h35
        obtain ⟨U, R, hsp1, hUl⟩ := split_len (l := ys.drop (q2 * C)) (j := B) (by omega)
        have hrl : R.length = ys.length - q2 * C - B := by have := congrArg List.length hsp1; rw [List.length_append] at this; omega
        obtain ⟨V, S, hsp2, hVl⟩ := split_len (l := R) (j := B) (by omega)
        have hUVl : (U ++ V).length = C := by rw [List.length_append]; omega
        have hdUV : ys.drop (q2 * C) = (U ++ V) ++ S := by rw [hsp1, hsp2]; simp
        have hUs : srtd enK U := bsr_cut (q := 2 * q2) (D := ys.take (q2 * C)) (E := V ++ S) hB (by rw [show U ++ (V ++ S) = ys.drop (q2 * C) by rw [hdUV]; simp, hys]; exact hby) (by omega) (by omega)
        have hVs : srtd enK V := bsr_cut (q := 2 * q2 + 1) (D := ys.take (q2 * C) ++ U) (E := S) hB (by rw [show ys.take (q2 * C) ++ U ++ (V ++ S) = ys.take (q2 * C) ++ ys.drop (q2 * C) by rw [hdUV]; simp, hys]; exact hby) (by rw [List.length_append]; omega) (by omega)
        refine J.condT rfl rfl ?_
        refine J.skip rfl ?_
        refine J.block rfl ?_
        refine J.seq rfl ?_
        refine J.region rfl ?_
        refine JO.pur rfl rfl rfl (Pur.move rfl) ?_
        refine JO.pur rfl rfl rfl (Pur.move rfl) ?_
        refine JO.pur rfl rfl rfl (Pur.move rfl) ?_
        refine JO.pur rfl rfl rfl (Pur.move rfl) ?_
        refine JO.pur rfl rfl rfl (Pur.add rfl rfl (wr64 (by omega))) ?_
        refine JO.pur rfl rfl rfl (Pur.move rfl) ?_
        refine JO.pur rfl rfl rfl (Pur.move rfl) ?_
        refine JO.eff rfl rfl rfl (Eff.call rfl (merge_ok (U.length + V.length) (P := D2) (U := U) (V := V) (S := S) (by rw [hdUV]; simp) (by rw [List.length_append, hdl2]; omega) (by omega) (by omega) (by omega) (by omega) (by omega) hUs hVs (by rw [List.length_append, hdl2]; omega) (Nat.le_refl _))) ?_
        rintro _ _ ⟨W, rfl, hWp, hWs, rfl⟩
        have hst2 := blk_step (ky := enK) (by omega) hD2 hb2 hp2 hdUV hWp hWs
        rw [hUVl] at hst2
        refine JO.nil ?_
        refine J.seq rfl ?_
        refine J.region rfl ?_
        refine JO.pur rfl rfl rfl (Pur.move rfl) ?_
        refine JO.pur rfl rfl rfl (Pur.assign rfl) ?_
        refine JO.nil ?_
        refine J.region rfl ?_
        refine JO.pur rfl rfl rfl (Pur.move rfl) ?_
        refine JO.pur rfl rfl rfl (Pur.move rfl) ?_
        refine JO.pur rfl rfl rfl (Pur.mul rfl rfl (wr64 (by omega))) ?_
        refine JO.setv (u' := .int .i64 (C : Int)) 47 rfl (congrArg (Value.int .i64) (by omega)) ?_
        refine JO.pur rfl rfl rfl (Pur.add rfl rfl (wr64 (by omega))) ?_
        refine JO.pur rfl rfl rfl (Pur.assign rfl) ?_
        refine JO.nil ?_
        refine J.inBlock ?_
        exact J.weaken (.cons rfl (congrArg (Value.int .i64) (by dsimp only; omega)) (.cons rfl (congrArg (Value.int .i64) (by dsimp only; omega)) (.cons rfl rfl (.cons rfl rfl (.cons rfl rfl (.cons rfl rfl .nil)))))) (fun h s => by dsimp only; rw [hqs2, hst2.2.2.1]; exact SubC.out h s) (ihq2 (q2 + 1, D2 ++ W) ⟨by dsimp only; omega, by dsimp only; omega, hst2.1, by dsimp only; rw [hqs2]; exact hst2.2.1⟩ (by dsimp only; omega))
      · try simp only [decide_eq_true_eq, decide_eq_false_iff_not, Bool.not_eq_true', Bool.not_eq_false', Bool.and_eq_true, Bool.or_eq_true, Bool.and_eq_false_iff, Bool.or_eq_false_iff, Option.isNone_some, Option.isSome_some, Option.isNone_none, Option.isSome_none, Int.not_lt, Int.not_le, beq_iff_eq, beq_eq_false_iff_ne, bne_iff_ne, ne_eq, Bool.not_not, Decidable.not_not] at h35
        refine J.condF rfl rfl ?_
        refine J.exit rfl rfl ?_
        refine J.seq rfl ?_
        refine J.seq rfl ?_
        refine J.region rfl ?_
        refine JO.pur rfl rfl rfl (Pur.move rfl) ?_
        refine JO.pur rfl rfl rfl (Pur.move rfl) ?_
        refine JO.pur rfl rfl rfl (Pur.add rfl rfl (wr64 (by omega))) ?_
        refine JO.pur rfl rfl rfl (Pur.assign rfl) ?_
        refine JO.nil ?_
        refine J.seq rfl ?_
        refine J.region rfl ?_
        refine JO.pur rfl rfl rfl (Pur.move rfl) ?_
        refine JO.pur rfl rfl rfl (Pur.move rfl) ?_
        refine JO.pur rfl rfl rfl (Pur.lss rfl rfl) ?_
        refine JO.nil ?_
        refine J.splitB 54 rfl (fun h54 => ?_) (fun h54 => ?_)
        · try simp only [decide_eq_true_eq, decide_eq_false_iff_not, Bool.not_eq_true', Bool.not_eq_false', Bool.and_eq_true, Bool.or_eq_true, Bool.and_eq_false_iff, Bool.or_eq_false_iff, Option.isNone_some, Option.isSome_some, Option.isNone_none, Option.isSome_none, Int.not_lt, Int.not_le, beq_iff_eq, beq_eq_false_iff_ne, bne_iff_ne, ne_eq, Bool.not_not, Decidable.not_not] at h54
          obtain ⟨U, V, hsp1, hUl⟩ := split_len (l := ys.drop (q2 * C)) (j := B) (by omega)
          have hVl : V.length = ys.length - q2 * C - B := by have := congrArg List.length hsp1; rw [List.length_append] at this; omega
          have hUVl : (U ++ V).length = ys.length - q2 * C := by rw [List.length_append]; omega
          have hdUV : ys.drop (q2 * C) = (U ++ V) ++ [] := by rw [hsp1]; simp
          have hUs : srtd enK U := bsr_cut (q := 2 * q2) (D := ys.take (q2 * C)) (E := V) hB (by rw [show U ++ V = ys.drop (q2 * C) by rw [hdUV]; simp, hys]; exact hby) (by omega) (by omega)
          have hVs : srtd enK V := bsr_cut (q := 2 * q2 + 1) (D := ys.take (q2 * C) ++ U) (E := []) hB (by rw [show ys.take (q2 * C) ++ U ++ (V ++ []) = ys.take (q2 * C) ++ ys.drop (q2 * C) by rw [hdUV]; simp, hys]; exact hby) (by rw [List.length_append]; omega) (by omega)
          refine J.condT rfl rfl ?_
          refine J.region rfl ?_
          refine JO.pur rfl rfl rfl (Pur.move rfl) ?_
          refine JO.pur rfl rfl rfl (Pur.move rfl) ?_
          refine JO.pur rfl rfl rfl (Pur.move rfl) ?_
          refine JO.pur rfl rfl rfl (Pur.move rfl) ?_
          refine JO.pur rfl rfl rfl (Pur.move rfl) ?_
          refine JO.eff rfl rfl rfl (Eff.call rfl (merge_ok (U.length + V.length) (P := D2) (U := U) (V := V) (S := []) (by rw [hdUV]; simp) (by rw [List.length_append, hdl2]; omega) (by omega) (by omega) (by omega) (by omega) (by omega) hUs hVs (by rw [List.length_append, hdl2]; omega) (Nat.le_refl _))) ?_
          rintro _ _ ⟨W, rfl, hWp, hWs, rfl⟩
          have hst2 := blk_step (ky := enK) (by omega) hD2 hb2 hp2 hdUV hWp hWs
          have hpw : (D2 ++ W).Perm es := by have := hst2.2.1; rw [List.take_of_length_le (by omega)] at this; exact this.trans hpy
          refine JO.nil ?_
          refine J.region rfl ?_
          refine JO.pur rfl rfl rfl (Pur.move rfl) ?_
          refine JO.pur rfl rfl rfl (Pur.mul rfl rfl (wr64 (by omega))) ?_
          refine JO.pur rfl rfl rfl (Pur.assign rfl) ?_
          refine JO.nil ?_
          refine J.inBlock ?_
          exact J.weaken (.cons rfl (congrArg (Value.int .i64) (by dsimp only; omega)) (.cons rfl rfl (.cons rfl rfl (.cons rfl rfl .nil)))) (fun h s => by dsimp only; rw [List.append_nil] at s; exact SubC.out h s) (ihB (C, D2 ++ W) ⟨by dsimp only; omega, by dsimp only; omega, hpw, hst2.1⟩ (by dsimp only; omega))
        · try simp only [decide_eq_true_eq, decide_eq_false_iff_not, Bool.not_eq_true', Bool.not_eq_false', Bool.and_eq_true, Bool.or_eq_true, Bool.and_eq_false_iff, Bool.or_eq_false_iff, Option.isNone_some, Option.isSome_some, Option.isNone_none, Option.isSome_none, Int.not_lt, Int.not_le, beq_iff_eq, beq_eq_false_iff_ne, bne_iff_ne, ne_eq, Bool.not_not, Decidable.not_not] at h54
          have hUs : srtd enK (ys.drop (q2 * C)) := bsr_cut (q := 2 * q2) (D := ys.take (q2 * C)) (E := []) hB (by rw [List.append_nil, hys]; exact hby) (by omega) (by omega)
          have hst2 := blk_step (ky := enK) (S := []) (by omega) hD2 hb2 hp2 (by simp) (List.Perm.refl _) hUs
          have hpw : (D2 ++ ys.drop (q2 * C)).Perm es := by have := hst2.2.1; rw [List.take_of_length_le (by omega)] at this; exact this.trans hpy
          refine J.condF rfl rfl ?_
          refine J.skip rfl ?_
          refine J.region rfl ?_
          refine JO.pur rfl rfl rfl (Pur.move rfl) ?_
          refine JO.pur rfl rfl rfl (Pur.mul rfl rfl (wr64 (by omega))) ?_
          refine JO.pur rfl rfl rfl (Pur.assign rfl) ?_
          refine JO.nil ?_
          refine J.inBlock ?_
          exact J.weaken (.cons rfl (congrArg (Value.int .i64) (by dsimp only; omega)) (.cons rfl rfl (.cons rfl rfl (.cons rfl rfl .nil)))) (fun h s => by dsimp only; exact SubC.out h s) (ihB (C, D2 ++ ys.drop (q2 * C)) ⟨by dsimp only; omega, by dsimp only; omega, hpw, hst2.1⟩ (by dsimp only; omega))
    · try simp only [decide_eq_true_eq, decide_eq_false_iff_not, Bool.not_eq_true', Bool.not_eq_false', Bool.and_eq_true, Bool.or_eq_true, Bool.and_eq_false_iff, Bool.or_eq_false_iff, Option.isNone_some, Option.isSome_some, Option.isNone_none, Option.isSome_none, Int.not_lt, Int.not_le, beq_iff_eq, beq_eq_false_iff_ne, bne_iff_ne, ne_eq, Bool.not_not, Decidable.not_not] at h30
      have hys : srtd enK ys := bsr_cut (q := 0) (D := []) (W := ys) (E := []) hB (by simpa using hby) (by simp) (by omega)
      refine J.condF rfl rfl ?_
      refine J.exit rfl rfl ?_
      refine J.fin rfl ?_
      refine ⟨_, _, ⟨ys, rfl, hpy, hys, rfl⟩, rfl, fun h s => ?_⟩
      exact SubC.out h s

theorem sortS_ok {L : List Asn} {ad : Option Addr} {n cap : Nat} {es : List (Int × Hdr)} (hn : n = es.length) (hes : es.length ≤ 1000000) :
    CallS Try.prog 159 [.slice ad n cap, (.func (.func 160) #[] #[])].toArray (sl enE ad cap (es) :: L) (fun v M => ∃ ys, v = .tuple #[] ∧ ys.Perm es ∧ srtd enK ys ∧ M = sl enE ad cap (ys) :: L) := by
  subst hn
  refine CallS.ent ?_
  refine CallS.enter Try.func159 rfl rfl rfl rfl rfl ?_
  refine J.region rfl ?_
  refine JO.pur rfl rfl rfl (Pur.move rfl) ?_
  refine JO.pur rfl rfl rfl (Pur.move rfl) ?_
  refine JO.pur rfl rfl rfl (Pur.len rfl) ?_
  refine JO.pur rfl rfl rfl (Pur.move rfl) ?_
  refine JO.eff rfl rfl rfl (Eff.call rfl (stable_ok rfl rfl hes)) ?_
  rintro _ _ ⟨ys, rfl, hpy, hys, rfl⟩
  refine JO.nil ?_
  refine J.fin rfl ?_
  refine ⟨_, _, ⟨ys, rfl, hpy, hys, rfl⟩, rfl, fun h s => ?_⟩
  exact SubC.out h s

end Go.Proofs.Ytnhippfllgnngaa

/- The text SpPlain3. -/
set_option linter.unusedVariables false
set_option linter.unusedSimpArgs false
/-! Compressed by rows, plain. -/
namespace Go.Proofs.Ytnhippfllgnngaa
open Go Go.KK Dm
theorem setAt_set {v : Value} : ∀ {cs : List Value} {k : Nat}, k < cs.length → SetAt v cs k (cs.set k v)
  | c :: cs, 0, _ => .head
  | c :: cs, k + 1, h => .tail (setAt_set (Nat.lt_of_succ_lt_succ h))
  | [], k, h => absurd h (Nat.not_lt_zero k)
def oneR (rs : List Rg) (k : Nat) : List Rg := [rs.getD k default]
def twoL (rs : List Rg) (q : Nat) : List Value := [.int .i64 (if 0 < q then ctV (oneR rs 0) else 0), .int .i64 (if 1 < q then ctV (oneR rs 1) else 0)]
theorem twoL_succ {rs : List Rg} {k : Nat} (h : k < 2) : (twoL rs k).set k (.int .i64 (ctV (oneR rs k))) = twoL rs (k + 1) := by
  match k, h with
  | 0, _ => rfl
  | 1, _ => rfl
theorem drop_one {rs : List Rg} {k : Nat} (h : k < rs.length) : (rs.drop k).take 1 = oneR rs k := by
  rw [List.drop_eq_getElem_cons h]
  unfold oneR
  rw [List.getD_eq_getElem?_getD, List.getElem?_eq_getElem h]; rfl
/-- The row and the column of an index. -/
def memS (rs : List Rg) (dim : Nat) (z : Int) : Int := (plV (oneR rs dim) [z]).1
def incL (l : List Int) (i : Nat) : List Int := l.set (i + 1) (l.getD (i + 1) 0 + 1)
def rowN (d : List Rg) (x : List Int) : Nat := (memS d 0 (x.getD 0 0)).toNat
def cntL (d : List Rg) (n : Nat) (xss : List (List Int)) : List Int := xss.foldl (fun l x => incL l (rowN d x)) (List.replicate (n + 1) 0)
def colL (d : List Rg) (xss : List (List Int)) : List Int := xss.map fun x => memS d 1 (x.getD 1 0)
theorem cntL_snoc (d : List Rg) (n : Nat) (xss : List (List Int)) (x : List Int) : cntL d n (xss ++ [x]) = incL (cntL d n xss) (rowN d x) := by unfold cntL; rw [List.foldl_append]; rfl
theorem incL_len (l : List Int) (i : Nat) : (incL l i).length = l.length := by simp [incL]
theorem snoc_ind' {α : Type} {P : List α → Prop} (h0 : P []) (h1 : ∀ l z, P l → P (l ++ [z])) (l : List α) : P l := by
  have : ∀ m : List α, P m.reverse := by
    intro m
    induction m with
    | nil => exact h0
    | cons z m ih => rw [List.reverse_cons]; exact h1 _ _ ih
  have h := this l.reverse
  rwa [List.reverse_reverse] at h
theorem cntL_len (d : List Rg) (n : Nat) (xss : List (List Int)) : (cntL d n xss).length = n + 1 := by
  refine snoc_ind' (P := fun xss => (cntL d n xss).length = n + 1) (by simp [cntL]) (fun l z ih => ?_) xss
  rw [cntL_snoc, incL_len, ih]
theorem sum_set : ∀ {l : List Int} {k : Nat} {v : Int}, k < l.length → (l.set k v).sum = l.sum - l.getD k 0 + v
  | a :: l, 0, v, _ => by simp; omega
  | a :: l, k + 1, v, h => by
    have := sum_set (l := l) (k := k) (v := v) (Nat.lt_of_succ_lt_succ h)
    simp only [List.set_cons_succ, List.sum_cons, this, List.getD_cons_succ]; omega
  | [], k, v, h => absurd h (Nat.not_lt_zero k)
/-- Each count is none below zero, and together there are as many as indexes. -/
theorem cntL_bnd {d : List Rg} {n : Nat} (xss : List (List Int)) (h : ∀ x ∈ xss, rowN d x < n) : (∀ j, 0 ≤ (cntL d n xss).getD j 0) ∧ (cntL d n xss).sum = (xss.length : Int) := by
  revert h
  refine snoc_ind' (P := fun xss => (∀ x ∈ xss, rowN d x < n) → (∀ j, 0 ≤ (cntL d n xss).getD j 0) ∧ (cntL d n xss).sum = (xss.length : Int)) ?_ (fun l z ih h => ?_) xss
  · intro _
    refine ⟨fun j => ?_, by simp [cntL]⟩
    unfold cntL
    rw [List.foldl_nil, List.getD_eq_getElem?_getD, List.getElem?_replicate]; split <;> simp
  · obtain ⟨h1, h2⟩ := ih (fun x hx => h x (List.mem_append_left _ hx))
    have hz := h z (by simp)
    rw [cntL_snoc]
    have hl := cntL_len d n l
    unfold incL
    refine ⟨fun j => ?_, ?_⟩
    · rw [List.getD_eq_getElem?_getD, List.getElem?_set]
      split
      · rename_i e
        rw [if_pos (by omega)]
        have := h1 (rowN d z + 1)
        show 0 ≤ _ + 1; omega
      · rw [← List.getD_eq_getElem?_getD]; exact h1 j
    · rw [sum_set (by omega), h2, List.length_append, List.length_singleton]; omega
theorem sum_nonneg' : ∀ {l : List Int}, (∀ j, 0 ≤ l.getD j 0) → 0 ≤ l.sum
  | [], _ => by simp
  | a :: l, h => by
    have h1 := h 0
    have h2 := sum_nonneg' (l := l) (fun j => by have := h (j + 1); simpa using this)
    simp at h1
    rw [List.sum_cons]; omega
theorem getD_le_sum : ∀ {l : List Int} (j : Nat), (∀ j, 0 ≤ l.getD j 0) → l.getD j 0 ≤ l.sum
  | [], j, _ => by simp
  | a :: l, 0, h => by
    have h2 := sum_nonneg' (l := l) (fun j => by have := h (j + 1); simpa using this)
    simp; omega
  | a :: l, j + 1, h => by
    have h1 := h 0
    simp at h1
    have := getD_le_sum (l := l) j (fun j => by have := h (j + 1); simpa using this)
    simp only [List.getD_cons_succ, List.sum_cons]; omega
theorem take_sum_le {l : List Int} (k : Nat) (h : ∀ j, 0 ≤ l.getD j 0) : 0 ≤ (l.take k).sum ∧ (l.take k).sum ≤ l.sum := by
  have e : l.sum = (l.take k).sum + (l.drop k).sum := by conv => lhs; rw [← List.take_append_drop k l, List.sum_append]
  have h1 : 0 ≤ (l.take k).sum := sum_nonneg' fun j => by
    rw [List.getD_eq_getElem?_getD, List.getElem?_take]
    split
    · rw [← List.getD_eq_getElem?_getD]; exact h j
    · simp
  have h2 : 0 ≤ (l.drop k).sum := sum_nonneg' fun j => by
    rw [List.getD_eq_getElem?_getD, List.getElem?_drop, ← List.getD_eq_getElem?_getD]; exact h _
  omega
/-- The first ones summed up. -/
def preL (l : List Int) (q : Nat) : List Int := (List.range l.length).map fun j => if j ≤ q then (l.take (j + 1)).sum else l.getD j 0
theorem preL_len (l : List Int) (q : Nat) : (preL l q).length = l.length := by simp [preL]
theorem preL_get {l : List Int} {q j : Nat} (h : j < l.length) : (preL l q)[j]? = some (if j ≤ q then (l.take (j + 1)).sum else l.getD j 0) := by
  unfold preL; rw [List.getElem?_map, List.getElem?_range h]; rfl
theorem take_sum_succ {l : List Int} {j : Nat} (h : j < l.length) : (l.take (j + 1)).sum = (l.take j).sum + l.getD j 0 := by
  rw [take_get (getD_at' 0 h), List.sum_append]; simp
theorem preL_zero (l : List Int) : preL l 0 = l := by
  apply List.ext_getElem?
  intro j
  by_cases hj : j < l.length
  · rw [preL_get hj]
    by_cases e : j = 0
    · subst e
      rw [if_pos (Nat.le_refl _), take_sum_succ hj, getD_at' 0 hj]; simp
    · rw [if_neg (by omega), getD_at' 0 hj]
  · rw [List.getElem?_eq_none (by rw [preL_len]; omega), List.getElem?_eq_none (by omega)]
theorem preL_succ {l : List Int} {q : Nat} (h : q + 1 < l.length) : (preL l q).set (q + 1) (l.getD (q + 1) 0 + (l.take (q + 1)).sum) = preL l (q + 1) := by
  apply List.ext_getElem?
  intro j
  by_cases hj : j < l.length
  · rw [List.getElem?_set, preL_get hj, preL_get hj]
    by_cases e : q + 1 = j
    · subst e
      rw [if_pos rfl, if_pos (by rw [preL_len]; exact h), if_pos (Nat.le_refl _), take_sum_succ h]; congr 1; omega
    · rw [if_neg e]
      by_cases e2 : j ≤ q
      · rw [if_pos e2, if_pos (by omega)]
      · rw [if_neg e2, if_neg (by omega)]
  · rw [List.getElem?_eq_none (by rw [List.length_set, preL_len]; omega), List.getElem?_eq_none (by rw [preL_len]; omega)]
/-- What Rows gives. -/
def rowsV (rs : List Rg) (xss : List (List Int)) : List Int × List Int × Int := if ¬ okS rs xss then ([], [], 50) else if rs.length ≠ 2 then ([], [], 2) else
  (preL (cntL (canD rs) (ctV (oneR (canD rs) 0)).toNat xss) (ctV (oneR (canD rs) 0)).toNat, colL (canD rs) xss, 0)
/-- The parts of a valid domain's canonical form. -/
theorem one_ok {rs : List Rg} (h : okD rs) {k : Nat} (hk : k < rs.length) : okD (oneR (canD rs) k) ∧ ctV (oneR (canD rs) k) = (cnt ((canD rs).getD k default) : Int) ∧ cnt ((canD rs).getD k default) ≤ 4096 := by
  have h1 := canD_okD h
  have hm : (canD rs).getD k default ∈ canD rs := getD_mem (by rw [canD_len]; exact hk)
  have hc : cnt ((canD rs).getD k default) ≤ 4096 := by
    by_cases e : cntD rs = 0
    · have : (canD rs).getD k default = none3 := by
        unfold canD at hm ⊢
        rw [if_pos e] at hm ⊢
        obtain ⟨_, _, e2⟩ := List.mem_map.1 hm
        exact e2.symm
      rw [this, none3_cnt]; omega
    · have hne : rs ≠ [] := fun e2 => by rw [e2] at hk; simp at hk
      have h2 : cntD (canD rs) ≠ 0 := by rw [canD_cnt h.2.2.1 hne]; exact e
      have := Nat.le_of_dvd (by omega) (cnt_dvd hm)
      have := h1.2.2.2
      omega
  have hcd : cntD (oneR (canD rs) k) = cnt ((canD rs).getD k default) := by unfold oneR cntD; simp
  have ho : okD (oneR (canD rs) k) := by
    refine ⟨by simp [oneR], by simp [oneR], fun r hr => ?_, by rw [hcd]; exact hc⟩
    unfold oneR at hr
    rw [List.mem_singleton] at hr
    rw [hr]; exact h1.2.2.1 _ hm
  refine ⟨ho, ?_, hc⟩
  unfold ctV; rw [if_pos ho, hcd]
end Go.Proofs.Ytnhippfllgnngaa
namespace Go.Proofs.Ytnhippfllgnngaa
open Go Go.KK Dm
/-- An index's number in a dimension. -/
theorem mem_one {rs : List Rg} {x : List Int} (h : okD rs) (hx : (plD rs x).isSome = true) {k : Nat} (hk : k < rs.length) : ∃ i, plR ((canD rs).getD k default) (x.getD k 0) = some i ∧ memS (canD rs) k (x.getD k 0) = (i : Int) ∧ i < cnt ((canD rs).getD k default) := by
  have hne : rs ≠ [] := fun e => by rw [e] at hk; simp at hk
  have h1 := canD_okD h
  have hl : x.length = rs.length := by
    unfold plD at hx
    by_cases e : x.length = rs.length
    · exact e
    · rw [if_neg e] at hx; cases hx
  have hx2 : (plK (canD rs) x (canD rs).length).isSome = true := by
    have : (plD (canD rs) x).isSome = true := by
      cases e : plD rs x with
      | none => rw [e] at hx; cases hx
      | some n =>
        have e2 := (plD_iff h.2.2.1).1 e
        rw [← canD_idx h.2.2.1 hne] at e2
        rw [(plD_iff h1.2.2.1).2 e2]; rfl
    unfold plD at this
    rwa [if_pos (by rw [canD_len]; exact hl)] at this
  have h2 := plK_some.1 hx2 k (by rw [canD_len]; exact hk)
  obtain ⟨i, hi⟩ := Option.isSome_iff_exists.1 h2
  have hr : okR ((canD rs).getD k default) := h1.2.2.1 _ (getD_mem (by rw [canD_len]; exact hk))
  refine ⟨i, hi, ?_, plR_lt hr hi⟩
  obtain ⟨ho, _, _⟩ := one_ok h hk
  unfold memS plV
  rw [if_neg (not_not_intro ho), if_neg (not_not_intro (by rfl))]
  have : plD (oneR (canD rs) k) [x.getD k 0] = some i := by
    have hlt := plR_lt hr hi
    have he := ((plR_iff hr).1 hi).2
    refine (plD_iff ho.2.2.1).2 ?_
    show (addD [[]] _)[i]? = _
    rw [addD_get (by omega), Nat.div_eq_of_lt hlt, Nat.mod_eq_of_lt hlt]
    show some ([] ++ [atR _ (i : Int)]) = _
    rw [List.nil_append]
    exact congrArg (fun z => some [z]) he.symm
  rw [this]
end Go.Proofs.Ytnhippfllgnngaa

/- The text SH3. -/
set_option linter.unusedVariables false
set_option linter.unusedSimpArgs false
set_option maxRecDepth 10000
namespace Go.Proofs.Ytnhippfllgnngaa
open Go Go.KK Dm

theorem small_ok {L : List Asn} {a : Option Addr} {n cap : Nat} {rs : List Rg} [SlIn rgE L a rs] (hn : n = rs.length) :
    CallS Try.prog 91 [.agg #[.slice a n cap]].toArray L (fun v M => ∃ a' c', v = .agg #[.slice a' (cdV rs).length c'] ∧ M = sl rgE a' c' (cdV rs) :: L) := by
  subst hn
  refine CallS.ent ?_
  refine CallS.enter Try.func91 rfl rfl rfl rfl rfl ?_
  refine J.seq rfl ?_
  refine J.region rfl ?_
  refine JO.eff rfl rfl rfl (Eff.box (cs := [_]) rfl rfl) ?_
  rintro _ _ ⟨b1, rfl, rfl⟩
  refine JO.eff rfl rfl rfl (Eff.alloc (cs := [_]) rfl) ?_
  rintro _ _ ⟨b2, rfl, rfl⟩
  refine JO.nil ?_
  refine J.seq rfl ?_
  refine J.region rfl ?_
  refine JO.pur rfl rfl rfl (Pur.loadA rfl rfl rfl CellsIn.blk) ?_
  refine JO.eff rfl rfl rfl (Eff.call rfl (d_Canon (rs := rs) rfl)) ?_
  rintro _ _ ⟨a7, c7, rfl, rfl⟩
  refine JO.pur rfl rfl rfl (Pur.move rfl) ?_
  refine JO.pur rfl rfl rfl (Pur.extract rfl rfl) ?_
  refine JO.pur rfl rfl rfl (Pur.extract rfl rfl) ?_
  refine JO.eff rfl rfl rfl (Eff.alloc (cs := [_]) rfl) ?_
  rintro _ _ ⟨b3, rfl, rfl⟩
  refine JO.effN rfl rfl (Eff.storeBA (cs' := [_]) rfl rfl (by rfl) (by rfl) (by rfl)) ?_
  rintro _ _ ⟨rfl, rfl⟩
  refine JO.pur rfl rfl rfl (Pur.assign rfl) ?_
  refine JO.nil ?_
  refine J.seq rfl ?_
  refine J.region rfl ?_
  refine JO.pur rfl rfl rfl (Pur.loadA rfl rfl rfl CellsIn.blk) ?_
  refine JO.effN rfl rfl (Eff.storeBA (cs' := [_]) rfl rfl (by rfl) (by rfl) (by rfl)) ?_
  rintro _ _ ⟨rfl, rfl⟩
  refine JO.nil ?_
  refine J.retC rfl (.cell rfl (ld_agg rfl CellsIn.blk) .nil) ?_
  refine ⟨_, _, ⟨a7, c7, rfl, rfl⟩, rfl, SubC.out⟩

theorem sides_ok {L : List Asn} {a : Option Addr} {n cap : Nat} {rs : List Rg} [SlIn rgE L a rs] (hn : n = rs.length) (hcap : rs.length ≤ cap) (h2 : rs.length = 2) :
    CallS Try.prog 92 [.agg #[.slice a n cap]].toArray L (fun v M => v = .tuple #[.int .i64 (ctV (oneR rs 0)), .int .i64 (ctV (oneR rs 1))] ∧ M = L) := by
  subst hn
  refine CallS.ent ?_
  refine CallS.enter Try.func92 rfl rfl rfl rfl rfl ?_
  refine J.seq rfl ?_
  refine J.region rfl ?_
  refine JO.eff rfl rfl rfl (Eff.box (cs := [_]) rfl rfl) ?_
  rintro _ _ ⟨b1, rfl, rfl⟩
  refine JO.pur rfl rfl rfl (Pur.assign rfl) ?_
  refine JO.pur rfl rfl rfl (Pur.assign rfl) ?_
  refine JO.nil ?_
  refine J.seq rfl ?_
  refine J.region rfl ?_
  refine JO.pur rfl rfl rfl (Pur.build (cs := [_, _]) rfl rfl) ?_
  refine JO.eff rfl rfl rfl (Eff.alloc (cs := [_, _]) rfl) ?_
  rintro _ _ ⟨b4, rfl, rfl⟩
  refine JO.effN rfl rfl (Eff.storeBA (cs' := [_, _]) rfl rfl (by rfl) (by rfl) (by rfl)) ?_
  rintro _ _ ⟨rfl, rfl⟩
  refine JO.nil ?_
  refine J.seq rfl ?_
  refine J.seq rfl ?_
  refine J.region rfl ?_
  refine JO.pur rfl rfl rfl (Pur.move rfl) ?_
  refine JO.nil ?_
  refine J.block rfl ?_
  refine J.loopF (ι := Nat) (fun q => q ≤ 2) (fun q => [(7, .int .i64 (q : Int))]) [(1, _), (4, _)] (fun q => blk b4 (.cells (twoL rs q).toArray 61) :: blk b1 (.cells #[.slice a rs.length cap] 24) :: L) (fun q => 2 - q) 0 rfl (.cons rfl rfl (.cons rfl rfl .nil)) (.cons rfl rfl .nil) (by first | exact fun _ h => h | exact SubC.out | (dsimp only; exact SubC.out)) (Nat.zero_le _) ?_
  rintro k hk ihk
  try dsimp only
  refine J.seq rfl ?_
  refine J.region rfl ?_
  refine JO.pur rfl rfl rfl (Pur.lss rfl rfl) ?_
  refine JO.nil ?_
  refine J.seq rfl ?_
  refine J.splitB 8 rfl (fun h8 => ?_) (fun h8 => ?_)
  · try simp only [decide_eq_true_eq, decide_eq_false_iff_not, Bool.not_eq_true', Bool.not_eq_false', Bool.and_eq_true, Bool.or_eq_true, Bool.and_eq_false_iff, Bool.or_eq_false_iff, Option.isNone_some, Option.isSome_some, Option.isNone_none, Option.isSome_none, Int.not_lt, Int.not_le, beq_iff_eq, beq_eq_false_iff_ne, bne_iff_ne, ne_eq, Bool.not_not, Decidable.not_not] at h8
    have hkl : k < 2 := by omega
    refine J.condT rfl rfl ?_
    refine J.skip rfl ?_
    refine J.seq rfl ?_
    refine J.block rfl ?_
    refine J.seq rfl ?_
    refine J.region rfl ?_
    refine JO.pur rfl rfl rfl (Pur.move rfl) ?_
    refine JO.pur rfl rfl rfl (Pur.assign rfl) ?_
    refine JO.nil ?_
    refine J.region rfl ?_
    refine JO.pur rfl rfl rfl (Pur.move rfl) ?_
    refine JO.pur rfl rfl rfl (Pur.fieldAddr rfl) ?_
    refine JO.pur rfl rfl rfl (Pur.load rfl (CellIn.blk rfl)) ?_
    refine JO.pur rfl rfl rfl (Pur.move rfl) ?_
    refine JO.pur rfl rfl rfl (Pur.move rfl) ?_
    refine JO.pur rfl rfl rfl (Pur.add rfl rfl (wr64 (by omega))) ?_
    refine JO.pur rfl rfl rfl (Pur.slice2 rfl rfl rfl rfl (show (k : Int) + 1 = ((k + 1 : Nat) : Int) from rfl) (by omega) (by omega)) ?_
    refine JO.pur rfl rfl rfl (Pur.build (cs := [_]) rfl rfl) ?_
    refine JO.effR rfl rfl rfl (Eff.call rfl (@d_Count _ _ _ _ (oneR rs k) (by rw [← drop_one (rs := rs) (k := k) (by omega)]; exact SlIn.takeN (SlIn.dropN (E := rgE) (cap := cap) inferInstance rfl k (fun e => by omega)) 1) (show k + 1 - k = 1 by omega))) ?_
    refine JO.pur rfl rfl rfl (Pur.move rfl) ?_
    refine JO.pur rfl rfl rfl (Pur.extract rfl rfl) ?_
    refine JO.setv (u' := .int .i64 (ctV (oneR rs k))) 20 rfl rfl ?_
    refine JO.pur rfl rfl rfl (Pur.extract rfl rfl) ?_
    refine JO.pur rfl rfl rfl (Pur.idxA rfl rfl rfl (by omega)) ?_
    refine JO.effN rfl rfl (Eff.storeB rfl rfl rfl (by rw [show 0 + k * 1 = k by omega]; exact setAt_set (by show k < 2; omega))) ?_
    rintro _ _ ⟨rfl, rfl⟩
    refine JO.nil ?_
    refine J.inBlock ?_
    refine J.region rfl ?_
    refine JO.pur rfl rfl rfl (Pur.add rfl rfl (wr64 (by omega))) ?_
    refine JO.pur rfl rfl rfl (Pur.move rfl) ?_
    refine JO.nil ?_
    exact J.weaken (.cons rfl (congrArg (Value.int .i64) (by first | rfl | (dsimp only; omega))) (.cons rfl rfl (.cons rfl rfl .nil))) (fun h s => by rw [← twoL_succ (rs := rs) (by omega : k < 2)]; exact SubC.out h s) (ihk (k + 1) (by omega) (by omega))
  · try simp only [decide_eq_true_eq, decide_eq_false_iff_not, Bool.not_eq_true', Bool.not_eq_false', Bool.and_eq_true, Bool.or_eq_true, Bool.and_eq_false_iff, Bool.or_eq_false_iff, Option.isNone_some, Option.isSome_some, Option.isNone_none, Option.isSome_none, Int.not_lt, Int.not_le, beq_iff_eq, beq_eq_false_iff_ne, bne_iff_ne, ne_eq, Bool.not_not, Decidable.not_not] at h8
    have hke : k = 2 := by omega
    subst hke
    refine J.condF rfl rfl ?_
    refine J.exit rfl rfl ?_
    refine J.seq rfl ?_
    refine J.quiet rfl Try.mixed (by kernel_rfl) ?_
    refine JQ.pur rfl rfl rfl (Pur.idxA (k := 0) rfl rfl rfl (by decide)) ?_
    refine JQ.pur rfl rfl rfl (Pur.load rfl (CellIn.blk rfl)) ?_
    refine JQ.setv (u' := .int .i64 (ctV (oneR rs 0))) 25 rfl rfl ?_
    refine JQ.pur rfl rfl rfl (Pur.idxA (k := 1) rfl rfl rfl (by decide)) ?_
    refine JQ.pur rfl rfl rfl (Pur.load rfl (CellIn.blk rfl)) ?_
    refine JQ.setv (u' := .int .i64 (ctV (oneR rs 1))) 27 rfl rfl ?_
    refine JQ.pur rfl rfl rfl (Pur.assign rfl) ?_
    refine JQ.pur rfl rfl rfl (Pur.assign rfl) ?_
    refine JQ.nil ?_
    refine J.ret rfl rfl ?_
    refine ⟨_, _, ⟨rfl, rfl⟩, rfl, SubC.out⟩

theorem member_ok {L : List Asn} {a : Option Addr} {n cap : Nat} {rs : List Rg} {k : Nat} {z : Int} [SlIn rgE L a rs] (hn : n = rs.length) (hcap : rs.length ≤ cap) (hk : k < rs.length) (hb : rs.length ≤ 1000) :
    CallS Try.prog 105 [.agg #[.slice a n cap], .int .i64 (k : Int), .int .i64 z].toArray L (fun v M => v = .int .i64 (memS rs k z) ∧ M = L) := by
  subst hn
  refine CallS.ent ?_
  refine CallS.enter Try.func105 rfl rfl rfl rfl rfl ?_
  refine J.seq rfl ?_
  refine J.region rfl ?_
  refine JO.eff rfl rfl rfl (Eff.box (cs := [_]) rfl rfl) ?_
  rintro _ _ ⟨b3, rfl, rfl⟩
  refine JO.pur rfl rfl rfl (Pur.assign rfl) ?_
  refine JO.nil ?_
  refine J.seq rfl ?_
  refine J.region rfl ?_
  refine JO.pur rfl rfl rfl (Pur.fieldAddr rfl) ?_
  refine JO.pur rfl rfl rfl (Pur.load rfl (CellIn.blk rfl)) ?_
  refine JO.pur rfl rfl rfl (Pur.move rfl) ?_
  refine JO.pur rfl rfl rfl (Pur.move rfl) ?_
  refine JO.pur rfl rfl rfl (Pur.add rfl rfl (wr64 (by omega))) ?_
  refine JO.pur rfl rfl rfl (Pur.slice2 rfl rfl rfl rfl (show (k : Int) + 1 = ((k + 1 : Nat) : Int) from rfl) (by omega) (by omega)) ?_
  refine JO.pur rfl rfl rfl (Pur.build (cs := [_]) rfl rfl) ?_
  refine JO.pur rfl rfl rfl (Pur.move rfl) ?_
  refine JO.eff rfl rfl rfl (Eff.buildSlice intE [z] rfl rfl rfl rfl rfl rfl rfl) ?_
  rintro _ _ ⟨b18, rfl, -, rfl⟩
  refine JO.effR rfl rfl rfl (Eff.call rfl (@d_Place _ _ _ _ _ _ _ (oneR rs k) [z] (by rw [← drop_one (rs := rs) (k := k) (by omega)]; exact SlIn.takeN (SlIn.dropN (E := rgE) (cap := cap) inferInstance rfl k (fun e => by omega)) 1) inferInstance (show k + 1 - k = 1 by omega) rfl)) ?_
  refine JO.pur rfl rfl rfl (Pur.move rfl) ?_
  refine JO.pur rfl rfl rfl (Pur.extract rfl rfl) ?_
  refine JO.pur rfl rfl rfl (Pur.extract rfl rfl) ?_
  refine JO.pur rfl rfl rfl (Pur.assign rfl) ?_
  refine JO.pur rfl rfl rfl (Pur.assign rfl) ?_
  refine JO.nil ?_
  refine J.seq rfl ?_
  refine J.region rfl ?_
  refine JO.pur rfl rfl rfl (Pur.move rfl) ?_
  refine JO.pur rfl rfl rfl (Pur.assign rfl) ?_
  refine JO.nil ?_
  refine J.ret rfl rfl ?_
  refine ⟨_, _, ⟨rfl, rfl⟩, rfl, SubC.out⟩

end Go.Proofs.Ytnhippfllgnngaa
