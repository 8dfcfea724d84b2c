/-
  A part of the proof of the claim that this folder bears.
-/
import Derived.Test.YtnhippfllgnngaaPAF
import Derived.Test.YtnhippfllgnngaaPAG
/- The text SM2. -/
set_option linter.unusedVariables false
set_option linter.unusedSimpArgs false
set_option maxRecDepth 10000
namespace Go.Proofs.Ytnhippfllgnngaa
open Go Go.KK Dm

theorem merge_ok (N : Nat) {L : List Asn} {ad : Option Addr} {n cap : Nat} {P U V S es : List (Int × Hdr)} {a m b : Int} (hx : es = P ++ U ++ V ++ S) (hn : n = es.length) (ha : a = (P.length : Int)) (hm0 : m = ((P.length + U.length : Nat) : Int)) (hb : b = ((P.length + U.length + V.length : Nat) : Int)) (hU : 0 < U.length) (hV0 : 0 < V.length) (hUs : srtd enK U) (hV : srtd enK V) (hes : es.length ≤ 1000000) (hN : U.length + V.length ≤ N) :
    CallS Try.prog 201 [.slice ad n cap, .int .i64 a, .int .i64 m, .int .i64 b, (.func (.func 160) #[] #[])].toArray (sl enE ad cap (es) :: L) (fun v M => ∃ W, v = .tuple #[] ∧ W.Perm (U ++ V) ∧ srtd enK W ∧ M = sl enE ad cap (P ++ W ++ S) :: L) := by
  induction N generalizing P U V S es a m b
  · exfalso; omega
  rename_i N ih
  subst ha
  subst hm0
  subst hb
  subst hn
  subst hx
  have hlen : (P ++ U ++ V ++ S).length = P.length + U.length + V.length + S.length := by simp only [List.length_append]
  refine CallS.ent ?_
  refine CallS.enter Try.func201 rfl rfl rfl rfl rfl ?_
  refine J.seq rfl ?_
  refine J.seq rfl ?_
  refine J.region rfl ?_
  refine JO.pur rfl rfl rfl (Pur.move rfl) ?_
  refine JO.pur rfl rfl rfl (Pur.move rfl) ?_
  refine JO.pur rfl rfl rfl (Pur.sub rfl rfl (wr64 (by omega))) ?_
  refine JO.pur rfl rfl rfl (Pur.eqlI rfl rfl) ?_
  refine JO.nil ?_
  refine J.splitB 28 rfl (fun h28 => ?_) (fun h28 => ?_)
  · try simp only [decide_eq_true_eq, decide_eq_false_iff_not, Bool.not_eq_true', Bool.not_eq_false', Bool.and_eq_true, Bool.or_eq_true, Bool.and_eq_false_iff, Bool.or_eq_false_iff, Option.isNone_some, Option.isSome_some, Option.isNone_none, Option.isSome_none, Int.not_lt, Int.not_le, beq_iff_eq, beq_eq_false_iff_ne, bne_iff_ne, ne_eq, Bool.not_not, Decidable.not_not] at h28
    obtain ⟨x, hxU⟩ : ∃ x, U = [x] := by
      match U, hU, h28 with
      | [x], _, _ => exact ⟨x, rfl⟩
      | x :: y :: l, _, h => exfalso; simp only [List.length_cons] at h; omega
    subst hxU
    rw [List.length_singleton] at *
    have hgx : (P ++ [x] ++ V ++ S)[P.length]? = some x := by rw [show P ++ [x] ++ V ++ S = P ++ x :: (V ++ S) by simp]; exact get_mid _ _ _ rfl
    have hPx : (P ++ [x]).length = P.length + 1 := by simp
    refine J.condT rfl rfl ?_
    refine J.seq rfl ?_
    refine J.region rfl ?_
    refine JO.pur rfl rfl rfl (Pur.move rfl) ?_
    refine JO.pur rfl rfl rfl (Pur.assign rfl) ?_
    refine JO.nil ?_
    refine J.seq rfl ?_
    refine J.region rfl ?_
    refine JO.pur rfl rfl rfl (Pur.move rfl) ?_
    refine JO.pur rfl rfl rfl (Pur.assign rfl) ?_
    refine JO.nil ?_
    refine J.seq rfl ?_
    refine J.block rfl ?_
    refine J.loopF (ι := Nat × Nat) (fun q => P.length + 1 ≤ q.1 ∧ q.1 ≤ q.2 ∧ q.2 ≤ P.length + 1 + V.length ∧ (q.1 = P.length + 1 ∨ (P.length + 1 < q.1 ∧ kA enK (P ++ [x] ++ V ++ S) (q.1 - 1) ≤ enK x)) ∧ (q.2 = P.length + 1 + V.length ∨ (q.2 < P.length + 1 + V.length ∧ enK x ≤ kA enK (P ++ [x] ++ V ++ S) q.2))) (fun q => [(10, .int .i64 (q.1 : Int)), (11, .int .i64 (q.2 : Int))]) [(0, _), (1, _), (4, _)] (fun q => sl enE ad cap (P ++ [x] ++ V ++ S) :: L) (fun q => q.2 - q.1) (P.length + 1, P.length + 1 + V.length) rfl (.cons rfl rfl (.cons rfl rfl (.cons rfl rfl .nil))) (.cons rfl (congrArg (Value.int .i64) (by first | rfl | (dsimp only; omega))) (.cons rfl (congrArg (Value.int .i64) (by first | rfl | (dsimp only; omega))) .nil)) (by first | exact fun _ h => h | exact SubC.out | (dsimp only; exact SubC.out)) ⟨Nat.le_refl _, by dsimp only; omega, Nat.le_refl _, .inl rfl, .inl rfl⟩ ?_
    rintro ⟨i, j⟩ ⟨hi1, hij, hj1, hlo, hhi⟩ ih0
    try dsimp only
    dsimp only at hi1 hij hj1 hlo hhi
    refine J.seq rfl ?_
    refine J.seq rfl ?_
    refine J.region rfl ?_
    refine JO.pur rfl rfl rfl (Pur.move rfl) ?_
    refine JO.pur rfl rfl rfl (Pur.move rfl) ?_
    refine JO.pur rfl rfl rfl (Pur.lss rfl rfl) ?_
    refine JO.nil ?_
    refine J.splitB 33 rfl (fun h33 => ?_) (fun h33 => ?_)
    · try simp only [decide_eq_true_eq, decide_eq_false_iff_not, Bool.not_eq_true', Bool.not_eq_false', Bool.and_eq_true, Bool.or_eq_true, Bool.and_eq_false_iff, Bool.or_eq_false_iff, Option.isNone_some, Option.isSome_some, Option.isNone_none, Option.isSome_none, Int.not_lt, Int.not_le, beq_iff_eq, beq_eq_false_iff_ne, bne_iff_ne, ne_eq, Bool.not_not, Decidable.not_not] at h33
      obtain ⟨m, hm⟩ : ∃ m, m = (i + j) / 2 := ⟨_, rfl⟩
      have hm1 : i ≤ m ∧ m < j := by omega
      obtain ⟨y, hgy⟩ : ∃ y, (P ++ [x] ++ V ++ S)[m]? = some y := ⟨_, List.getElem?_eq_getElem (by omega)⟩
      refine J.condT rfl rfl ?_
      refine J.skip rfl ?_
      refine J.block rfl ?_
      refine J.seq rfl ?_
      refine J.region rfl ?_
      refine JO.pur rfl rfl rfl (Pur.move rfl) ?_
      refine JO.pur rfl rfl rfl (Pur.move rfl) ?_
      refine JO.pur rfl rfl rfl (Pur.add rfl rfl (wr64 (by omega))) ?_
      refine JO.pur rfl rfl rfl (Pur.convI rfl (wrU64 (by omega))) ?_
      refine JO.pur rfl rfl rfl (Pur.shrU1 rfl rfl (show (i : Int) + ((j : Nat) : Int) = ((i + j : Nat) : Int) by omega)) ?_
      refine JO.pur rfl rfl rfl (Pur.convI rfl (wr64 (by omega))) ?_
      refine JO.setv (u' := .int .i64 (m : Int)) 39 rfl (by rw [hm]) ?_
      refine JO.pur rfl rfl rfl (Pur.assign rfl) ?_
      refine JO.nil ?_
      refine J.seq rfl ?_
      refine J.mask0 (n := 11) [] rfl Try.mixed rfl (by kernel_rfl) ?_
      refine JM.take 0 (fun _ h => h) rfl (by kernel_rfl) rfl rfl rfl (m' := 1) rfl (Pur.move rfl) ?_
      refine JM.take 1 (fun _ h => h) rfl (by kernel_rfl) rfl rfl rfl (m' := 3) rfl (Pur.move rfl) ?_
      refine JM.take 2 (fun _ h => h) rfl (by kernel_rfl) rfl rfl rfl (m' := 7) rfl (Pur.move rfl) ?_
      refine JM.take 3 (fun _ h => h) rfl (by kernel_rfl) rfl rfl rfl (m' := 15) rfl (Pur.idx rfl rfl rfl (by first | rfl | (simp; done) | omega | (rw [List.length_set]; omega)) rfl (by omega)) ?_
      refine JM.take 4 (fun _ h => h) rfl (by kernel_rfl) rfl rfl rfl (m' := 31) rfl (Pur.loadA rfl rfl rfl (CellsIn.el rfl hgy)) ?_
      refine JM.setv (u' := enV y) 44 rfl rfl ?_
      refine JM.take 5 (fun _ h => h) rfl (by kernel_rfl) rfl rfl rfl (m' := 63) rfl (Pur.move rfl) ?_
      refine JM.take 6 (fun _ h => h) rfl (by kernel_rfl) rfl rfl rfl (m' := 127) rfl (Pur.move rfl) ?_
      refine JM.take 7 (fun _ h => h) rfl (by kernel_rfl) rfl rfl rfl (m' := 255) rfl (Pur.idx rfl rfl rfl (by first | rfl | (simp; done) | omega | (rw [List.length_set]; omega)) rfl (by omega)) ?_
      refine JM.take 8 (fun _ h => h) rfl (by kernel_rfl) rfl rfl rfl (m' := 511) rfl (Pur.loadA rfl rfl rfl (CellsIn.el rfl hgx)) ?_
      refine JM.setv (u' := enV x) 48 rfl rfl ?_
      refine JM.one (i := 9) (by kernel_rfl) ?_
      refine JMi.effR (fun _ h => h) rfl rfl rfl rfl (m' := 1023) rfl (Eff.callV rfl rfl (ent_cl (x := y) (y := x))) ?_
      refine JM.take 10 (fun _ h => h) rfl (by kernel_rfl) rfl rfl rfl (m' := 2047) rfl (Pur.lss rfl rfl) ?_
      refine JM.done rfl ?_
      refine J.splitB 50 rfl (fun h50 => ?_) (fun h50 => ?_)
      · try simp only [decide_eq_true_eq, decide_eq_false_iff_not, Bool.not_eq_true', Bool.not_eq_false', Bool.and_eq_true, Bool.or_eq_true, Bool.and_eq_false_iff, Bool.or_eq_false_iff, Option.isNone_some, Option.isSome_some, Option.isNone_none, Option.isSome_none, Int.not_lt, Int.not_le, beq_iff_eq, beq_eq_false_iff_ne, bne_iff_ne, ne_eq, Bool.not_not, Decidable.not_not] at h50
        refine J.condT rfl rfl ?_
        refine J.region rfl ?_
        refine JO.pur rfl rfl rfl (Pur.move rfl) ?_
        refine JO.pur rfl rfl rfl (Pur.add rfl rfl (wr64 (by omega))) ?_
        refine JO.pur rfl rfl rfl (Pur.assign rfl) ?_
        refine JO.nil ?_
        refine J.inBlock ?_
        exact J.weaken (.cons rfl (congrArg (Value.int .i64) (by first | rfl | (dsimp only; omega))) (.cons rfl (congrArg (Value.int .i64) (by first | rfl | (dsimp only; omega))) (.cons rfl rfl (.cons rfl rfl (.cons rfl rfl .nil))))) (by first | exact fun _ h => h | exact SubC.out | (dsimp only; exact SubC.out)) (ih0 (m + 1, j) ⟨by dsimp only; omega, by dsimp only; omega, hj1, .inr ⟨by dsimp only; omega, by dsimp only; rw [Nat.add_sub_cancel, kA_of hgy]; exact Int.le_of_lt (cmpZ_lt.1 h50)⟩, hhi⟩ (by dsimp only; omega))
      · try simp only [decide_eq_true_eq, decide_eq_false_iff_not, Bool.not_eq_true', Bool.not_eq_false', Bool.and_eq_true, Bool.or_eq_true, Bool.and_eq_false_iff, Bool.or_eq_false_iff, Option.isNone_some, Option.isSome_some, Option.isNone_none, Option.isSome_none, Int.not_lt, Int.not_le, beq_iff_eq, beq_eq_false_iff_ne, bne_iff_ne, ne_eq, Bool.not_not, Decidable.not_not] at h50
        refine J.condF rfl rfl ?_
        refine J.region rfl ?_
        refine JO.pur rfl rfl rfl (Pur.move rfl) ?_
        refine JO.pur rfl rfl rfl (Pur.assign rfl) ?_
        refine JO.nil ?_
        refine J.inBlock ?_
        exact J.weaken (.cons rfl (congrArg (Value.int .i64) (by first | rfl | (dsimp only; omega))) (.cons rfl (congrArg (Value.int .i64) (by first | rfl | (dsimp only; omega))) (.cons rfl rfl (.cons rfl rfl (.cons rfl rfl .nil))))) (by first | exact fun _ h => h | exact SubC.out | (dsimp only; exact SubC.out)) (ih0 (i, m) ⟨hi1, by dsimp only; omega, by dsimp only; omega, hlo, .inr ⟨by dsimp only; omega, by dsimp only; rw [kA_of hgy]; exact Int.not_lt.1 fun g => by have := cmpZ_lt.2 g; omega⟩⟩ (by dsimp only; omega))
    · try simp only [decide_eq_true_eq, decide_eq_false_iff_not, Bool.not_eq_true', Bool.not_eq_false', Bool.and_eq_true, Bool.or_eq_true, Bool.and_eq_false_iff, Bool.or_eq_false_iff, Option.isNone_some, Option.isSome_some, Option.isNone_none, Option.isSome_none, Int.not_lt, Int.not_le, beq_iff_eq, beq_eq_false_iff_ne, bne_iff_ne, ne_eq, Bool.not_not, Decidable.not_not] at h33
      have hije : i = j := by omega
      subst hije
      obtain ⟨V1, V2, hsp, hl1, hle1, hge2⟩ := one_split (ky := enK) (P := P ++ [x]) (V := V) (S := S) (i := i) (z := enK x) hV (by omega) (by omega) (by rw [hPx]; exact hlo) (by rw [hPx]; exact hhi)
      rw [hPx] at hl1
      have hvl : V.length = V1.length + V2.length := by rw [hsp, List.length_append]
      refine J.condF rfl rfl ?_
      refine J.exit rfl rfl ?_
      refine J.seq rfl ?_
      refine J.seq rfl ?_
      refine J.region rfl ?_
      refine JO.pur rfl rfl rfl (Pur.move rfl) ?_
      refine JO.pur rfl rfl rfl (Pur.assign rfl) ?_
      refine JO.nil ?_
      refine J.block rfl ?_
      refine J.loopF (ι := Nat) (fun q => q ≤ V1.length) (fun q => [(13, .int .i64 ((P.length + q : Nat) : Int))]) [(0, _), (10, _)] (fun q => sl enE ad cap (P ++ V1.take q ++ x :: (V1.drop q ++ V2 ++ S)) :: L) (fun q => V1.length - q) 0 rfl (.cons rfl rfl (.cons rfl rfl .nil)) (.cons rfl (congrArg (Value.int .i64) (by first | rfl | (dsimp only; omega))) .nil) (fun h s => by rw [hsp] at s; have e : P ++ [x] ++ (V1 ++ V2) ++ S = P ++ V1.take 0 ++ x :: (V1.drop 0 ++ V2 ++ S) := (by simp); rw [e] at s; exact SubC.out h s) (Nat.zero_le _) ?_
      rintro q hq ihq
      try dsimp only
      have hsl : (P ++ V1.take q ++ x :: (V1.drop q ++ V2 ++ S)).length = (P ++ [x] ++ V ++ S).length := by simp only [List.length_append, List.length_cons, List.length_take, List.length_drop, List.length_nil]; omega
      refine J.seq rfl ?_
      refine J.seq rfl ?_
      refine J.region rfl ?_
      refine JO.pur rfl rfl rfl (Pur.move rfl) ?_
      refine JO.pur rfl rfl rfl (Pur.move rfl) ?_
      refine JO.pur rfl rfl rfl (Pur.sub rfl rfl (wr64 (by omega))) ?_
      refine JO.pur rfl rfl rfl (Pur.lss rfl rfl) ?_
      refine JO.nil ?_
      refine J.splitB 58 rfl (fun h58 => ?_) (fun h58 => ?_)
      · try simp only [decide_eq_true_eq, decide_eq_false_iff_not, Bool.not_eq_true', Bool.not_eq_false', Bool.and_eq_true, Bool.or_eq_true, Bool.and_eq_false_iff, Bool.or_eq_false_iff, Option.isNone_some, Option.isSome_some, Option.isNone_none, Option.isSome_none, Int.not_lt, Int.not_le, beq_iff_eq, beq_eq_false_iff_ne, bne_iff_ne, ne_eq, Bool.not_not, Decidable.not_not] at h58
        have hql : q < V1.length := by omega
        obtain ⟨B1, w, B2, hB, hB1⟩ := split_at hql
        have e1 : V1.take q = B1 := by rw [hB]; exact List.take_left' hB1
        have e2 : V1.drop q = w :: B2 := by rw [hB]; exact List.drop_left' hB1
        have e3 : V1.take (q + 1) = B1 ++ [w] := by rw [hB]; exact take_left1 hB1
        have e4 : V1.drop (q + 1) = B2 := by rw [hB]; exact drop_left1 hB1
        have e5 : P ++ V1.take q ++ x :: (V1.drop q ++ V2 ++ S) = (P ++ B1) ++ x :: w :: (B2 ++ V2 ++ S) := by rw [e1, e2]; simp
        have hg1 : (P ++ V1.take q ++ x :: (V1.drop q ++ V2 ++ S))[P.length + q]? = some x := by rw [e5]; exact get_mid _ _ _ (by rw [List.length_append]; omega)
        have hg2 : (P ++ V1.take q ++ x :: (V1.drop q ++ V2 ++ S))[P.length + q + 1]? = some w := by rw [e5, show (P ++ B1) ++ x :: w :: (B2 ++ V2 ++ S) = ((P ++ B1) ++ [x]) ++ w :: (B2 ++ V2 ++ S) by simp]; exact get_mid _ _ _ (by simp only [List.length_append, List.length_singleton]; omega)
        have hst : ((P ++ V1.take q ++ x :: (V1.drop q ++ V2 ++ S)).set (P.length + q) w).set (P.length + q + 1) x = P ++ V1.take (q + 1) ++ x :: (V1.drop (q + 1) ++ V2 ++ S) := by rw [e5, e3, e4, set_adj1 (by rw [List.length_append]; omega) (by rw [List.length_append]; omega)]; simp
        refine J.condT rfl rfl ?_
        refine J.skip rfl ?_
        refine J.seq rfl ?_
        refine J.block rfl ?_
        refine J.mask0 (n := 18) [15, 17] rfl Try.mixed rfl (by kernel_rfl) ?_
        refine JM.take 0 (fun _ h => h) rfl (by kernel_rfl) rfl rfl rfl (m' := 1) rfl (Pur.move rfl) ?_
        refine JM.take 1 (fun _ h => h) rfl (by kernel_rfl) rfl rfl rfl (m' := 3) rfl (Pur.move rfl) ?_
        refine JM.takeF 2 (.inr (fun _ h => h)) rfl (by kernel_rfl) rfl rfl rfl (m' := 7) rfl (Pur.move rfl) ?_
        refine JM.takeF 3 (.inr (fun _ h => h)) rfl (by kernel_rfl) rfl rfl rfl (m' := 15) rfl (Pur.move rfl) ?_
        refine JM.takeF 4 (.inr (fun _ h => h)) rfl (by kernel_rfl) rfl rfl rfl (m' := 31) rfl (Pur.add rfl rfl (wr64 (by omega))) ?_
        refine JM.take 5 (fun _ h => h) rfl (by kernel_rfl) rfl rfl rfl (m' := 63) rfl (Pur.move rfl) ?_
        refine JM.take 6 (fun _ h => h) rfl (by kernel_rfl) rfl rfl rfl (m' := 127) rfl (Pur.move rfl) ?_
        refine JM.take 7 (fun _ h => h) rfl (by kernel_rfl) rfl rfl rfl (m' := 255) rfl (Pur.add rfl rfl (wr64 (by omega))) ?_
        refine JM.take 8 (fun _ h => h) rfl (by kernel_rfl) rfl rfl rfl (m' := 511) rfl (Pur.idx rfl rfl rfl (by first | rfl | (simp; done) | omega | (rw [List.length_set]; omega)) (show ((P.length + q : Nat) : Int) + 1 = ((P.length + q + 1 : Nat) : Int) from rfl) (by omega)) ?_
        refine JM.take 9 (fun _ h => h) rfl (by kernel_rfl) rfl rfl rfl (m' := 1023) rfl (Pur.loadA rfl rfl rfl (CellsIn.el rfl hg2)) ?_
        refine JM.setv (u' := enV w) 70 rfl rfl ?_
        refine JM.take 10 (fun _ h => h) rfl (by kernel_rfl) rfl rfl rfl (m' := 2047) rfl (Pur.move rfl) ?_
        refine JM.take 11 (fun _ h => h) rfl (by kernel_rfl) rfl rfl rfl (m' := 4095) rfl (Pur.move rfl) ?_
        refine JM.take 12 (fun _ h => h) rfl (by kernel_rfl) rfl rfl rfl (m' := 8191) rfl (Pur.idx rfl rfl rfl (by first | rfl | (simp; done) | omega | (rw [List.length_set]; omega)) rfl (by omega)) ?_
        refine JM.take 13 (fun _ h => h) rfl (by kernel_rfl) rfl rfl rfl (m' := 16383) rfl (Pur.loadA rfl rfl rfl (CellsIn.el rfl hg1)) ?_
        refine JM.setv (u' := enV x) 74 rfl rfl ?_
        refine JM.take 14 (fun _ h => h) rfl (by kernel_rfl) rfl rfl rfl (m' := 32767) rfl (Pur.idx rfl rfl rfl (by first | rfl | (simp; done) | omega | (rw [List.length_set]; omega)) rfl (by omega)) ?_
        refine JM.one (i := 15) (by kernel_rfl) ?_
        refine JMi.effN rfl rfl rfl (m' := 65535) rfl (Eff.storeSA (z' := w) rfl rfl rfl rfl (by omega) rfl) ?_
        rintro _ _ ⟨rfl, rfl⟩
        refine ⟨.inl (by simp), ?_⟩
        refine JM.one (i := 16) (by kernel_rfl) ?_
        refine JMi.eff rfl rfl rfl rfl (m' := 131071) rfl (Pur.eff (Pur.idx rfl rfl rfl (by first | rfl | (simp; done) | omega | (rw [List.length_set]; omega)) (show ((P.length + q : Nat) : Int) + 1 = ((P.length + q + 1 : Nat) : Int) from rfl) (by first | omega | (rw [List.length_set]; omega)))) ?_
        rintro _ _ ⟨rfl, rfl⟩
        refine ⟨.inl (.inr (by kernel_rfl)), ?_⟩
        refine JM.one (i := 17) (by kernel_rfl) ?_
        refine JMi.effN rfl rfl rfl (m' := 262143) rfl (Eff.storeSA (z' := x) rfl rfl rfl rfl (by first | omega | (rw [List.length_set]; omega)) rfl) ?_
        rintro _ _ ⟨rfl, rfl⟩
        refine ⟨.inl (by simp), ?_⟩
        refine JM.done rfl ?_
        refine J.inBlock ?_
        refine J.region rfl ?_
        refine JO.pur rfl rfl rfl (Pur.move rfl) ?_
        refine JO.pur rfl rfl rfl (Pur.add rfl rfl (wr64 (by omega))) ?_
        refine JO.pur rfl rfl rfl (Pur.assign rfl) ?_
        refine JO.nil ?_
        exact J.weaken (.cons rfl (congrArg (Value.int .i64) (by first | rfl | (dsimp only; omega))) (.cons rfl rfl (.cons rfl rfl .nil))) (fun h s => by rw [hst] at s; exact SubC.out h s) (ihq (q + 1) (by omega) (by omega))
      · try simp only [decide_eq_true_eq, decide_eq_false_iff_not, Bool.not_eq_true', Bool.not_eq_false', Bool.and_eq_true, Bool.or_eq_true, Bool.and_eq_false_iff, Bool.or_eq_false_iff, Option.isNone_some, Option.isSome_some, Option.isNone_none, Option.isSome_none, Int.not_lt, Int.not_le, beq_iff_eq, beq_eq_false_iff_ne, bne_iff_ne, ne_eq, Bool.not_not, Decidable.not_not] at h58
        have hqe : q = V1.length := by omega
        refine J.condF rfl rfl ?_
        refine J.exit rfl rfl ?_
        refine J.ret rfl rfl ?_
        refine ⟨_, _, ⟨V1 ++ x :: V2, rfl, by rw [hsp]; exact List.perm_middle, srtd_ins (by rw [← hsp]; exact hV) hle1 hge2, rfl⟩, rfl, fun h s => ?_⟩
        rw [hqe, List.take_length, List.drop_length] at s
        have e : P ++ V1 ++ x :: ([] ++ V2 ++ S) = P ++ (V1 ++ x :: V2) ++ S := by simp
        rw [e] at s
        exact SubC.out h s
  · try simp only [decide_eq_true_eq, decide_eq_false_iff_not, Bool.not_eq_true', Bool.not_eq_false', Bool.and_eq_true, Bool.or_eq_true, Bool.and_eq_false_iff, Bool.or_eq_false_iff, Option.isNone_some, Option.isSome_some, Option.isNone_none, Option.isSome_none, Int.not_lt, Int.not_le, beq_iff_eq, beq_eq_false_iff_ne, bne_iff_ne, ne_eq, Bool.not_not, Decidable.not_not] at h28
    refine J.condF rfl rfl ?_
    refine J.skip rfl ?_
    refine J.seq rfl ?_
    refine J.seq rfl ?_
    refine J.region rfl ?_
    refine JO.pur rfl rfl rfl (Pur.move rfl) ?_
    refine JO.pur rfl rfl rfl (Pur.move rfl) ?_
    refine JO.pur rfl rfl rfl (Pur.sub rfl rfl (wr64 (by omega))) ?_
    refine JO.pur rfl rfl rfl (Pur.eqlI rfl rfl) ?_
    refine JO.nil ?_
    refine J.splitB 80 rfl (fun h80 => ?_) (fun h80 => ?_)
    · try simp only [decide_eq_true_eq, decide_eq_false_iff_not, Bool.not_eq_true', Bool.not_eq_false', Bool.and_eq_true, Bool.or_eq_true, Bool.and_eq_false_iff, Bool.or_eq_false_iff, Option.isNone_some, Option.isSome_some, Option.isNone_none, Option.isSome_none, Int.not_lt, Int.not_le, beq_iff_eq, beq_eq_false_iff_ne, bne_iff_ne, ne_eq, Bool.not_not, Decidable.not_not] at h80
      obtain ⟨y, hyV⟩ : ∃ y, V = [y] := by
        match V, hV0, h80 with
        | [y], _, _ => exact ⟨y, rfl⟩
        | x :: y :: l, _, h => exfalso; simp only [List.length_cons] at h; omega
      subst hyV
      rw [List.length_singleton] at *
      have hgy : (P ++ U ++ [y] ++ S)[P.length + U.length]? = some y := by rw [show P ++ U ++ [y] ++ S = (P ++ U) ++ y :: S by simp]; exact get_mid _ _ _ (by rw [List.length_append])
      have eUS : P ++ U ++ [y] ++ S = P ++ U ++ ([y] ++ S) := by simp
      refine J.condT rfl rfl ?_
      refine J.seq rfl ?_
      refine J.region rfl ?_
      refine JO.pur rfl rfl rfl (Pur.move rfl) ?_
      refine JO.pur rfl rfl rfl (Pur.assign rfl) ?_
      refine JO.nil ?_
      refine J.seq rfl ?_
      refine J.region rfl ?_
      refine JO.pur rfl rfl rfl (Pur.move rfl) ?_
      refine JO.pur rfl rfl rfl (Pur.assign rfl) ?_
      refine JO.nil ?_
      refine J.seq rfl ?_
      refine J.block rfl ?_
      refine J.loopF (ι := Nat × Nat) (fun q => P.length ≤ q.1 ∧ q.1 ≤ q.2 ∧ q.2 ≤ P.length + U.length ∧ (q.1 = P.length ∨ (P.length < q.1 ∧ kA enK (P ++ U ++ [y] ++ S) (q.1 - 1) ≤ enK y)) ∧ (q.2 = P.length + U.length ∨ (q.2 < P.length + U.length ∧ enK y ≤ kA enK (P ++ U ++ [y] ++ S) q.2))) (fun q => [(14, .int .i64 (q.1 : Int)), (15, .int .i64 (q.2 : Int))]) [(0, _), (2, _), (4, _)] (fun q => sl enE ad cap (P ++ U ++ [y] ++ S) :: L) (fun q => q.2 - q.1) (P.length, P.length + U.length) rfl (.cons rfl rfl (.cons rfl rfl (.cons rfl rfl .nil))) (.cons rfl (congrArg (Value.int .i64) (by first | rfl | (dsimp only; omega))) (.cons rfl (congrArg (Value.int .i64) (by first | rfl | (dsimp only; omega))) .nil)) (by first | exact fun _ h => h | exact SubC.out | (dsimp only; exact SubC.out)) ⟨Nat.le_refl _, by dsimp only; omega, Nat.le_refl _, .inl rfl, .inl rfl⟩ ?_
      rintro ⟨i, j⟩ ⟨hi1, hij, hj1, hlo, hhi⟩ ih2
      try dsimp only
      dsimp only at hi1 hij hj1 hlo hhi
      refine J.seq rfl ?_
      refine J.seq rfl ?_
      refine J.region rfl ?_
      refine JO.pur rfl rfl rfl (Pur.move rfl) ?_
      refine JO.pur rfl rfl rfl (Pur.move rfl) ?_
      refine JO.pur rfl rfl rfl (Pur.lss rfl rfl) ?_
      refine JO.nil ?_
      refine J.splitB 85 rfl (fun h85 => ?_) (fun h85 => ?_)
      · try simp only [decide_eq_true_eq, decide_eq_false_iff_not, Bool.not_eq_true', Bool.not_eq_false', Bool.and_eq_true, Bool.or_eq_true, Bool.and_eq_false_iff, Bool.or_eq_false_iff, Option.isNone_some, Option.isSome_some, Option.isNone_none, Option.isSome_none, Int.not_lt, Int.not_le, beq_iff_eq, beq_eq_false_iff_ne, bne_iff_ne, ne_eq, Bool.not_not, Decidable.not_not] at h85
        obtain ⟨m, hm⟩ : ∃ m, m = (i + j) / 2 := ⟨_, rfl⟩
        have hm1 : i ≤ m ∧ m < j := by omega
        obtain ⟨x, hgx⟩ : ∃ x, (P ++ U ++ [y] ++ S)[m]? = some x := ⟨_, List.getElem?_eq_getElem (by omega)⟩
        refine J.condT rfl rfl ?_
        refine J.skip rfl ?_
        refine J.block rfl ?_
        refine J.seq rfl ?_
        refine J.region rfl ?_
        refine JO.pur rfl rfl rfl (Pur.move rfl) ?_
        refine JO.pur rfl rfl rfl (Pur.move rfl) ?_
        refine JO.pur rfl rfl rfl (Pur.add rfl rfl (wr64 (by omega))) ?_
        refine JO.pur rfl rfl rfl (Pur.convI rfl (wrU64 (by omega))) ?_
        refine JO.pur rfl rfl rfl (Pur.shrU1 rfl rfl (show (i : Int) + ((j : Nat) : Int) = ((i + j : Nat) : Int) by omega)) ?_
        refine JO.pur rfl rfl rfl (Pur.convI rfl (wr64 (by omega))) ?_
        refine JO.setv (u' := .int .i64 (m : Int)) 91 rfl (by rw [hm]) ?_
        refine JO.pur rfl rfl rfl (Pur.assign rfl) ?_
        refine JO.nil ?_
        refine J.seq rfl ?_
        refine J.mask0 (n := 12) [] rfl Try.mixed rfl (by kernel_rfl) ?_
        refine JM.take 0 (fun _ h => h) rfl (by kernel_rfl) rfl rfl rfl (m' := 1) rfl (Pur.move rfl) ?_
        refine JM.take 1 (fun _ h => h) rfl (by kernel_rfl) rfl rfl rfl (m' := 3) rfl (Pur.move rfl) ?_
        refine JM.take 2 (fun _ h => h) rfl (by kernel_rfl) rfl rfl rfl (m' := 7) rfl (Pur.move rfl) ?_
        refine JM.take 3 (fun _ h => h) rfl (by kernel_rfl) rfl rfl rfl (m' := 15) rfl (Pur.idx rfl rfl rfl (by first | rfl | (simp; done) | omega | (rw [List.length_set]; omega)) rfl (by omega)) ?_
        refine JM.take 4 (fun _ h => h) rfl (by kernel_rfl) rfl rfl rfl (m' := 31) rfl (Pur.loadA rfl rfl rfl (CellsIn.el rfl hgy)) ?_
        refine JM.setv (u' := enV y) 96 rfl rfl ?_
        refine JM.take 5 (fun _ h => h) rfl (by kernel_rfl) rfl rfl rfl (m' := 63) rfl (Pur.move rfl) ?_
        refine JM.take 6 (fun _ h => h) rfl (by kernel_rfl) rfl rfl rfl (m' := 127) rfl (Pur.move rfl) ?_
        refine JM.take 7 (fun _ h => h) rfl (by kernel_rfl) rfl rfl rfl (m' := 255) rfl (Pur.idx rfl rfl rfl (by first | rfl | (simp; done) | omega | (rw [List.length_set]; omega)) rfl (by omega)) ?_
        refine JM.take 8 (fun _ h => h) rfl (by kernel_rfl) rfl rfl rfl (m' := 511) rfl (Pur.loadA rfl rfl rfl (CellsIn.el rfl hgx)) ?_
        refine JM.setv (u' := enV x) 100 rfl rfl ?_
        refine JM.one (i := 9) (by kernel_rfl) ?_
        refine JMi.effR (fun _ h => h) rfl rfl rfl rfl (m' := 1023) rfl (Eff.callV rfl rfl (ent_cl (x := y) (y := x))) ?_
        refine JM.take 10 (fun _ h => h) rfl (by kernel_rfl) rfl rfl rfl (m' := 2047) rfl (Pur.lss rfl rfl) ?_
        refine JM.take 11 (fun _ h => h) rfl (by kernel_rfl) rfl rfl rfl (m' := 4095) rfl (Pur.not rfl) ?_
        refine JM.done rfl ?_
        refine J.splitB 103 rfl (fun h103 => ?_) (fun h103 => ?_)
        · try simp only [decide_eq_true_eq, decide_eq_false_iff_not, Bool.not_eq_true', Bool.not_eq_false', Bool.and_eq_true, Bool.or_eq_true, Bool.and_eq_false_iff, Bool.or_eq_false_iff, Option.isNone_some, Option.isSome_some, Option.isNone_none, Option.isSome_none, Int.not_lt, Int.not_le, beq_iff_eq, beq_eq_false_iff_ne, bne_iff_ne, ne_eq, Bool.not_not, Decidable.not_not] at h103
          refine J.condT rfl rfl ?_
          refine J.region rfl ?_
          refine JO.pur rfl rfl rfl (Pur.move rfl) ?_
          refine JO.pur rfl rfl rfl (Pur.add rfl rfl (wr64 (by omega))) ?_
          refine JO.pur rfl rfl rfl (Pur.assign rfl) ?_
          refine JO.nil ?_
          refine J.inBlock ?_
          exact J.weaken (.cons rfl (congrArg (Value.int .i64) (by first | rfl | (dsimp only; omega))) (.cons rfl (congrArg (Value.int .i64) (by first | rfl | (dsimp only; omega))) (.cons rfl rfl (.cons rfl rfl (.cons rfl rfl .nil))))) (by first | exact fun _ h => h | exact SubC.out | (dsimp only; exact SubC.out)) (ih2 (m + 1, j) ⟨by dsimp only; omega, by dsimp only; omega, hj1, .inr ⟨by dsimp only; omega, by dsimp only; rw [Nat.add_sub_cancel, kA_of hgx]; exact Int.not_lt.1 fun g => by have := cmpZ_lt.2 g; omega⟩, hhi⟩ (by dsimp only; omega))
        · try simp only [decide_eq_true_eq, decide_eq_false_iff_not, Bool.not_eq_true', Bool.not_eq_false', Bool.and_eq_true, Bool.or_eq_true, Bool.and_eq_false_iff, Bool.or_eq_false_iff, Option.isNone_some, Option.isSome_some, Option.isNone_none, Option.isSome_none, Int.not_lt, Int.not_le, beq_iff_eq, beq_eq_false_iff_ne, bne_iff_ne, ne_eq, Bool.not_not, Decidable.not_not] at h103
          refine J.condF rfl rfl ?_
          refine J.region rfl ?_
          refine JO.pur rfl rfl rfl (Pur.move rfl) ?_
          refine JO.pur rfl rfl rfl (Pur.assign rfl) ?_
          refine JO.nil ?_
          refine J.inBlock ?_
          exact J.weaken (.cons rfl (congrArg (Value.int .i64) (by first | rfl | (dsimp only; omega))) (.cons rfl (congrArg (Value.int .i64) (by first | rfl | (dsimp only; omega))) (.cons rfl rfl (.cons rfl rfl (.cons rfl rfl .nil))))) (by first | exact fun _ h => h | exact SubC.out | (dsimp only; exact SubC.out)) (ih2 (i, m) ⟨hi1, by dsimp only; omega, by dsimp only; omega, hlo, .inr ⟨by dsimp only; omega, by dsimp only; rw [kA_of hgx]; exact Int.le_of_lt (cmpZ_lt.1 (by omega))⟩⟩ (by dsimp only; omega))
      · try simp only [decide_eq_true_eq, decide_eq_false_iff_not, Bool.not_eq_true', Bool.not_eq_false', Bool.and_eq_true, Bool.or_eq_true, Bool.and_eq_false_iff, Bool.or_eq_false_iff, Option.isNone_some, Option.isSome_some, Option.isNone_none, Option.isSome_none, Int.not_lt, Int.not_le, beq_iff_eq, beq_eq_false_iff_ne, bne_iff_ne, ne_eq, Bool.not_not, Decidable.not_not] at h85
        have hije : i = j := by omega
        subst hije
        rw [eUS] at hlo hhi
        obtain ⟨U1, U2, hsp, hl1, hle1, hge2⟩ := one_split (ky := enK) (P := P) (V := U) (S := [y] ++ S) (i := i) (z := enK y) hUs (by omega) (by omega) hlo hhi
        have hul : U.length = U1.length + U2.length := by rw [hsp, List.length_append]
        refine J.condF rfl rfl ?_
        refine J.exit rfl rfl ?_
        refine J.seq rfl ?_
        refine J.seq rfl ?_
        refine J.region rfl ?_
        refine JO.pur rfl rfl rfl (Pur.move rfl) ?_
        refine JO.pur rfl rfl rfl (Pur.assign rfl) ?_
        refine JO.nil ?_
        refine J.block rfl ?_
        refine J.loopF (ι := Nat) (fun q => q ≤ U2.length) (fun q => [(17, .int .i64 ((P.length + U1.length + q : Nat) : Int))]) [(0, _), (14, _)] (fun q => sl enE ad cap (P ++ U1 ++ U2.take q ++ y :: (U2.drop q ++ S)) :: L) (fun q => q) U2.length rfl (.cons rfl rfl (.cons rfl rfl .nil)) (.cons rfl (congrArg (Value.int .i64) (by omega)) .nil) (fun h s => by rw [hsp] at s; have e : P ++ (U1 ++ U2) ++ [y] ++ S = P ++ U1 ++ U2.take U2.length ++ y :: (U2.drop U2.length ++ S) := (by simp); rw [e] at s; exact SubC.out h s) (Nat.le_refl _) ?_
        rintro q hq ihq
        try dsimp only
        have hsl : (P ++ U1 ++ U2.take q ++ y :: (U2.drop q ++ S)).length = (P ++ U ++ [y] ++ S).length := by simp only [List.length_append, List.length_cons, List.length_take, List.length_drop, List.length_nil]; omega
        refine J.seq rfl ?_
        refine J.seq rfl ?_
        refine J.region rfl ?_
        refine JO.pur rfl rfl rfl (Pur.move rfl) ?_
        refine JO.pur rfl rfl rfl (Pur.move rfl) ?_
        refine JO.pur rfl rfl rfl (Pur.gtr rfl rfl) ?_
        refine JO.nil ?_
        refine J.splitB 110 rfl (fun h110 => ?_) (fun h110 => ?_)
        · try simp only [decide_eq_true_eq, decide_eq_false_iff_not, Bool.not_eq_true', Bool.not_eq_false', Bool.and_eq_true, Bool.or_eq_true, Bool.and_eq_false_iff, Bool.or_eq_false_iff, Option.isNone_some, Option.isSome_some, Option.isNone_none, Option.isSome_none, Int.not_lt, Int.not_le, beq_iff_eq, beq_eq_false_iff_ne, bne_iff_ne, ne_eq, Bool.not_not, Decidable.not_not] at h110
          obtain ⟨q2, hq2⟩ : ∃ q2, q = q2 + 1 := ⟨q - 1, by omega⟩
          obtain ⟨B1, w, B2, hB, hB1⟩ := split_at (l := U2) (i := q2) (by omega)
          have e1 : U2.take q2 = B1 := by rw [hB]; exact List.take_left' hB1
          have e2 : U2.drop q2 = w :: B2 := by rw [hB]; exact List.drop_left' hB1
          have e3 : U2.take q = B1 ++ [w] := by rw [hB, hq2]; exact take_left1 hB1
          have e4 : U2.drop q = B2 := by rw [hB, hq2]; exact drop_left1 hB1
          have e5 : P ++ U1 ++ U2.take q ++ y :: (U2.drop q ++ S) = (P ++ U1 ++ B1) ++ w :: y :: (B2 ++ S) := by rw [e3, e4]; simp
          have hg1 : (P ++ U1 ++ U2.take q ++ y :: (U2.drop q ++ S))[P.length + U1.length + q2]? = some w := by rw [e5]; exact get_mid _ _ _ (by simp only [List.length_append]; omega)
          have hg2 : (P ++ U1 ++ U2.take q ++ y :: (U2.drop q ++ S))[P.length + U1.length + q]? = some y := by rw [e5, show (P ++ U1 ++ B1) ++ w :: y :: (B2 ++ S) = ((P ++ U1 ++ B1) ++ [w]) ++ y :: (B2 ++ S) by simp]; exact get_mid _ _ _ (by simp only [List.length_append, List.length_singleton]; omega)
          have hst : ((P ++ U1 ++ U2.take q ++ y :: (U2.drop q ++ S)).set (P.length + U1.length + q) w).set (P.length + U1.length + q2) y = P ++ U1 ++ U2.take q2 ++ y :: (U2.drop q2 ++ S) := by rw [e5, e1, e2, set_adj2 (by simp only [List.length_append]; omega) (by simp only [List.length_append]; omega)]; simp
          have hkk : ((P.length + U1.length + q : Nat) : Int) - 1 = ((P.length + U1.length + q2 : Nat) : Int) := by omega
          refine J.condT rfl rfl ?_
          refine J.skip rfl ?_
          refine J.seq rfl ?_
          refine J.block rfl ?_
          refine J.mask0 (n := 18) [15, 17] rfl Try.mixed rfl (by kernel_rfl) ?_
          refine JM.take 0 (fun _ h => h) rfl (by kernel_rfl) rfl rfl rfl (m' := 1) rfl (Pur.move rfl) ?_
          refine JM.take 1 (fun _ h => h) rfl (by kernel_rfl) rfl rfl rfl (m' := 3) rfl (Pur.move rfl) ?_
          refine JM.takeF 2 (.inr (fun _ h => h)) rfl (by kernel_rfl) rfl rfl rfl (m' := 7) rfl (Pur.move rfl) ?_
          refine JM.takeF 3 (.inr (fun _ h => h)) rfl (by kernel_rfl) rfl rfl rfl (m' := 15) rfl (Pur.move rfl) ?_
          refine JM.takeF 4 (.inr (fun _ h => h)) rfl (by kernel_rfl) rfl rfl rfl (m' := 31) rfl (Pur.sub rfl rfl (wr64 (by omega))) ?_
          refine JM.take 5 (fun _ h => h) rfl (by kernel_rfl) rfl rfl rfl (m' := 63) rfl (Pur.move rfl) ?_
          refine JM.take 6 (fun _ h => h) rfl (by kernel_rfl) rfl rfl rfl (m' := 127) rfl (Pur.move rfl) ?_
          refine JM.take 7 (fun _ h => h) rfl (by kernel_rfl) rfl rfl rfl (m' := 255) rfl (Pur.sub rfl rfl (wr64 (by omega))) ?_
          refine JM.take 8 (fun _ h => h) rfl (by kernel_rfl) rfl rfl rfl (m' := 511) rfl (Pur.idx rfl rfl rfl (by first | rfl | (simp; done) | omega | (rw [List.length_set]; omega)) hkk (by omega)) ?_
          refine JM.take 9 (fun _ h => h) rfl (by kernel_rfl) rfl rfl rfl (m' := 1023) rfl (Pur.loadA rfl rfl rfl (CellsIn.el rfl hg1)) ?_
          refine JM.setv (u' := enV w) 122 rfl rfl ?_
          refine JM.take 10 (fun _ h => h) rfl (by kernel_rfl) rfl rfl rfl (m' := 2047) rfl (Pur.move rfl) ?_
          refine JM.take 11 (fun _ h => h) rfl (by kernel_rfl) rfl rfl rfl (m' := 4095) rfl (Pur.move rfl) ?_
          refine JM.take 12 (fun _ h => h) rfl (by kernel_rfl) rfl rfl rfl (m' := 8191) rfl (Pur.idx rfl rfl rfl (by first | rfl | (simp; done) | omega | (rw [List.length_set]; omega)) rfl (by omega)) ?_
          refine JM.take 13 (fun _ h => h) rfl (by kernel_rfl) rfl rfl rfl (m' := 16383) rfl (Pur.loadA rfl rfl rfl (CellsIn.el rfl hg2)) ?_
          refine JM.setv (u' := enV y) 126 rfl rfl ?_
          refine JM.take 14 (fun _ h => h) rfl (by kernel_rfl) rfl rfl rfl (m' := 32767) rfl (Pur.idx rfl rfl rfl (by first | rfl | (simp; done) | omega | (rw [List.length_set]; omega)) rfl (by omega)) ?_
          refine JM.one (i := 15) (by kernel_rfl) ?_
          refine JMi.effN rfl rfl rfl (m' := 65535) rfl (Eff.storeSA (z' := w) rfl rfl rfl rfl (by omega) rfl) ?_
          rintro _ _ ⟨rfl, rfl⟩
          refine ⟨.inl (by simp), ?_⟩
          refine JM.one (i := 16) (by kernel_rfl) ?_
          refine JMi.eff rfl rfl rfl rfl (m' := 131071) rfl (Pur.eff (Pur.idx rfl rfl rfl (by first | rfl | (simp; done) | omega | (rw [List.length_set]; omega)) hkk (by first | omega | (rw [List.length_set]; omega)))) ?_
          rintro _ _ ⟨rfl, rfl⟩
          refine ⟨.inl (.inr (by kernel_rfl)), ?_⟩
          refine JM.one (i := 17) (by kernel_rfl) ?_
          refine JMi.effN rfl rfl rfl (m' := 262143) rfl (Eff.storeSA (z' := y) rfl rfl rfl rfl (by first | omega | (rw [List.length_set]; omega)) rfl) ?_
          rintro _ _ ⟨rfl, rfl⟩
          refine ⟨.inl (by simp), ?_⟩
          refine JM.done rfl ?_
          refine J.inBlock ?_
          refine J.region rfl ?_
          refine JO.pur rfl rfl rfl (Pur.move rfl) ?_
          refine JO.pur rfl rfl rfl (Pur.sub rfl rfl (wr64 (by omega))) ?_
          refine JO.pur rfl rfl rfl (Pur.assign rfl) ?_
          refine JO.nil ?_
          exact J.weaken (.cons rfl (congrArg (Value.int .i64) (by omega)) (.cons rfl rfl (.cons rfl rfl .nil))) (fun h s => by rw [hst] at s; exact SubC.out h s) (ihq q2 (by omega) (by omega))
        · try simp only [decide_eq_true_eq, decide_eq_false_iff_not, Bool.not_eq_true', Bool.not_eq_false', Bool.and_eq_true, Bool.or_eq_true, Bool.and_eq_false_iff, Bool.or_eq_false_iff, Option.isNone_some, Option.isSome_some, Option.isNone_none, Option.isSome_none, Int.not_lt, Int.not_le, beq_iff_eq, beq_eq_false_iff_ne, bne_iff_ne, ne_eq, Bool.not_not, Decidable.not_not] at h110
          have hqe : q = 0 := by omega
          refine J.condF rfl rfl ?_
          refine J.exit rfl rfl ?_
          refine J.ret rfl rfl ?_
          refine ⟨_, _, ⟨U1 ++ y :: U2, rfl, by rw [hsp]; exact (List.perm_middle.trans (List.perm_append_singleton y (U1 ++ U2)).symm), srtd_ins (by rw [← hsp]; exact hUs) hle1 hge2, rfl⟩, rfl, fun h s => ?_⟩
          rw [hqe, List.take_zero, List.drop_zero] at s
          have e : P ++ U1 ++ [] ++ y :: (U2 ++ S) = P ++ (U1 ++ y :: U2) ++ S := by simp
          rw [e] at s
          exact SubC.out h s
    · try simp only [decide_eq_true_eq, decide_eq_false_iff_not, Bool.not_eq_true', Bool.not_eq_false', Bool.and_eq_true, Bool.or_eq_true, Bool.and_eq_false_iff, Bool.or_eq_false_iff, Option.isNone_some, Option.isSome_some, Option.isNone_none, Option.isSome_none, Int.not_lt, Int.not_le, beq_iff_eq, beq_eq_false_iff_ne, bne_iff_ne, ne_eq, Bool.not_not, Decidable.not_not] at h80
      obtain ⟨md, hm⟩ : ∃ md, md = (P.length + (P.length + U.length + V.length)) / 2 := ⟨_, rfl⟩
      obtain ⟨nn, hnn⟩ : ∃ nn, nn = md + (P.length + U.length) := ⟨_, rfl⟩
      refine J.condF rfl rfl ?_
      refine J.skip rfl ?_
      refine J.seq rfl ?_
      refine J.region rfl ?_
      refine JO.pur rfl rfl rfl (Pur.move rfl) ?_
      refine JO.pur rfl rfl rfl (Pur.move rfl) ?_
      refine JO.pur rfl rfl rfl (Pur.add rfl rfl (wr64 (by omega))) ?_
      refine JO.pur rfl rfl rfl (Pur.convI rfl (wrU64 (by omega))) ?_
      refine JO.pur rfl rfl rfl (Pur.shrU1 rfl rfl (show (P.length : Int) + (((P.length + U.length + V.length) : Nat) : Int) = ((P.length + (P.length + U.length + V.length) : Nat) : Int) by omega)) ?_
      refine JO.pur rfl rfl rfl (Pur.convI rfl (wr64 (by omega))) ?_
      refine JO.setv (u' := .int .i64 (md : Int)) 134 rfl (by rw [hm]) ?_
      refine JO.pur rfl rfl rfl (Pur.assign rfl) ?_
      refine JO.nil ?_
      refine J.seq rfl ?_
      refine J.region rfl ?_
      refine JO.pur rfl rfl rfl (Pur.move rfl) ?_
      refine JO.pur rfl rfl rfl (Pur.move rfl) ?_
      refine JO.pur rfl rfl rfl (Pur.add rfl rfl (wr64 (by omega))) ?_
      refine JO.setv (u' := .int .i64 (nn : Int)) 137 rfl (congrArg (Value.int .i64) (by omega)) ?_
      refine JO.pur rfl rfl rfl (Pur.assign rfl) ?_
      refine JO.nil ?_
      refine J.seq rfl ?_
      refine J.region rfl ?_
      refine JO.pur rfl rfl rfl (Pur.assign rfl) ?_
      refine JO.pur rfl rfl rfl (Pur.assign rfl) ?_
      refine JO.nil ?_
      refine J.seq rfl ?_
      refine J.seq rfl ?_
      refine J.cut2 (ι := Nat × Nat) (fun q => P.length ≤ q.1 ∧ q.1 ≤ q.2 ∧ q.2 ≤ md ∧ q.2 ≤ (P.length + U.length) ∧ nn ≤ q.1 + (P.length + U.length + V.length) ∧ (q.1 = P.length ∨ nn = q.1 + (P.length + U.length + V.length)) ∧ (q.2 = (P.length + U.length) ∨ nn = q.2 + (P.length + U.length))) (fun q => [(20, .int .i64 (q.1 : Int)), (21, .int .i64 (q.2 : Int))]) [(0, _), (1, _), (2, _), (3, _), (4, _), (18, _), (19, _)] (fun q => sl enE ad cap (P ++ U ++ V ++ S) :: L) (.cons rfl rfl (.cons rfl rfl (.cons rfl rfl (.cons rfl rfl (.cons rfl rfl (.cons rfl rfl (.cons rfl rfl .nil))))))) ?_ ?_
      · rintro ⟨s0, r0⟩ ⟨c1, c2, c3, c4, c5, c6, c7⟩
        try dsimp only
        dsimp only at c1 c2 c3 c4 c5 c6 c7
        refine J.seq rfl ?_
        refine J.region rfl ?_
        refine JO.pur rfl rfl rfl (Pur.move rfl) ?_
        refine JO.pur rfl rfl rfl (Pur.sub rfl rfl (wr64 (by omega))) ?_
        refine JO.pur rfl rfl rfl (Pur.assign rfl) ?_
        refine JO.nil ?_
        refine J.seq rfl ?_
        refine J.block rfl ?_
        refine J.loopF (ι := Nat × Nat) (fun q => P.length ≤ q.1 ∧ q.1 ≤ q.2 ∧ q.2 ≤ md ∧ q.2 ≤ (P.length + U.length) ∧ nn ≤ q.1 + (P.length + U.length + V.length) ∧ (q.1 = P.length ∨ nn = q.1 + (P.length + U.length + V.length) ∨ (P.length < q.1 ∧ nn < q.1 + (P.length + U.length + V.length) ∧ kA enK (P ++ U ++ V ++ S) (q.1 - 1) ≤ kA enK (P ++ U ++ V ++ S) (nn - q.1))) ∧ (q.2 = (P.length + U.length) ∨ nn = q.2 + (P.length + U.length) ∨ (q.2 < (P.length + U.length) ∧ kA enK (P ++ U ++ V ++ S) (nn - 1 - q.2) ≤ kA enK (P ++ U ++ V ++ S) q.2))) (fun q => [(20, .int .i64 (q.1 : Int)), (21, .int .i64 (q.2 : Int))]) [(0, _), (1, _), (2, _), (3, _), (4, _), (18, _), (19, _), (22, _)] (fun q => sl enE ad cap (P ++ U ++ V ++ S) :: L) (fun q => q.2 - q.1) (s0, r0) rfl (.cons rfl rfl (.cons rfl rfl (.cons rfl rfl (.cons rfl rfl (.cons rfl rfl (.cons rfl rfl (.cons rfl rfl (.cons rfl rfl .nil)))))))) (.cons rfl rfl (.cons rfl rfl .nil)) (by first | exact fun _ h => h | exact SubC.out | (dsimp only; exact SubC.out)) ⟨c1, c2, c3, c4, c5, by dsimp only; omega, by dsimp only; omega⟩ ?_
        rintro ⟨i, j⟩ ⟨d1, d2, d3, d4, d5, d6, d7⟩ ih4
        try dsimp only
        dsimp only at d1 d2 d3 d4 d5 d6 d7
        refine J.seq rfl ?_
        refine J.seq rfl ?_
        refine J.region rfl ?_
        refine JO.pur rfl rfl rfl (Pur.move rfl) ?_
        refine JO.pur rfl rfl rfl (Pur.move rfl) ?_
        refine JO.pur rfl rfl rfl (Pur.lss rfl rfl) ?_
        refine JO.nil ?_
        refine J.splitB 151 rfl (fun h151 => ?_) (fun h151 => ?_)
        · try simp only [decide_eq_true_eq, decide_eq_false_iff_not, Bool.not_eq_true', Bool.not_eq_false', Bool.and_eq_true, Bool.or_eq_true, Bool.and_eq_false_iff, Bool.or_eq_false_iff, Option.isNone_some, Option.isSome_some, Option.isNone_none, Option.isSome_none, Int.not_lt, Int.not_le, beq_iff_eq, beq_eq_false_iff_ne, bne_iff_ne, ne_eq, Bool.not_not, Decidable.not_not] at h151
          obtain ⟨m, hm2⟩ : ∃ m, m = (i + j) / 2 := ⟨_, rfl⟩
          have hm1 : i ≤ m ∧ m < j := by omega
          obtain ⟨x, hgx⟩ : ∃ x, (P ++ U ++ V ++ S)[m]? = some x := ⟨_, List.getElem?_eq_getElem (by omega)⟩
          obtain ⟨y, hgy⟩ : ∃ y, (P ++ U ++ V ++ S)[nn - 1 - m]? = some y := ⟨_, List.getElem?_eq_getElem (by omega)⟩
          have hpc : (nn : Int) - 1 - (m : Int) = ((nn - 1 - m : Nat) : Int) := by omega
          refine J.condT rfl rfl ?_
          refine J.skip rfl ?_
          refine J.block rfl ?_
          refine J.seq rfl ?_
          refine J.region rfl ?_
          refine JO.pur rfl rfl rfl (Pur.move rfl) ?_
          refine JO.pur rfl rfl rfl (Pur.move rfl) ?_
          refine JO.pur rfl rfl rfl (Pur.add rfl rfl (wr64 (by omega))) ?_
          refine JO.pur rfl rfl rfl (Pur.convI rfl (wrU64 (by omega))) ?_
          refine JO.pur rfl rfl rfl (Pur.shrU1 rfl rfl (show (i : Int) + ((j : Nat) : Int) = ((i + j : Nat) : Int) by omega)) ?_
          refine JO.pur rfl rfl rfl (Pur.convI rfl (wr64 (by omega))) ?_
          refine JO.setv (u' := .int .i64 (m : Int)) 157 rfl (by rw [hm2]) ?_
          refine JO.pur rfl rfl rfl (Pur.assign rfl) ?_
          refine JO.nil ?_
          refine J.seq rfl ?_
          refine J.mask0 (n := 14) [] rfl Try.mixed rfl (by kernel_rfl) ?_
          refine JM.take 0 (fun _ h => h) rfl (by kernel_rfl) rfl rfl rfl (m' := 1) rfl (Pur.move rfl) ?_
          refine JM.take 1 (fun _ h => h) rfl (by kernel_rfl) rfl rfl rfl (m' := 3) rfl (Pur.move rfl) ?_
          refine JM.take 2 (fun _ h => h) rfl (by kernel_rfl) rfl rfl rfl (m' := 7) rfl (Pur.move rfl) ?_
          refine JM.take 3 (fun _ h => h) rfl (by kernel_rfl) rfl rfl rfl (m' := 15) rfl (Pur.move rfl) ?_
          refine JM.take 4 (fun _ h => h) rfl (by kernel_rfl) rfl rfl rfl (m' := 31) rfl (Pur.sub rfl rfl (wr64 (by omega))) ?_
          refine JM.take 5 (fun _ h => h) rfl (by kernel_rfl) rfl rfl rfl (m' := 63) rfl (Pur.idx rfl rfl rfl (by first | rfl | (simp; done) | omega | (rw [List.length_set]; omega)) hpc (by omega)) ?_
          refine JM.take 6 (fun _ h => h) rfl (by kernel_rfl) rfl rfl rfl (m' := 127) rfl (Pur.loadA rfl rfl rfl (CellsIn.el rfl hgy)) ?_
          refine JM.setv (u' := enV y) 164 rfl rfl ?_
          refine JM.take 7 (fun _ h => h) rfl (by kernel_rfl) rfl rfl rfl (m' := 255) rfl (Pur.move rfl) ?_
          refine JM.take 8 (fun _ h => h) rfl (by kernel_rfl) rfl rfl rfl (m' := 511) rfl (Pur.move rfl) ?_
          refine JM.take 9 (fun _ h => h) rfl (by kernel_rfl) rfl rfl rfl (m' := 1023) rfl (Pur.idx rfl rfl rfl (by first | rfl | (simp; done) | omega | (rw [List.length_set]; omega)) rfl (by omega)) ?_
          refine JM.take 10 (fun _ h => h) rfl (by kernel_rfl) rfl rfl rfl (m' := 2047) rfl (Pur.loadA rfl rfl rfl (CellsIn.el rfl hgx)) ?_
          refine JM.setv (u' := enV x) 168 rfl rfl ?_
          refine JM.one (i := 11) (by kernel_rfl) ?_
          refine JMi.effR (fun _ h => h) rfl rfl rfl rfl (m' := 4095) rfl (Eff.callV rfl rfl (ent_cl (x := y) (y := x))) ?_
          refine JM.take 12 (fun _ h => h) rfl (by kernel_rfl) rfl rfl rfl (m' := 8191) rfl (Pur.lss rfl rfl) ?_
          refine JM.take 13 (fun _ h => h) rfl (by kernel_rfl) rfl rfl rfl (m' := 16383) rfl (Pur.not rfl) ?_
          refine JM.done rfl ?_
          refine J.splitB 171 rfl (fun h171 => ?_) (fun h171 => ?_)
          · try simp only [decide_eq_true_eq, decide_eq_false_iff_not, Bool.not_eq_true', Bool.not_eq_false', Bool.and_eq_true, Bool.or_eq_true, Bool.and_eq_false_iff, Bool.or_eq_false_iff, Option.isNone_some, Option.isSome_some, Option.isNone_none, Option.isSome_none, Int.not_lt, Int.not_le, beq_iff_eq, beq_eq_false_iff_ne, bne_iff_ne, ne_eq, Bool.not_not, Decidable.not_not] at h171
            refine J.condT rfl rfl ?_
            refine J.region rfl ?_
            refine JO.pur rfl rfl rfl (Pur.move rfl) ?_
            refine JO.pur rfl rfl rfl (Pur.add rfl rfl (wr64 (by omega))) ?_
            refine JO.pur rfl rfl rfl (Pur.assign rfl) ?_
            refine JO.nil ?_
            refine J.inBlock ?_
            exact J.weaken (.cons rfl (congrArg (Value.int .i64) (by first | rfl | (dsimp only; omega))) (.cons rfl (congrArg (Value.int .i64) (by first | rfl | (dsimp only; omega))) (.cons rfl rfl (.cons rfl rfl (.cons rfl rfl (.cons rfl rfl (.cons rfl rfl (.cons rfl rfl (.cons rfl rfl (.cons rfl rfl .nil)))))))))) (by first | exact fun _ h => h | exact SubC.out | (dsimp only; exact SubC.out)) (ih4 (m + 1, j) ⟨by dsimp only; omega, by dsimp only; omega, d3, d4, by dsimp only; omega, .inr (.inr ⟨by dsimp only; omega, by dsimp only; omega, by dsimp only; rw [Nat.add_sub_cancel, kA_of hgx, show nn - (m + 1) = nn - 1 - m by omega, kA_of hgy]; exact Int.not_lt.1 fun g => by have := cmpZ_lt.2 g; omega⟩), d7⟩ (by dsimp only; omega))
          · try simp only [decide_eq_true_eq, decide_eq_false_iff_not, Bool.not_eq_true', Bool.not_eq_false', Bool.and_eq_true, Bool.or_eq_true, Bool.and_eq_false_iff, Bool.or_eq_false_iff, Option.isNone_some, Option.isSome_some, Option.isNone_none, Option.isSome_none, Int.not_lt, Int.not_le, beq_iff_eq, beq_eq_false_iff_ne, bne_iff_ne, ne_eq, Bool.not_not, Decidable.not_not] at h171
            refine J.condF rfl rfl ?_
            refine J.region rfl ?_
            refine JO.pur rfl rfl rfl (Pur.move rfl) ?_
            refine JO.pur rfl rfl rfl (Pur.assign rfl) ?_
            refine JO.nil ?_
            refine J.inBlock ?_
            exact J.weaken (.cons rfl (congrArg (Value.int .i64) (by first | rfl | (dsimp only; omega))) (.cons rfl (congrArg (Value.int .i64) (by first | rfl | (dsimp only; omega))) (.cons rfl rfl (.cons rfl rfl (.cons rfl rfl (.cons rfl rfl (.cons rfl rfl (.cons rfl rfl (.cons rfl rfl (.cons rfl rfl .nil)))))))))) (by first | exact fun _ h => h | exact SubC.out | (dsimp only; exact SubC.out)) (ih4 (i, m) ⟨d1, by dsimp only; omega, by dsimp only; omega, by dsimp only; omega, d5, d6, .inr (.inr ⟨by dsimp only; omega, by dsimp only; rw [kA_of hgx, kA_of hgy]; exact Int.le_of_lt (cmpZ_lt.1 (by omega))⟩)⟩ (by dsimp only; omega))
        · try simp only [decide_eq_true_eq, decide_eq_false_iff_not, Bool.not_eq_true', Bool.not_eq_false', Bool.and_eq_true, Bool.or_eq_true, Bool.and_eq_false_iff, Bool.or_eq_false_iff, Option.isNone_some, Option.isSome_some, Option.isNone_none, Option.isSome_none, Int.not_lt, Int.not_le, beq_iff_eq, beq_eq_false_iff_ne, bne_iff_ne, ne_eq, Bool.not_not, Decidable.not_not] at h151
          have hije : i = j := by omega
          subst hije
          obtain ⟨e, he⟩ : ∃ e, e = nn - i := ⟨_, rfl⟩
          have hee : (nn : Int) - (i : Int) = (e : Int) := by omega
          obtain ⟨U1, U2, V1, V2, hsU, hsV, hl1, hl2, hA, hB⟩ := mrg_split (ky := enK) (P := P) (U := U) (V := V) (S := S) (s := i) (e := e) rfl rfl rfl rfl hUs hV (by omega) (by omega) (by omega) (by omega) (by rw [he]; omega) (by rw [he]; rcases d7 with g | g | ⟨g1, g2⟩; exact .inl g; exact .inr (.inl (by omega)); by_cases g3 : nn - i = (P.length + U.length); exact .inr (.inl g3); exact .inr (.inr ⟨g1, by omega, by rw [show nn - i - 1 = nn - 1 - i by omega]; exact g2⟩))
          have hul : U.length = U1.length + U2.length := by rw [hsU, List.length_append]
          have hvl : V.length = V1.length + V2.length := by rw [hsV, List.length_append]
          have hU1s : srtd enK U1 := by rw [hsU] at hUs; exact srtd_left hUs
          have hU2s : srtd enK U2 := by rw [hsU] at hUs; exact srtd_right hUs
          have hV1s : srtd enK V1 := by rw [hsV] at hV; exact srtd_left hV
          have hV2s : srtd enK V2 := by rw [hsV] at hV; exact srtd_right hV
          refine J.condF rfl rfl ?_
          refine J.exit rfl rfl ?_
          refine J.seq rfl ?_
          refine J.region rfl ?_
          refine JO.pur rfl rfl rfl (Pur.move rfl) ?_
          refine JO.pur rfl rfl rfl (Pur.move rfl) ?_
          refine JO.pur rfl rfl rfl (Pur.sub rfl rfl (wr64 (by omega))) ?_
          refine JO.setv (u' := .int .i64 (e : Int)) 177 rfl (congrArg (Value.int .i64) hee) ?_
          refine JO.pur rfl rfl rfl (Pur.assign rfl) ?_
          refine JO.nil ?_
          refine J.seq rfl ?_
          refine J.seq rfl ?_
          refine J.cut2 (ι := Unit) (fun q => True) (fun q => []) [(0, _), (1, _), (3, _), (4, _), (18, _), (20, _), (24, _)] (fun q => sl enE ad cap (P ++ U1 ++ V1 ++ U2 ++ V2 ++ S) :: L) (.cons rfl rfl (.cons rfl rfl (.cons rfl rfl (.cons rfl rfl (.cons rfl rfl (.cons rfl rfl (.cons rfl rfl .nil))))))) ?_ ?_
          · rintro ⟨⟩ -
            try dsimp only
            refine J.seq rfl ?_
            refine J.seq rfl ?_
            refine J.cut2 (ι := List (Int × Hdr)) (fun q => q.Perm (U1 ++ V1) ∧ srtd enK q) (fun q => []) [(0, _), (3, _), (4, _), (18, _), (24, _)] (fun q => sl enE ad cap (P ++ q ++ U2 ++ V2 ++ S) :: L) (.cons rfl rfl (.cons rfl rfl (.cons rfl rfl (.cons rfl rfl (.cons rfl rfl .nil))))) ?_ ?_
            · rintro W1 ⟨pw1, sw1⟩
              try dsimp only
              have hwl := pw1.length_eq
              rw [List.length_append] at hwl
              refine J.seq rfl ?_
              refine J.region rfl ?_
              refine JO.pur rfl rfl rfl (Pur.move rfl) ?_
              refine JO.pur rfl rfl rfl (Pur.move rfl) ?_
              refine JO.pur rfl rfl rfl (Pur.lss rfl rfl) ?_
              refine JO.pur rfl rfl rfl (Pur.move rfl) ?_
              refine JO.splitB 209 rfl (fun h209 => ?_) (fun h209 => ?_)
              · try simp only [decide_eq_true_eq, decide_eq_false_iff_not, Bool.not_eq_true', Bool.not_eq_false', Bool.and_eq_true, Bool.or_eq_true, Bool.and_eq_false_iff, Bool.or_eq_false_iff, Option.isNone_some, Option.isSome_some, Option.isNone_none, Option.isSome_none, Int.not_lt, Int.not_le, beq_iff_eq, beq_eq_false_iff_ne, bne_iff_ne, ne_eq, Bool.not_not, Decidable.not_not] at h209
                refine JO.pur rfl rfl rfl (Pur.move rfl) ?_
                refine JO.pur rfl rfl rfl (Pur.move rfl) ?_
                refine JO.pur rfl rfl rfl (Pur.lss rfl rfl) ?_
                refine JO.pur rfl rfl rfl (Pur.pickT rfl rfl) ?_
                refine JO.nil ?_
                refine J.splitB 213 rfl (fun h213 => ?_) (fun h213 => ?_)
                · try simp only [decide_eq_true_eq, decide_eq_false_iff_not, Bool.not_eq_true', Bool.not_eq_false', Bool.and_eq_true, Bool.or_eq_true, Bool.and_eq_false_iff, Bool.or_eq_false_iff, Option.isNone_some, Option.isSome_some, Option.isNone_none, Option.isSome_none, Int.not_lt, Int.not_le, beq_iff_eq, beq_eq_false_iff_ne, bne_iff_ne, ne_eq, Bool.not_not, Decidable.not_not] at h213
                  refine J.condT rfl rfl ?_
                  refine J.region rfl ?_
                  refine JO.pur rfl rfl rfl (Pur.move rfl) ?_
                  refine JO.pur rfl rfl rfl (Pur.move rfl) ?_
                  refine JO.pur rfl rfl rfl (Pur.move rfl) ?_
                  refine JO.pur rfl rfl rfl (Pur.move rfl) ?_
                  refine JO.pur rfl rfl rfl (Pur.move rfl) ?_
                  refine JO.eff rfl rfl rfl (Eff.call rfl (@ih (P ++ W1) U2 V2 S _ _ _ _ (by simp) (by simp only [List.length_append] at *; omega) (by rw [List.length_append]; omega) (by rw [List.length_append]; omega) (by rw [List.length_append]; omega) (by omega) (by omega) hU2s hV2s (by simp only [List.length_append] at *; omega) (by omega))) ?_
                  rintro _ _ ⟨W2, rfl, hWp, hWs, rfl⟩
                  refine JO.nil ?_
                  refine J.fin rfl ?_
                  have hd := mrg_done (ky := enK) (U1 := U1) (U2 := U2) (V1 := V1) (V2 := V2) (W1 := W1) (W2 := W2) (by rw [← hsU]; exact hUs) (by rw [← hsV]; exact hV) hA hB pw1 hWp sw1 hWs
                  refine ⟨_, _, ⟨W1 ++ W2, rfl, by rw [hsU, hsV]; exact hd.2, hd.1, rfl⟩, rfl, fun h s => ?_⟩
                  have e : P ++ W1 ++ W2 ++ S = P ++ (W1 ++ W2) ++ S := by simp
                  rw [e] at s
                  exact SubC.out h s
                · try simp only [decide_eq_true_eq, decide_eq_false_iff_not, Bool.not_eq_true', Bool.not_eq_false', Bool.and_eq_true, Bool.or_eq_true, Bool.and_eq_false_iff, Bool.or_eq_false_iff, Option.isNone_some, Option.isSome_some, Option.isNone_none, Option.isSome_none, Int.not_lt, Int.not_le, beq_iff_eq, beq_eq_false_iff_ne, bne_iff_ne, ne_eq, Bool.not_not, Decidable.not_not] at h213
                  have hfs : srtd enK (U2 ++ V2) := by
                    have e0 : U2 = [] ∨ V2 = [] := by
                      first
                      | exact .inl (List.eq_nil_of_length_eq_zero (by omega))
                      | exact .inr (List.eq_nil_of_length_eq_zero (by omega))
                    rcases e0 with e0 | e0
                    · rw [e0]; exact hV2s
                    · rw [e0, List.append_nil]; exact hU2s
                  refine J.condF rfl rfl ?_
                  refine J.skip rfl ?_
                  refine J.fin rfl ?_
                  have hd := mrg_done (ky := enK) (U1 := U1) (U2 := U2) (V1 := V1) (V2 := V2) (W1 := W1) (W2 := (U2 ++ V2)) (by rw [← hsU]; exact hUs) (by rw [← hsV]; exact hV) hA hB pw1 (List.Perm.refl _) sw1 hfs
                  refine ⟨_, _, ⟨W1 ++ (U2 ++ V2), rfl, by rw [hsU, hsV]; exact hd.2, hd.1, rfl⟩, rfl, fun h s => ?_⟩
                  have e : P ++ W1 ++ U2 ++ V2 ++ S = P ++ (W1 ++ (U2 ++ V2)) ++ S := by simp
                  rw [e] at s
                  exact SubC.out h s
              · try simp only [decide_eq_true_eq, decide_eq_false_iff_not, Bool.not_eq_true', Bool.not_eq_false', Bool.and_eq_true, Bool.or_eq_true, Bool.and_eq_false_iff, Bool.or_eq_false_iff, Option.isNone_some, Option.isSome_some, Option.isNone_none, Option.isSome_none, Int.not_lt, Int.not_le, beq_iff_eq, beq_eq_false_iff_ne, bne_iff_ne, ne_eq, Bool.not_not, Decidable.not_not] at h209
                have hfs : srtd enK (U2 ++ V2) := by
                  have e0 : U2 = [] ∨ V2 = [] := by
                    first
                    | exact .inl (List.eq_nil_of_length_eq_zero (by omega))
                    | exact .inr (List.eq_nil_of_length_eq_zero (by omega))
                  rcases e0 with e0 | e0
                  · rw [e0]; exact hV2s
                  · rw [e0, List.append_nil]; exact hU2s
                refine JO.no rfl rfl rfl ?_
                refine JO.no rfl rfl rfl ?_
                refine JO.no rfl rfl rfl ?_
                refine JO.pur rfl rfl rfl (Pur.pickF rfl rfl) ?_
                refine JO.nil ?_
                refine J.condF rfl rfl ?_
                refine J.skip rfl ?_
                refine J.fin rfl ?_
                have hd := mrg_done (ky := enK) (U1 := U1) (U2 := U2) (V1 := V1) (V2 := V2) (W1 := W1) (W2 := (U2 ++ V2)) (by rw [← hsU]; exact hUs) (by rw [← hsV]; exact hV) hA hB pw1 (List.Perm.refl _) sw1 hfs
                refine ⟨_, _, ⟨W1 ++ (U2 ++ V2), rfl, by rw [hsU, hsV]; exact hd.2, hd.1, rfl⟩, rfl, fun h s => ?_⟩
                have e : P ++ W1 ++ U2 ++ V2 ++ S = P ++ (W1 ++ (U2 ++ V2)) ++ S := by simp
                rw [e] at s
                exact SubC.out h s
            · intro cuta41
              refine J.region rfl ?_
              refine JO.pur rfl rfl rfl (Pur.move rfl) ?_
              refine JO.pur rfl rfl rfl (Pur.move rfl) ?_
              refine JO.pur rfl rfl rfl (Pur.lss rfl rfl) ?_
              refine JO.pur rfl rfl rfl (Pur.move rfl) ?_
              refine JO.splitB 195 rfl (fun h195 => ?_) (fun h195 => ?_)
              · try simp only [decide_eq_true_eq, decide_eq_false_iff_not, Bool.not_eq_true', Bool.not_eq_false', Bool.and_eq_true, Bool.or_eq_true, Bool.and_eq_false_iff, Bool.or_eq_false_iff, Option.isNone_some, Option.isSome_some, Option.isNone_none, Option.isSome_none, Int.not_lt, Int.not_le, beq_iff_eq, beq_eq_false_iff_ne, bne_iff_ne, ne_eq, Bool.not_not, Decidable.not_not] at h195
                refine JO.pur rfl rfl rfl (Pur.move rfl) ?_
                refine JO.pur rfl rfl rfl (Pur.move rfl) ?_
                refine JO.pur rfl rfl rfl (Pur.lss rfl rfl) ?_
                refine JO.pur rfl rfl rfl (Pur.pickT rfl rfl) ?_
                refine JO.nil ?_
                refine J.splitB 199 rfl (fun h199 => ?_) (fun h199 => ?_)
                · try simp only [decide_eq_true_eq, decide_eq_false_iff_not, Bool.not_eq_true', Bool.not_eq_false', Bool.and_eq_true, Bool.or_eq_true, Bool.and_eq_false_iff, Bool.or_eq_false_iff, Option.isNone_some, Option.isSome_some, Option.isNone_none, Option.isSome_none, Int.not_lt, Int.not_le, beq_iff_eq, beq_eq_false_iff_ne, bne_iff_ne, ne_eq, Bool.not_not, Decidable.not_not] at h199
                  refine J.condT rfl rfl ?_
                  refine J.region rfl ?_
                  refine JO.pur rfl rfl rfl (Pur.move rfl) ?_
                  refine JO.pur rfl rfl rfl (Pur.move rfl) ?_
                  refine JO.pur rfl rfl rfl (Pur.move rfl) ?_
                  refine JO.pur rfl rfl rfl (Pur.move rfl) ?_
                  refine JO.pur rfl rfl rfl (Pur.move rfl) ?_
                  refine JO.eff rfl rfl rfl (Eff.call rfl (@ih P U1 V1 (U2 ++ V2 ++ S) _ _ _ _ (by simp) (by simp only [List.length_append] at *; omega) rfl (by omega) (by omega) (by omega) (by omega) hU1s hV1s (by simp only [List.length_append] at *; omega) (by omega))) ?_
                  rintro _ _ ⟨W, rfl, hWp, hWs, rfl⟩
                  refine JO.nil ?_
                  exact J.weaken (.cons rfl rfl (.cons rfl rfl (.cons rfl rfl (.cons rfl rfl (.cons rfl rfl .nil))))) (fun h s => by have e : P ++ W ++ (U2 ++ V2 ++ S) = P ++ W ++ U2 ++ V2 ++ S := (by simp); rw [e] at s; exact SubC.out h s) (cuta41 W ⟨hWp, hWs⟩)
                · try simp only [decide_eq_true_eq, decide_eq_false_iff_not, Bool.not_eq_true', Bool.not_eq_false', Bool.and_eq_true, Bool.or_eq_true, Bool.and_eq_false_iff, Bool.or_eq_false_iff, Option.isNone_some, Option.isSome_some, Option.isNone_none, Option.isSome_none, Int.not_lt, Int.not_le, beq_iff_eq, beq_eq_false_iff_ne, bne_iff_ne, ne_eq, Bool.not_not, Decidable.not_not] at h199
                  have hfs : srtd enK (U1 ++ V1) := by
                    have e0 : U1 = [] ∨ V1 = [] := by
                      first
                      | exact .inl (List.eq_nil_of_length_eq_zero (by omega))
                      | exact .inr (List.eq_nil_of_length_eq_zero (by omega))
                    rcases e0 with e0 | e0
                    · rw [e0]; exact hV1s
                    · rw [e0, List.append_nil]; exact hU1s
                  refine J.condF rfl rfl ?_
                  refine J.skip rfl ?_
                  exact J.weaken (.cons rfl rfl (.cons rfl rfl (.cons rfl rfl (.cons rfl rfl (.cons rfl rfl .nil))))) (fun h s => by have e : P ++ U1 ++ V1 ++ U2 ++ V2 ++ S = P ++ (U1 ++ V1) ++ U2 ++ V2 ++ S := (by simp); rw [e] at s; exact SubC.out h s) (cuta41 (U1 ++ V1) ⟨List.Perm.refl _, hfs⟩)
              · try simp only [decide_eq_true_eq, decide_eq_false_iff_not, Bool.not_eq_true', Bool.not_eq_false', Bool.and_eq_true, Bool.or_eq_true, Bool.and_eq_false_iff, Bool.or_eq_false_iff, Option.isNone_some, Option.isSome_some, Option.isNone_none, Option.isSome_none, Int.not_lt, Int.not_le, beq_iff_eq, beq_eq_false_iff_ne, bne_iff_ne, ne_eq, Bool.not_not, Decidable.not_not] at h195
                have hfs : srtd enK (U1 ++ V1) := by
                  have e0 : U1 = [] ∨ V1 = [] := by
                    first
                    | exact .inl (List.eq_nil_of_length_eq_zero (by omega))
                    | exact .inr (List.eq_nil_of_length_eq_zero (by omega))
                  rcases e0 with e0 | e0
                  · rw [e0]; exact hV1s
                  · rw [e0, List.append_nil]; exact hU1s
                refine JO.no rfl rfl rfl ?_
                refine JO.no rfl rfl rfl ?_
                refine JO.no rfl rfl rfl ?_
                refine JO.pur rfl rfl rfl (Pur.pickF rfl rfl) ?_
                refine JO.nil ?_
                refine J.condF rfl rfl ?_
                refine J.skip rfl ?_
                exact J.weaken (.cons rfl rfl (.cons rfl rfl (.cons rfl rfl (.cons rfl rfl (.cons rfl rfl .nil))))) (fun h s => by have e : P ++ U1 ++ V1 ++ U2 ++ V2 ++ S = P ++ (U1 ++ V1) ++ U2 ++ V2 ++ S := (by simp); rw [e] at s; exact SubC.out h s) (cuta41 (U1 ++ V1) ⟨List.Perm.refl _, hfs⟩)
          · intro cuta39
            refine J.region rfl ?_
            refine JO.pur rfl rfl rfl (Pur.move rfl) ?_
            refine JO.pur rfl rfl rfl (Pur.move rfl) ?_
            refine JO.pur rfl rfl rfl (Pur.lss rfl rfl) ?_
            refine JO.pur rfl rfl rfl (Pur.move rfl) ?_
            refine JO.splitB 181 rfl (fun h181 => ?_) (fun h181 => ?_)
            · try simp only [decide_eq_true_eq, decide_eq_false_iff_not, Bool.not_eq_true', Bool.not_eq_false', Bool.and_eq_true, Bool.or_eq_true, Bool.and_eq_false_iff, Bool.or_eq_false_iff, Option.isNone_some, Option.isSome_some, Option.isNone_none, Option.isSome_none, Int.not_lt, Int.not_le, beq_iff_eq, beq_eq_false_iff_ne, bne_iff_ne, ne_eq, Bool.not_not, Decidable.not_not] at h181
              refine JO.pur rfl rfl rfl (Pur.move rfl) ?_
              refine JO.pur rfl rfl rfl (Pur.move rfl) ?_
              refine JO.pur rfl rfl rfl (Pur.lss rfl rfl) ?_
              refine JO.pur rfl rfl rfl (Pur.pickT rfl rfl) ?_
              refine JO.nil ?_
              refine J.splitB 185 rfl (fun h185 => ?_) (fun h185 => ?_)
              · try simp only [decide_eq_true_eq, decide_eq_false_iff_not, Bool.not_eq_true', Bool.not_eq_false', Bool.and_eq_true, Bool.or_eq_true, Bool.and_eq_false_iff, Bool.or_eq_false_iff, Option.isNone_some, Option.isSome_some, Option.isNone_none, Option.isSome_none, Int.not_lt, Int.not_le, beq_iff_eq, beq_eq_false_iff_ne, bne_iff_ne, ne_eq, Bool.not_not, Decidable.not_not] at h185
                refine J.condT rfl rfl ?_
                refine J.region rfl ?_
                refine JO.pur rfl rfl rfl (Pur.move rfl) ?_
                refine JO.pur rfl rfl rfl (Pur.move rfl) ?_
                refine JO.pur rfl rfl rfl (Pur.move rfl) ?_
                refine JO.pur rfl rfl rfl (Pur.move rfl) ?_
                refine JO.pur rfl rfl rfl (Pur.move rfl) ?_
                refine JO.eff rfl rfl rfl (Eff.call rfl (rotate_ok (P := P ++ U1) (U := U2) (V := V1) (S := V2 ++ S) (by rw [hsU, hsV]; simp) rfl (by rw [List.length_append]; omega) (by rw [List.length_append]; omega) (by rw [List.length_append]; omega) (by omega) (by omega) (by omega))) ?_
                rintro _ _ ⟨rfl, rfl⟩
                refine JO.nil ?_
                exact J.weaken (.cons rfl rfl (.cons rfl rfl (.cons rfl rfl (.cons rfl rfl (.cons rfl rfl (.cons rfl rfl (.cons rfl rfl .nil))))))) (fun h s => by rw [← List.append_assoc] at s; exact SubC.out h s) (cuta39 () trivial)
              · try simp only [decide_eq_true_eq, decide_eq_false_iff_not, Bool.not_eq_true', Bool.not_eq_false', Bool.and_eq_true, Bool.or_eq_true, Bool.and_eq_false_iff, Bool.or_eq_false_iff, Option.isNone_some, Option.isSome_some, Option.isNone_none, Option.isSome_none, Int.not_lt, Int.not_le, beq_iff_eq, beq_eq_false_iff_ne, bne_iff_ne, ne_eq, Bool.not_not, Decidable.not_not] at h185
                have hfe : P ++ U ++ V ++ S = P ++ U1 ++ V1 ++ U2 ++ V2 ++ S := by
                  have e0 : U2 = [] ∨ V1 = [] := by
                    first
                    | exact .inl (List.eq_nil_of_length_eq_zero (by omega))
                    | exact .inr (List.eq_nil_of_length_eq_zero (by omega))
                  rw [hsU, hsV]
                  rcases e0 with e0 | e0 <;> rw [e0] <;> simp
                refine J.condF rfl rfl ?_
                refine J.skip rfl ?_
                exact J.weaken (.cons rfl rfl (.cons rfl rfl (.cons rfl rfl (.cons rfl rfl (.cons rfl rfl (.cons rfl rfl (.cons rfl rfl .nil))))))) (fun h s => by rw [hfe] at s; exact SubC.out h s) (cuta39 () trivial)
            · try simp only [decide_eq_true_eq, decide_eq_false_iff_not, Bool.not_eq_true', Bool.not_eq_false', Bool.and_eq_true, Bool.or_eq_true, Bool.and_eq_false_iff, Bool.or_eq_false_iff, Option.isNone_some, Option.isSome_some, Option.isNone_none, Option.isSome_none, Int.not_lt, Int.not_le, beq_iff_eq, beq_eq_false_iff_ne, bne_iff_ne, ne_eq, Bool.not_not, Decidable.not_not] at h181
              have hfe : P ++ U ++ V ++ S = P ++ U1 ++ V1 ++ U2 ++ V2 ++ S := by
                have e0 : U2 = [] ∨ V1 = [] := by
                  first
                  | exact .inl (List.eq_nil_of_length_eq_zero (by omega))
                  | exact .inr (List.eq_nil_of_length_eq_zero (by omega))
                rw [hsU, hsV]
                rcases e0 with e0 | e0 <;> rw [e0] <;> simp
              refine JO.no rfl rfl rfl ?_
              refine JO.no rfl rfl rfl ?_
              refine JO.no rfl rfl rfl ?_
              refine JO.pur rfl rfl rfl (Pur.pickF rfl rfl) ?_
              refine JO.nil ?_
              refine J.condF rfl rfl ?_
              refine J.skip rfl ?_
              exact J.weaken (.cons rfl rfl (.cons rfl rfl (.cons rfl rfl (.cons rfl rfl (.cons rfl rfl (.cons rfl rfl (.cons rfl rfl .nil))))))) (fun h s => by rw [hfe] at s; exact SubC.out h s) (cuta39 () trivial)
      · intro cuta27
        refine J.region rfl ?_
        refine JO.pur rfl rfl rfl (Pur.move rfl) ?_
        refine JO.pur rfl rfl rfl (Pur.move rfl) ?_
        refine JO.pur rfl rfl rfl (Pur.gtr rfl rfl) ?_
        refine JO.nil ?_
        refine J.splitB 140 rfl (fun h140 => ?_) (fun h140 => ?_)
        · try simp only [decide_eq_true_eq, decide_eq_false_iff_not, Bool.not_eq_true', Bool.not_eq_false', Bool.and_eq_true, Bool.or_eq_true, Bool.and_eq_false_iff, Bool.or_eq_false_iff, Option.isNone_some, Option.isSome_some, Option.isNone_none, Option.isSome_none, Int.not_lt, Int.not_le, beq_iff_eq, beq_eq_false_iff_ne, bne_iff_ne, ne_eq, Bool.not_not, Decidable.not_not] at h140
          refine J.condT rfl rfl ?_
          refine J.seq rfl ?_
          refine J.region rfl ?_
          refine JO.pur rfl rfl rfl (Pur.move rfl) ?_
          refine JO.pur rfl rfl rfl (Pur.move rfl) ?_
          refine JO.pur rfl rfl rfl (Pur.sub rfl rfl (wr64 (by omega))) ?_
          refine JO.pur rfl rfl rfl (Pur.assign rfl) ?_
          refine JO.nil ?_
          refine J.region rfl ?_
          refine JO.pur rfl rfl rfl (Pur.move rfl) ?_
          refine JO.pur rfl rfl rfl (Pur.assign rfl) ?_
          refine JO.nil ?_
          exact J.weaken (.cons rfl (congrArg (Value.int .i64) (by dsimp only; omega)) (.cons rfl (congrArg (Value.int .i64) (by first | rfl | (dsimp only; omega))) (.cons rfl rfl (.cons rfl rfl (.cons rfl rfl (.cons rfl rfl (.cons rfl rfl (.cons rfl rfl (.cons rfl rfl .nil))))))))) (by first | exact fun _ h => h | exact SubC.out | (dsimp only; exact SubC.out)) (cuta27 (nn - (P.length + U.length + V.length), md) ⟨by dsimp only; omega, by dsimp only; omega, by dsimp only; omega, by dsimp only; omega, by dsimp only; omega, .inr (by dsimp only; omega), .inr (by dsimp only; omega)⟩)
        · try simp only [decide_eq_true_eq, decide_eq_false_iff_not, Bool.not_eq_true', Bool.not_eq_false', Bool.and_eq_true, Bool.or_eq_true, Bool.and_eq_false_iff, Bool.or_eq_false_iff, Option.isNone_some, Option.isSome_some, Option.isNone_none, Option.isSome_none, Int.not_lt, Int.not_le, beq_iff_eq, beq_eq_false_iff_ne, bne_iff_ne, ne_eq, Bool.not_not, Decidable.not_not] at h140
          refine J.condF rfl rfl ?_
          refine J.seq rfl ?_
          refine J.region rfl ?_
          refine JO.pur rfl rfl rfl (Pur.move rfl) ?_
          refine JO.pur rfl rfl rfl (Pur.assign rfl) ?_
          refine JO.nil ?_
          refine J.region rfl ?_
          refine JO.pur rfl rfl rfl (Pur.move rfl) ?_
          refine JO.pur rfl rfl rfl (Pur.assign rfl) ?_
          refine JO.nil ?_
          exact J.weaken (.cons rfl (congrArg (Value.int .i64) (by first | rfl | (dsimp only; omega))) (.cons rfl (congrArg (Value.int .i64) (by first | rfl | (dsimp only; omega))) (.cons rfl rfl (.cons rfl rfl (.cons rfl rfl (.cons rfl rfl (.cons rfl rfl (.cons rfl rfl (.cons rfl rfl .nil))))))))) (by first | exact fun _ h => h | exact SubC.out | (dsimp only; exact SubC.out)) (cuta27 (P.length, (P.length + U.length)) ⟨by dsimp only; omega, by dsimp only; omega, by dsimp only; omega, by dsimp only; omega, by dsimp only; omega, .inl rfl, .inl rfl⟩)

end Go.Proofs.Ytnhippfllgnngaa
