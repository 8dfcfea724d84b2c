/-
  A part of the proof of the claim that this folder bears.
-/
import Derived.Test.YtnhippfllgnngaaPAE
import Derived.Test.YtnhippfllgnngaaPAD
/- The text SM1. -/
set_option linter.unusedVariables false
set_option linter.unusedSimpArgs false
set_option maxRecDepth 10000
namespace Go.Proofs.Ytnhippfllgnngaa
open Go Go.KK Dm

def enE : Enc (Int × Hdr) := ⟨113, 2, fun p => [.int .i64 p.1, .slice p.2.a p.2.n p.2.cap], fun _ => rfl, fun s v h => by
  simp only [List.mem_cons, List.not_mem_nil, or_false] at h; rcases h with rfl | rfl <;> rfl⟩
def enK (p : Int × Hdr) : Int := p.1
abbrev enV (p : Int × Hdr) : Value := .agg #[.int .i64 p.1, .slice p.2.a p.2.n p.2.cap]
theorem cmpZ_lt {a b : Int} : cmpZ a b < 0 ↔ a < b := by unfold cmpZ; split; simp [*]; split <;> simp [*]
theorem ent_cl {L : List Asn} {x y : Int × Hdr} :
    CallS Try.prog 160 [enV x, enV y].toArray L (fun v M => v = .int .i64 (cmpZ (enK x) (enK y)) ∧ M = L) := by
  refine CallS.ent ?_
  refine CallS.enter Try.func160 rfl rfl rfl rfl rfl ?_
  refine J.seq rfl ?_
  refine J.region rfl ?_
  refine JO.eff rfl rfl rfl (Eff.box (cs := [_, _]) rfl rfl) ?_
  rintro _ _ ⟨b2, rfl, rfl⟩
  refine JO.eff rfl rfl rfl (Eff.box (cs := [_, _]) rfl rfl) ?_
  rintro _ _ ⟨b3, rfl, rfl⟩
  refine JO.pur rfl rfl rfl (Pur.assign rfl) ?_
  refine JO.nil ?_
  refine J.seq rfl ?_
  refine J.region rfl ?_
  refine JO.pur rfl rfl rfl (Pur.fieldAddr rfl) ?_
  refine JO.pur rfl rfl rfl (Pur.load rfl (CellIn.blk rfl)) ?_
  refine JO.pur rfl rfl rfl (Pur.fieldAddr rfl) ?_
  refine JO.pur rfl rfl rfl (Pur.load rfl (CellIn.blk rfl)) ?_
  refine JO.effR rfl rfl rfl (Eff.call rfl (cmp_ok)) ?_
  refine JO.pur rfl rfl rfl (Pur.assign rfl) ?_
  refine JO.nil ?_
  refine J.ret rfl rfl ?_
  refine ⟨_, _, ⟨rfl, rfl⟩, rfl, SubC.out⟩

theorem swapR_ok {L : List Asn} {ad : Option Addr} {n cap : Nat} {es : List (Int × Hdr)} {P A C B S : List (Int × Hdr)} {a b m : Int} (hx : es = P ++ A ++ C ++ B ++ S) (hAB : A.length = B.length) (hn : n = es.length) (ha : a = (P.length : Int)) (hb : b = ((P.length + A.length + C.length : Nat) : Int)) (hm : m = (A.length : Int)) (hes : es.length ≤ 1000000) :
    CallS Try.prog 210 [.slice ad n cap, .int .i64 a, .int .i64 b, .int .i64 m, (.func (.func 160) #[] #[])].toArray (sl enE ad cap (es) :: L) (fun v M => v = .tuple #[] ∧ M = sl enE ad cap (P ++ B ++ C ++ A ++ S) :: L) := by
  subst ha
  subst hb
  subst hm
  subst hn
  have hlen : es.length = P.length + A.length + C.length + B.length + S.length := by rw [hx]; simp only [List.length_append]
  subst hx
  refine CallS.ent ?_
  refine CallS.enter Try.func210 rfl rfl rfl rfl rfl ?_
  refine J.seq rfl ?_
  refine J.region rfl ?_
  refine JO.pur rfl rfl rfl (Pur.assign rfl) ?_
  refine JO.nil ?_
  refine J.block rfl ?_
  refine J.loopF (ι := Nat) (fun q => q ≤ A.length) (fun q => [(10, .int .i64 (q : Int))]) [(0, _), (1, _), (2, _), (3, _)] (fun q => sl enE ad cap (swpd P A C B S q) :: L) (fun q => A.length - q) 0 rfl (.cons rfl rfl (.cons rfl rfl (.cons rfl rfl (.cons rfl rfl .nil)))) (.cons rfl rfl .nil) (fun h s => by rw [swpd_zero]; exact SubC.out h s) (Nat.zero_le _) ?_
  rintro q hq ihq
  try dsimp only
  have hsl := swpd_len (P := P) (M := C) (S := S) hAB q
  refine J.seq rfl ?_
  refine J.seq rfl ?_
  refine J.region rfl ?_
  refine JO.pur rfl rfl rfl (Pur.move rfl) ?_
  refine JO.pur rfl rfl rfl (Pur.move rfl) ?_
  refine JO.pur rfl rfl rfl (Pur.lss rfl rfl) ?_
  refine JO.nil ?_
  refine J.splitB 13 rfl (fun h13 => ?_) (fun h13 => ?_)
  · try simp only [decide_eq_true_eq, decide_eq_false_iff_not, Bool.not_eq_true', Bool.not_eq_false', Bool.and_eq_true, Bool.or_eq_true, Bool.and_eq_false_iff, Bool.or_eq_false_iff, Option.isNone_some, Option.isSome_some, Option.isNone_none, Option.isSome_none, Int.not_lt, Int.not_le, beq_iff_eq, beq_eq_false_iff_ne, bne_iff_ne, ne_eq, Bool.not_not, Decidable.not_not] at h13
    have hql : q < A.length := by omega
    obtain ⟨u, v, hu, hv, hst⟩ := swpd_step (P := P) (M := C) (S := S) hAB hql
    refine J.condT rfl rfl ?_
    refine J.skip rfl ?_
    refine J.seq rfl ?_
    refine J.block rfl ?_
    refine J.mask0 (n := 24) [21, 23] rfl Try.mixed rfl (by kernel_rfl) ?_
    refine JM.take 0 (fun _ h => h) rfl (by kernel_rfl) rfl rfl rfl (m' := 1) rfl (Pur.move rfl) ?_
    refine JM.take 1 (fun _ h => h) rfl (by kernel_rfl) rfl rfl rfl (m' := 3) rfl (Pur.move rfl) ?_
    refine JM.take 2 (fun _ h => h) rfl (by kernel_rfl) rfl rfl rfl (m' := 7) rfl (Pur.move rfl) ?_
    refine JM.take 3 (fun _ h => h) rfl (by kernel_rfl) rfl rfl rfl (m' := 15) rfl (Pur.add rfl rfl (wr64 (by omega))) ?_
    refine JM.takeF 4 (.inr (fun _ h => h)) rfl (by kernel_rfl) rfl rfl rfl (m' := 31) rfl (Pur.move rfl) ?_
    refine JM.takeF 5 (.inr (fun _ h => h)) rfl (by kernel_rfl) rfl rfl rfl (m' := 63) rfl (Pur.move rfl) ?_
    refine JM.takeF 6 (.inr (fun _ h => h)) rfl (by kernel_rfl) rfl rfl rfl (m' := 127) rfl (Pur.move rfl) ?_
    refine JM.takeF 7 (.inr (fun _ h => h)) rfl (by kernel_rfl) rfl rfl rfl (m' := 255) rfl (Pur.add rfl rfl (wr64 (by omega))) ?_
    refine JM.take 8 (fun _ h => h) rfl (by kernel_rfl) rfl rfl rfl (m' := 511) rfl (Pur.move rfl) ?_
    refine JM.take 9 (fun _ h => h) rfl (by kernel_rfl) rfl rfl rfl (m' := 1023) rfl (Pur.move rfl) ?_
    refine JM.take 10 (fun _ h => h) rfl (by kernel_rfl) rfl rfl rfl (m' := 2047) rfl (Pur.move rfl) ?_
    refine JM.take 11 (fun _ h => h) rfl (by kernel_rfl) rfl rfl rfl (m' := 4095) rfl (Pur.add rfl rfl (wr64 (by omega))) ?_
    refine JM.take 12 (fun _ h => h) rfl (by kernel_rfl) rfl rfl rfl (m' := 8191) rfl (Pur.idx rfl rfl rfl (by first | rfl | (simp; done) | omega | (rw [List.length_set]; omega)) (show ((P.length + A.length + C.length : Nat) : Int) + (q : Int) = ((P.length + A.length + C.length + q : Nat) : Int) from rfl) (by omega)) ?_
    refine JM.take 13 (fun _ h => h) rfl (by kernel_rfl) rfl rfl rfl (m' := 16383) rfl (Pur.loadA rfl rfl rfl (CellsIn.el rfl hv)) ?_
    refine JM.setv (u' := enV v) 29 rfl rfl ?_
    refine JM.take 14 (fun _ h => h) rfl (by kernel_rfl) rfl rfl rfl (m' := 32767) rfl (Pur.move rfl) ?_
    refine JM.take 15 (fun _ h => h) rfl (by kernel_rfl) rfl rfl rfl (m' := 65535) rfl (Pur.move rfl) ?_
    refine JM.take 16 (fun _ h => h) rfl (by kernel_rfl) rfl rfl rfl (m' := 131071) rfl (Pur.move rfl) ?_
    refine JM.take 17 (fun _ h => h) rfl (by kernel_rfl) rfl rfl rfl (m' := 262143) rfl (Pur.add rfl rfl (wr64 (by omega))) ?_
    refine JM.take 18 (fun _ h => h) rfl (by kernel_rfl) rfl rfl rfl (m' := 524287) rfl (Pur.idx rfl rfl rfl (by first | rfl | (simp; done) | omega | (rw [List.length_set]; omega)) (show (P.length : Int) + (q : Int) = ((P.length + q : Nat) : Int) from rfl) (by omega)) ?_
    refine JM.take 19 (fun _ h => h) rfl (by kernel_rfl) rfl rfl rfl (m' := 1048575) rfl (Pur.loadA rfl rfl rfl (CellsIn.el rfl hu)) ?_
    refine JM.setv (u' := enV u) 35 rfl rfl ?_
    refine JM.take 20 (fun _ h => h) rfl (by kernel_rfl) rfl rfl rfl (m' := 2097151) rfl (Pur.idx rfl rfl rfl (by first | rfl | (simp; done) | omega | (rw [List.length_set]; omega)) (show (P.length : Int) + (q : Int) = ((P.length + q : Nat) : Int) from rfl) (by omega)) ?_
    refine JM.one (i := 21) (by kernel_rfl) ?_
    refine JMi.effN rfl rfl rfl (m' := 4194303) rfl (Eff.storeSA (z' := v) rfl rfl rfl rfl (by omega) rfl) ?_
    rintro _ _ ⟨rfl, rfl⟩
    refine ⟨.inl (by simp), ?_⟩
    refine JM.one (i := 22) (by kernel_rfl) ?_
    refine JMi.eff rfl rfl rfl rfl (m' := 8388607) rfl (Pur.eff (Pur.idx rfl rfl rfl (by first | rfl | (simp; done) | omega | (rw [List.length_set]; omega)) (show ((P.length + A.length + C.length : Nat) : Int) + (q : Int) = ((P.length + A.length + C.length + q : Nat) : Int) from rfl) (by first | omega | (rw [List.length_set]; omega)))) ?_
    rintro _ _ ⟨rfl, rfl⟩
    refine ⟨.inl (.inr (by kernel_rfl)), ?_⟩
    refine JM.one (i := 23) (by kernel_rfl) ?_
    refine JMi.effN rfl rfl rfl (m' := 16777215) rfl (Eff.storeSA (z' := u) rfl rfl rfl rfl (by first | omega | (rw [List.length_set]; omega)) rfl) ?_
    rintro _ _ ⟨rfl, rfl⟩
    refine ⟨.inl (by simp), ?_⟩
    refine JM.done rfl ?_
    refine J.inBlock ?_
    refine J.region rfl ?_
    refine JO.pur rfl rfl rfl (Pur.move rfl) ?_
    refine JO.pur rfl rfl rfl (Pur.add rfl rfl (wr64 (by omega))) ?_
    refine JO.pur rfl rfl rfl (Pur.assign rfl) ?_
    refine JO.nil ?_
    exact J.weaken (.cons rfl (congrArg (Value.int .i64) (by first | rfl | (dsimp only; omega))) (.cons rfl rfl (.cons rfl rfl (.cons rfl rfl (.cons rfl rfl .nil))))) (fun h s => by rw [hst] at s; exact SubC.out h s) (ihq (q + 1) (by omega) (by omega))
  · try simp only [decide_eq_true_eq, decide_eq_false_iff_not, Bool.not_eq_true', Bool.not_eq_false', Bool.and_eq_true, Bool.or_eq_true, Bool.and_eq_false_iff, Bool.or_eq_false_iff, Option.isNone_some, Option.isSome_some, Option.isNone_none, Option.isSome_none, Int.not_lt, Int.not_le, beq_iff_eq, beq_eq_false_iff_ne, bne_iff_ne, ne_eq, Bool.not_not, Decidable.not_not] at h13
    have hqe : q = A.length := by omega
    refine J.condF rfl rfl ?_
    refine J.exit rfl rfl ?_
    refine J.fin rfl ?_
    refine ⟨_, _, ⟨rfl, rfl⟩, rfl, fun h s => ?_⟩
    rw [hqe, swpd_end rfl hAB.symm] at s
    exact SubC.out h s

theorem rotate_ok {L : List Asn} {ad : Option Addr} {n cap : Nat} {es : List (Int × Hdr)} {P U V S : List (Int × Hdr)} {a m b : Int} (hx : es = P ++ U ++ V ++ S) (hn : n = es.length) (ha : a = (P.length : Int)) (hm : m = ((P.length + U.length : Nat) : Int)) (hb : b = ((P.length + U.length + V.length : Nat) : Int)) (hU : 0 < U.length) (hV : 0 < V.length) (hes : es.length ≤ 1000000) :
    CallS Try.prog 208 [.slice ad n cap, .int .i64 a, .int .i64 m, .int .i64 b, (.func (.func 160) #[] #[])].toArray (sl enE ad cap (es) :: L) (fun v M => v = .tuple #[] ∧ M = sl enE ad cap (P ++ V ++ U ++ S) :: L) := by
  subst ha
  subst hb
  subst hm
  subst hn
  have hlen : es.length = P.length + U.length + V.length + S.length := by rw [hx]; simp only [List.length_append]
  subst hx
  refine CallS.ent ?_
  refine CallS.enter Try.func208 rfl rfl rfl rfl rfl ?_
  refine J.seq rfl ?_
  refine J.region rfl ?_
  refine JO.pur rfl rfl rfl (Pur.move rfl) ?_
  refine JO.pur rfl rfl rfl (Pur.move rfl) ?_
  refine JO.pur rfl rfl rfl (Pur.sub rfl rfl (wr64 (by omega))) ?_
  refine JO.pur rfl rfl rfl (Pur.assign rfl) ?_
  refine JO.nil ?_
  refine J.seq rfl ?_
  refine J.region rfl ?_
  refine JO.pur rfl rfl rfl (Pur.move rfl) ?_
  refine JO.pur rfl rfl rfl (Pur.move rfl) ?_
  refine JO.pur rfl rfl rfl (Pur.sub rfl rfl (wr64 (by omega))) ?_
  refine JO.pur rfl rfl rfl (Pur.assign rfl) ?_
  refine JO.nil ?_
  refine J.seq rfl ?_
  refine J.block rfl ?_
  refine J.loopF (ι := List (Int × Hdr) × List (Int × Hdr) × List (Int × Hdr) × List (Int × Hdr)) (fun q => q.1.length + q.2.1.length = P.length + U.length ∧ q.1 ++ q.2.2.1 ++ q.2.1 ++ q.2.2.2 = P ++ V ++ U ++ S ∧ 0 < q.2.1.length ∧ 0 < q.2.2.1.length) (fun q => [(10, .int .i64 (q.2.1.length : Int)), (11, .int .i64 (q.2.2.1.length : Int))]) [(0, _), (2, _), (4, _)] (fun q => sl enE ad cap (q.1 ++ q.2.1 ++ q.2.2.1 ++ q.2.2.2) :: L) (fun q => q.2.1.length + q.2.2.1.length) (P, U, V, S) rfl (.cons rfl rfl (.cons rfl rfl (.cons rfl rfl .nil))) (.cons rfl (congrArg (Value.int .i64) (by dsimp only; omega)) (.cons rfl (congrArg (Value.int .i64) (by dsimp only; omega)) .nil)) (by first | exact fun _ h => h | exact SubC.out | (dsimp only; exact SubC.out)) ⟨rfl, rfl, hU, hV⟩ ?_
  rintro ⟨P1, U1, V1, S1⟩ ⟨hm1, he1, hu1, hv1⟩ ih0
  try dsimp only
  dsimp only at hm1 he1 hu1 hv1
  have hle := congrArg List.length he1
  simp only [List.length_append] at hle
  refine J.seq rfl ?_
  refine J.seq rfl ?_
  refine J.region rfl ?_
  refine JO.pur rfl rfl rfl (Pur.move rfl) ?_
  refine JO.pur rfl rfl rfl (Pur.move rfl) ?_
  refine JO.pur rfl rfl rfl (Pur.neqI rfl rfl) ?_
  refine JO.nil ?_
  refine J.splitB 20 rfl (fun h20 => ?_) (fun h20 => ?_)
  · try simp only [decide_eq_true_eq, decide_eq_false_iff_not, Bool.not_eq_true', Bool.not_eq_false', Bool.and_eq_true, Bool.or_eq_true, Bool.and_eq_false_iff, Bool.or_eq_false_iff, Option.isNone_some, Option.isSome_some, Option.isNone_none, Option.isSome_none, Int.not_lt, Int.not_le, beq_iff_eq, beq_eq_false_iff_ne, bne_iff_ne, ne_eq, Bool.not_not, Decidable.not_not] at h20
    refine J.condT rfl rfl ?_
    refine J.skip rfl ?_
    refine J.block rfl ?_
    refine J.seq rfl ?_
    refine J.region rfl ?_
    refine JO.pur rfl rfl rfl (Pur.move rfl) ?_
    refine JO.pur rfl rfl rfl (Pur.move rfl) ?_
    refine JO.pur rfl rfl rfl (Pur.gtr rfl rfl) ?_
    refine JO.nil ?_
    refine J.splitB 23 rfl (fun h23 => ?_) (fun h23 => ?_)
    · try simp only [decide_eq_true_eq, decide_eq_false_iff_not, Bool.not_eq_true', Bool.not_eq_false', Bool.and_eq_true, Bool.or_eq_true, Bool.and_eq_false_iff, Bool.or_eq_false_iff, Option.isNone_some, Option.isSome_some, Option.isNone_none, Option.isSome_none, Int.not_lt, Int.not_le, beq_iff_eq, beq_eq_false_iff_ne, bne_iff_ne, ne_eq, Bool.not_not, Decidable.not_not] at h23
      obtain ⟨U2, U3, hsp, hU2⟩ := split_len (l := U1) (j := V1.length) (by omega)
      have hul : U1.length = U2.length + U3.length := by rw [hsp, List.length_append]
      refine J.condT rfl rfl ?_
      refine J.seq rfl ?_
      refine J.region rfl ?_
      refine JO.pur rfl rfl rfl (Pur.move rfl) ?_
      refine JO.pur rfl rfl rfl (Pur.move rfl) ?_
      refine JO.pur rfl rfl rfl (Pur.move rfl) ?_
      refine JO.pur rfl rfl rfl (Pur.sub rfl rfl (wr64 (by omega))) ?_
      refine JO.pur rfl rfl rfl (Pur.move rfl) ?_
      refine JO.pur rfl rfl rfl (Pur.move rfl) ?_
      refine JO.pur rfl rfl rfl (Pur.move rfl) ?_
      refine JO.eff rfl rfl rfl (Eff.call rfl (swapR_ok (P := P1) (A := U2) (C := U3) (B := V1) (S := S1) (by rw [hsp]; simp) hU2 (by simp only [List.length_append]; omega) (by omega) (by omega) (by omega) (by simp only [List.length_append]; omega))) ?_
      rintro _ _ ⟨rfl, rfl⟩
      refine JO.nil ?_
      refine J.region rfl ?_
      refine JO.pur rfl rfl rfl (Pur.move rfl) ?_
      refine JO.pur rfl rfl rfl (Pur.move rfl) ?_
      refine JO.pur rfl rfl rfl (Pur.sub rfl rfl (wr64 (by omega))) ?_
      refine JO.pur rfl rfl rfl (Pur.assign rfl) ?_
      refine JO.nil ?_
      refine J.inBlock ?_
      exact J.weaken (.cons rfl (congrArg (Value.int .i64) (by dsimp only; omega)) (.cons rfl (congrArg (Value.int .i64) (by dsimp only; omega)) (.cons rfl rfl (.cons rfl rfl (.cons rfl rfl .nil))))) (by first | exact fun _ h => h | exact SubC.out | (dsimp only; exact SubC.out)) (ih0 (P1 ++ V1, U3, U2, S1) ⟨by simp only [List.length_append]; omega, by rw [← he1, hsp]; simp, by dsimp only; omega, by dsimp only; omega⟩ (by dsimp only; omega))
    · try simp only [decide_eq_true_eq, decide_eq_false_iff_not, Bool.not_eq_true', Bool.not_eq_false', Bool.and_eq_true, Bool.or_eq_true, Bool.and_eq_false_iff, Bool.or_eq_false_iff, Option.isNone_some, Option.isSome_some, Option.isNone_none, Option.isSome_none, Int.not_lt, Int.not_le, beq_iff_eq, beq_eq_false_iff_ne, bne_iff_ne, ne_eq, Bool.not_not, Decidable.not_not] at h23
      obtain ⟨V2, V3, hsp, hV2⟩ := split_len (l := V1) (j := V1.length - U1.length) (by omega)
      have hvl : V1.length = V2.length + V3.length := by rw [hsp, List.length_append]
      refine J.condF rfl rfl ?_
      refine J.seq rfl ?_
      refine J.region rfl ?_
      refine JO.pur rfl rfl rfl (Pur.move rfl) ?_
      refine JO.pur rfl rfl rfl (Pur.move rfl) ?_
      refine JO.pur rfl rfl rfl (Pur.move rfl) ?_
      refine JO.pur rfl rfl rfl (Pur.sub rfl rfl (wr64 (by omega))) ?_
      refine JO.pur rfl rfl rfl (Pur.move rfl) ?_
      refine JO.pur rfl rfl rfl (Pur.move rfl) ?_
      refine JO.pur rfl rfl rfl (Pur.add rfl rfl (wr64 (by omega))) ?_
      refine JO.pur rfl rfl rfl (Pur.move rfl) ?_
      refine JO.pur rfl rfl rfl (Pur.sub rfl rfl (wr64 (by omega))) ?_
      refine JO.pur rfl rfl rfl (Pur.move rfl) ?_
      refine JO.pur rfl rfl rfl (Pur.move rfl) ?_
      refine JO.eff rfl rfl rfl (Eff.call rfl (swapR_ok (P := P1) (A := U1) (C := V2) (B := V3) (S := S1) (by rw [hsp]; simp) (by omega) (by simp only [List.length_append]; omega) (by omega) (by omega) (by omega) (by simp only [List.length_append]; omega))) ?_
      rintro _ _ ⟨rfl, rfl⟩
      refine JO.nil ?_
      refine J.region rfl ?_
      refine JO.pur rfl rfl rfl (Pur.move rfl) ?_
      refine JO.pur rfl rfl rfl (Pur.move rfl) ?_
      refine JO.pur rfl rfl rfl (Pur.sub rfl rfl (wr64 (by omega))) ?_
      refine JO.pur rfl rfl rfl (Pur.assign rfl) ?_
      refine JO.nil ?_
      refine J.inBlock ?_
      exact J.weaken (.cons rfl (congrArg (Value.int .i64) (by dsimp only; omega)) (.cons rfl (congrArg (Value.int .i64) (by dsimp only; omega)) (.cons rfl rfl (.cons rfl rfl (.cons rfl rfl .nil))))) (fun h s => by dsimp only; rw [← List.append_assoc]; exact SubC.out h s) (ih0 (P1, V3, V2, U1 ++ S1) ⟨by dsimp only; omega, by rw [← he1, hsp]; simp, by dsimp only; omega, by dsimp only; omega⟩ (by dsimp only; omega))
  · try simp only [decide_eq_true_eq, decide_eq_false_iff_not, Bool.not_eq_true', Bool.not_eq_false', Bool.and_eq_true, Bool.or_eq_true, Bool.and_eq_false_iff, Bool.or_eq_false_iff, Option.isNone_some, Option.isSome_some, Option.isNone_none, Option.isSome_none, Int.not_lt, Int.not_le, beq_iff_eq, beq_eq_false_iff_ne, bne_iff_ne, ne_eq, Bool.not_not, Decidable.not_not] at h20
    have hee : U1.length = V1.length := by omega
    refine J.condF rfl rfl ?_
    refine J.exit rfl rfl ?_
    refine J.region rfl ?_
    refine JO.pur rfl rfl rfl (Pur.move rfl) ?_
    refine JO.pur rfl rfl rfl (Pur.move rfl) ?_
    refine JO.pur rfl rfl rfl (Pur.move rfl) ?_
    refine JO.pur rfl rfl rfl (Pur.sub rfl rfl (wr64 (by omega))) ?_
    refine JO.pur rfl rfl rfl (Pur.move rfl) ?_
    refine JO.pur rfl rfl rfl (Pur.move rfl) ?_
    refine JO.pur rfl rfl rfl (Pur.move rfl) ?_
    refine JO.eff rfl rfl rfl (Eff.call rfl (swapR_ok (P := P1) (A := U1) (C := []) (B := V1) (S := S1) (by simp) (by omega) (by simp only [List.length_append]; omega) (by omega) (by simp only [List.length_nil]; omega) (by omega) (by simp only [List.length_append]; omega))) ?_
    rintro _ _ ⟨rfl, rfl⟩
    refine JO.nil ?_
    refine J.fin rfl ?_
    refine ⟨_, _, ⟨rfl, rfl⟩, rfl, fun h s => ?_⟩
    rw [List.append_nil, he1] at s
    exact SubC.out h s

theorem insert_ok {L : List Asn} {ad : Option Addr} {n cap : Nat} {es : List (Int × Hdr)} {P A S : List (Int × Hdr)} {a b : Int} (hx : es = P ++ A ++ S) (hn : n = es.length) (ha : a = (P.length : Int)) (hb : b = ((P.length + A.length : Nat) : Int)) (hes : es.length ≤ 1000000) :
    CallS Try.prog 200 [.slice ad n cap, .int .i64 a, .int .i64 b, (.func (.func 160) #[] #[])].toArray (sl enE ad cap (es) :: L) (fun v M => ∃ A', v = .tuple #[] ∧ A'.Perm A ∧ srtd enK A' ∧ M = sl enE ad cap (P ++ A' ++ S) :: L) := by
  subst ha
  subst hb
  subst hn
  subst hx
  have hlen : (P ++ A ++ S).length = P.length + A.length + S.length := by simp only [List.length_append]
  refine CallS.ent ?_
  refine CallS.enter Try.func200 rfl rfl rfl rfl rfl ?_
  refine J.seq rfl ?_
  refine J.region rfl ?_
  refine JO.pur rfl rfl rfl (Pur.move rfl) ?_
  refine JO.pur rfl rfl rfl (Pur.add rfl rfl (wr64 (by omega))) ?_
  refine JO.pur rfl rfl rfl (Pur.assign rfl) ?_
  refine JO.nil ?_
  refine J.block rfl ?_
  refine J.loopF (ι := Nat × List (Int × Hdr)) (fun q => 1 ≤ q.1 ∧ q.2.Perm (A.take q.1) ∧ srtd enK q.2) (fun q => [(8, .int .i64 ((P.length + q.1 : Nat) : Int))]) [(0, _), (1, _), (2, _), (3, _)] (fun q => sl enE ad cap (P ++ q.2 ++ A.drop q.1 ++ S) :: L) (fun q => A.length + 1 - q.1) (1, A.take 1) rfl (.cons rfl rfl (.cons rfl rfl (.cons rfl rfl (.cons rfl rfl .nil)))) (.cons rfl rfl .nil) (fun h s => by dsimp only; rw [List.append_assoc P, List.take_append_drop]; exact SubC.out h s) ⟨Nat.le_refl _, List.Perm.refl _, srtd_take1 A⟩ ?_
  rintro ⟨k, A1⟩ ⟨hk, hp, hs⟩ ihk
  try dsimp only
  dsimp only at hk hp hs
  have hpl := hp.length_eq
  rw [List.length_take] at hpl
  refine J.seq rfl ?_
  refine J.seq rfl ?_
  refine J.region rfl ?_
  refine JO.pur rfl rfl rfl (Pur.move rfl) ?_
  refine JO.pur rfl rfl rfl (Pur.move rfl) ?_
  refine JO.pur rfl rfl rfl (Pur.lss rfl rfl) ?_
  refine JO.nil ?_
  refine J.splitB 14 rfl (fun h14 => ?_) (fun h14 => ?_)
  · try simp only [decide_eq_true_eq, decide_eq_false_iff_not, Bool.not_eq_true', Bool.not_eq_false', Bool.and_eq_true, Bool.or_eq_true, Bool.and_eq_false_iff, Bool.or_eq_false_iff, Option.isNone_some, Option.isSome_some, Option.isNone_none, Option.isSome_none, Int.not_lt, Int.not_le, beq_iff_eq, beq_eq_false_iff_ne, bne_iff_ne, ne_eq, Bool.not_not, Decidable.not_not] at h14
    have hkl : k < A.length := by omega
    obtain ⟨x, hX⟩ : ∃ x, A[k]? = some x := ⟨_, List.getElem?_eq_getElem hkl⟩
    have htk : A.take (k + 1) = A.take k ++ [x] := take_get hX
    have hdk : A.drop k = x :: A.drop (k + 1) := by rw [List.drop_eq_getElem_cons hkl]; rw [List.getElem?_eq_getElem hkl] at hX; rw [Option.some.inj hX]
    have hdl : (A.drop (k + 1)).length = A.length - (k + 1) := List.length_drop
    refine J.condT rfl rfl ?_
    refine J.skip rfl ?_
    refine J.seq rfl ?_
    refine J.block rfl ?_
    refine J.seq rfl ?_
    refine J.region rfl ?_
    refine JO.pur rfl rfl rfl (Pur.move rfl) ?_
    refine JO.pur rfl rfl rfl (Pur.assign rfl) ?_
    refine JO.nil ?_
    refine J.block rfl ?_
    refine J.loopF (ι := List (Int × Hdr) × List (Int × Hdr)) (fun q => (q.1 ++ q.2).Perm (A.take k) ∧ srtd enK (q.1 ++ q.2) ∧ ∀ r ∈ q.2, enK x ≤ enK r) (fun q => [(9, .int .i64 ((P.length + q.1.length : Nat) : Int))]) [(0, _), (1, _), (2, _), (3, _), (8, _)] (fun q => sl enE ad cap (P ++ q.1 ++ x :: (q.2 ++ A.drop (k + 1) ++ S)) :: L) (fun q => q.1.length) (A1, []) rfl (.cons rfl rfl (.cons rfl rfl (.cons rfl rfl (.cons rfl rfl (.cons rfl rfl .nil))))) (.cons rfl (congrArg (Value.int .i64) (by dsimp only; omega)) .nil) (fun h s => by rw [hdk] at s; dsimp only; have e : P ++ A1 ++ x :: A.drop (k + 1) ++ S = P ++ A1 ++ x :: ([] ++ A.drop (k + 1) ++ S) := (by simp); rw [e] at s; exact SubC.out h s) ⟨by simpa using hp, by simpa using hs, fun r hr => by simp at hr⟩ ?_
    rintro ⟨L1, R1⟩ ⟨hp1, hs1, hr1⟩ ihj
    try dsimp only
    dsimp only at hp1 hs1 hr1
    have hpl1 := hp1.length_eq
    rw [List.length_take, List.length_append] at hpl1
    have hll : (P ++ L1 ++ x :: (R1 ++ A.drop (k + 1) ++ S)).length = (P ++ A ++ S).length := by simp only [List.length_append, List.length_cons, hdl]; omega
    refine J.seq rfl ?_
    refine J.seq rfl ?_
    refine J.mask0 (n := 17) [] rfl Try.mixed rfl (by kernel_rfl) ?_
    refine JM.take 0 (fun _ h => h) rfl (by kernel_rfl) rfl rfl rfl (m' := 1) rfl (Pur.move rfl) ?_
    refine JM.take 1 (fun _ h => h) rfl (by kernel_rfl) rfl rfl rfl (m' := 3) rfl (Pur.move rfl) ?_
    refine JM.take 2 (fun _ h => h) rfl (by kernel_rfl) rfl rfl rfl (m' := 7) rfl (Pur.gtr rfl rfl) ?_
    refine JM.take 3 (fun _ h => h) rfl (by kernel_rfl) rfl rfl rfl (m' := 15) rfl (Pur.move rfl) ?_
    refine JM.splitB 21 rfl (fun h21 => ?_) (fun h21 => ?_)
    · try simp only [decide_eq_true_eq, decide_eq_false_iff_not, Bool.not_eq_true', Bool.not_eq_false', Bool.and_eq_true, Bool.or_eq_true, Bool.and_eq_false_iff, Bool.or_eq_false_iff, Option.isNone_some, Option.isSome_some, Option.isNone_none, Option.isSome_none, Int.not_lt, Int.not_le, beq_iff_eq, beq_eq_false_iff_ne, bne_iff_ne, ne_eq, Bool.not_not, Decidable.not_not] at h21
      rcases List.eq_nil_or_concat L1 with rfl | ⟨L2, y, rfl⟩
      · exfalso; simp only [List.length_nil] at h21; omega
      simp only [List.concat_eq_append] at *
      have hyl : (L2 ++ [y]).length = L2.length + 1 := by simp
      rw [hyl] at hpl1
      have hgx : (P ++ (L2 ++ [y]) ++ x :: (R1 ++ A.drop (k + 1) ++ S))[P.length + (L2 ++ [y]).length]? = some x := get_mid _ _ _ (by simp only [List.length_append])
      have hgy : (P ++ (L2 ++ [y]) ++ x :: (R1 ++ A.drop (k + 1) ++ S))[P.length + L2.length]? = some y := by rw [show P ++ (L2 ++ [y]) ++ x :: (R1 ++ A.drop (k + 1) ++ S) = (P ++ L2) ++ y :: (x :: (R1 ++ A.drop (k + 1) ++ S)) by simp]; exact get_mid _ _ _ (by rw [List.length_append])
      have hst : ((P ++ (L2 ++ [y]) ++ x :: (R1 ++ A.drop (k + 1) ++ S)).set (P.length + (L2 ++ [y]).length) y).set (P.length + L2.length) x = P ++ L2 ++ x :: ((y :: R1) ++ A.drop (k + 1) ++ S) := by
        rw [show P ++ (L2 ++ [y]) ++ x :: (R1 ++ A.drop (k + 1) ++ S) = (P ++ L2) ++ y :: x :: (R1 ++ A.drop (k + 1) ++ S) by simp, set_adj2 (by simp) (by simp; omega)]; simp
      have hltot : (P ++ A ++ S).length = P.length + A.length + S.length := by simp only [List.length_append]
      refine JM.take 4 (fun _ h => h) rfl (by kernel_rfl) rfl rfl rfl (m' := 31) rfl (Pur.move rfl) ?_
      refine JM.take 5 (fun _ h => h) rfl (by kernel_rfl) rfl rfl rfl (m' := 63) rfl (Pur.move rfl) ?_
      refine JM.take 6 (fun _ h => h) rfl (by kernel_rfl) rfl rfl rfl (m' := 127) rfl (Pur.move rfl) ?_
      refine JM.take 7 (fun _ h => h) rfl (by kernel_rfl) rfl rfl rfl (m' := 255) rfl (Pur.idx rfl rfl rfl (by first | rfl | (simp; done) | omega | (rw [List.length_set]; omega)) rfl (by omega)) ?_
      refine JM.take 8 (fun _ h => h) rfl (by kernel_rfl) rfl rfl rfl (m' := 511) rfl (Pur.loadA rfl rfl rfl (CellsIn.el rfl hgx)) ?_
      refine JM.setv (u' := enV x) 26 rfl rfl ?_
      refine JM.take 9 (fun _ h => h) rfl (by kernel_rfl) rfl rfl rfl (m' := 1023) rfl (Pur.move rfl) ?_
      refine JM.take 10 (fun _ h => h) rfl (by kernel_rfl) rfl rfl rfl (m' := 2047) rfl (Pur.move rfl) ?_
      refine JM.take 11 (fun _ h => h) rfl (by kernel_rfl) rfl rfl rfl (m' := 4095) rfl (Pur.sub rfl rfl (wr64 (by omega))) ?_
      refine JM.take 12 (fun _ h => h) rfl (by kernel_rfl) rfl rfl rfl (m' := 8191) rfl (Pur.idx rfl rfl rfl (by first | rfl | (simp; done) | omega | (rw [List.length_set]; omega)) (show ((P.length + (L2 ++ [y]).length : Nat) : Int) - 1 = ((P.length + L2.length : Nat) : Int) by omega) (by omega)) ?_
      refine JM.take 13 (fun _ h => h) rfl (by kernel_rfl) rfl rfl rfl (m' := 16383) rfl (Pur.loadA rfl rfl rfl (CellsIn.el rfl hgy)) ?_
      refine JM.setv (u' := enV y) 31 rfl rfl ?_
      refine JM.one (i := 14) (by kernel_rfl) ?_
      refine JMi.effR (fun _ h => h) rfl rfl rfl rfl (m' := 32767) rfl (Eff.callV rfl rfl (ent_cl (x := x) (y := y))) ?_
      refine JM.take 15 (fun _ h => h) rfl (by kernel_rfl) rfl rfl rfl (m' := 65535) rfl (Pur.lss rfl rfl) ?_
      refine JM.take 16 (fun _ h => h) rfl (by kernel_rfl) rfl rfl rfl (m' := 131071) rfl (Pur.pickT rfl rfl) ?_
      refine JM.done rfl ?_
      refine J.splitB 34 rfl (fun h34 => ?_) (fun h34 => ?_)
      · try simp only [decide_eq_true_eq, decide_eq_false_iff_not, Bool.not_eq_true', Bool.not_eq_false', Bool.and_eq_true, Bool.or_eq_true, Bool.and_eq_false_iff, Bool.or_eq_false_iff, Option.isNone_some, Option.isSome_some, Option.isNone_none, Option.isSome_none, Int.not_lt, Int.not_le, beq_iff_eq, beq_eq_false_iff_ne, bne_iff_ne, ne_eq, Bool.not_not, Decidable.not_not] at h34
        have hxy : enK x < enK y := cmpZ_lt.1 h34
        refine J.condT rfl rfl ?_
        refine J.skip rfl ?_
        refine J.seq rfl ?_
        refine J.block rfl ?_
        refine J.mask0 (n := 18) [15, 17] rfl Try.mixed rfl (by kernel_rfl) ?_
        refine JM.take 0 (fun _ h => h) rfl (by kernel_rfl) rfl rfl rfl (m' := 1) rfl (Pur.move rfl) ?_
        refine JM.take 1 (fun _ h => h) rfl (by kernel_rfl) rfl rfl rfl (m' := 3) rfl (Pur.move rfl) ?_
        refine JM.takeF 2 (.inr (fun _ h => h)) rfl (by kernel_rfl) rfl rfl rfl (m' := 7) rfl (Pur.move rfl) ?_
        refine JM.takeF 3 (.inr (fun _ h => h)) rfl (by kernel_rfl) rfl rfl rfl (m' := 15) rfl (Pur.move rfl) ?_
        refine JM.takeF 4 (.inr (fun _ h => h)) rfl (by kernel_rfl) rfl rfl rfl (m' := 31) rfl (Pur.sub rfl rfl (wr64 (by omega))) ?_
        refine JM.take 5 (fun _ h => h) rfl (by kernel_rfl) rfl rfl rfl (m' := 63) rfl (Pur.move rfl) ?_
        refine JM.take 6 (fun _ h => h) rfl (by kernel_rfl) rfl rfl rfl (m' := 127) rfl (Pur.move rfl) ?_
        refine JM.take 7 (fun _ h => h) rfl (by kernel_rfl) rfl rfl rfl (m' := 255) rfl (Pur.sub rfl rfl (wr64 (by omega))) ?_
        refine JM.take 8 (fun _ h => h) rfl (by kernel_rfl) rfl rfl rfl (m' := 511) rfl (Pur.idx rfl rfl rfl (by first | rfl | (simp; done) | omega | (rw [List.length_set]; omega)) (show ((P.length + (L2 ++ [y]).length : Nat) : Int) - 1 = ((P.length + L2.length : Nat) : Int) by omega) (by omega)) ?_
        refine JM.take 9 (fun _ h => h) rfl (by kernel_rfl) rfl rfl rfl (m' := 1023) rfl (Pur.loadA rfl rfl rfl (CellsIn.el rfl hgy)) ?_
        refine JM.setv (u' := enV y) 46 rfl rfl ?_
        refine JM.take 10 (fun _ h => h) rfl (by kernel_rfl) rfl rfl rfl (m' := 2047) rfl (Pur.move rfl) ?_
        refine JM.take 11 (fun _ h => h) rfl (by kernel_rfl) rfl rfl rfl (m' := 4095) rfl (Pur.move rfl) ?_
        refine JM.take 12 (fun _ h => h) rfl (by kernel_rfl) rfl rfl rfl (m' := 8191) rfl (Pur.idx rfl rfl rfl (by first | rfl | (simp; done) | omega | (rw [List.length_set]; omega)) rfl (by omega)) ?_
        refine JM.take 13 (fun _ h => h) rfl (by kernel_rfl) rfl rfl rfl (m' := 16383) rfl (Pur.loadA rfl rfl rfl (CellsIn.el rfl hgx)) ?_
        refine JM.setv (u' := enV x) 50 rfl rfl ?_
        refine JM.take 14 (fun _ h => h) rfl (by kernel_rfl) rfl rfl rfl (m' := 32767) rfl (Pur.idx rfl rfl rfl (by first | rfl | (simp; done) | omega | (rw [List.length_set]; omega)) rfl (by omega)) ?_
        refine JM.one (i := 15) (by kernel_rfl) ?_
        refine JMi.effN rfl rfl rfl (m' := 65535) rfl (Eff.storeSA (z' := y) rfl rfl rfl rfl (by omega) rfl) ?_
        rintro _ _ ⟨rfl, rfl⟩
        refine ⟨.inl (by simp), ?_⟩
        refine JM.one (i := 16) (by kernel_rfl) ?_
        refine JMi.eff rfl rfl rfl rfl (m' := 131071) rfl (Pur.eff (Pur.idx rfl rfl rfl (by first | rfl | (simp; done) | omega | (rw [List.length_set]; omega)) (show ((P.length + (L2 ++ [y]).length : Nat) : Int) - 1 = ((P.length + L2.length : Nat) : Int) by omega) (by first | omega | (rw [List.length_set]; omega)))) ?_
        rintro _ _ ⟨rfl, rfl⟩
        refine ⟨.inl (.inr (by kernel_rfl)), ?_⟩
        refine JM.one (i := 17) (by kernel_rfl) ?_
        refine JMi.effN rfl rfl rfl (m' := 262143) rfl (Eff.storeSA (z' := x) rfl rfl rfl rfl (by first | omega | (rw [List.length_set]; omega)) rfl) ?_
        rintro _ _ ⟨rfl, rfl⟩
        refine ⟨.inl (by simp), ?_⟩
        refine JM.done rfl ?_
        refine J.inBlock ?_
        refine J.region rfl ?_
        refine JO.pur rfl rfl rfl (Pur.move rfl) ?_
        refine JO.pur rfl rfl rfl (Pur.sub rfl rfl (wr64 (by omega))) ?_
        refine JO.pur rfl rfl rfl (Pur.assign rfl) ?_
        refine JO.nil ?_
        exact J.weaken (.cons rfl (congrArg (Value.int .i64) (by simp; omega)) (.cons rfl rfl (.cons rfl rfl (.cons rfl rfl (.cons rfl rfl (.cons rfl rfl .nil)))))) (fun h s => by dsimp only; rw [hst] at s; exact SubC.out h s) (ihj (L2, y :: R1) ⟨by simpa using hp1, by simpa using hs1, fun r hr => by rcases List.mem_cons.1 hr with rfl | hr; exact Int.le_of_lt hxy; exact hr1 r hr⟩ (by simp))
      · try simp only [decide_eq_true_eq, decide_eq_false_iff_not, Bool.not_eq_true', Bool.not_eq_false', Bool.and_eq_true, Bool.or_eq_true, Bool.and_eq_false_iff, Bool.or_eq_false_iff, Option.isNone_some, Option.isSome_some, Option.isNone_none, Option.isSome_none, Int.not_lt, Int.not_le, beq_iff_eq, beq_eq_false_iff_ne, bne_iff_ne, ne_eq, Bool.not_not, Decidable.not_not] at h34
        have hxy : enK y ≤ enK x := Int.not_lt.1 fun g => by have := cmpZ_lt.2 g; omega
        have hd := ins_done hp1 hs1 hr1 (last_le hs1 hxy)
        refine J.condF rfl rfl ?_
        refine J.exit rfl rfl ?_
        refine J.inBlock ?_
        refine J.region rfl ?_
        refine JO.pur rfl rfl rfl (Pur.move rfl) ?_
        refine JO.pur rfl rfl rfl (Pur.add rfl rfl (wr64 (by omega))) ?_
        refine JO.pur rfl rfl rfl (Pur.assign rfl) ?_
        refine JO.nil ?_
        exact J.weaken (.cons rfl (congrArg (Value.int .i64) (by first | rfl | (dsimp only; omega))) (.cons rfl rfl (.cons rfl rfl (.cons rfl rfl (.cons rfl rfl .nil))))) (fun h s => by dsimp only; have e : P ++ (L2 ++ [y]) ++ x :: (R1 ++ A.drop (k + 1) ++ S) = P ++ ((L2 ++ [y]) ++ x :: R1) ++ A.drop (k + 1) ++ S := (by simp); rw [e] at s; exact SubC.out h s) (ihk (k + 1, (L2 ++ [y]) ++ x :: R1) ⟨by dsimp only; omega, by dsimp only; rw [htk]; exact hd.2, hd.1⟩ (by dsimp only; omega))
    · try simp only [decide_eq_true_eq, decide_eq_false_iff_not, Bool.not_eq_true', Bool.not_eq_false', Bool.and_eq_true, Bool.or_eq_true, Bool.and_eq_false_iff, Bool.or_eq_false_iff, Option.isNone_some, Option.isSome_some, Option.isNone_none, Option.isSome_none, Int.not_lt, Int.not_le, beq_iff_eq, beq_eq_false_iff_ne, bne_iff_ne, ne_eq, Bool.not_not, Decidable.not_not] at h21
      have hl0 : L1 = [] := List.eq_nil_of_length_eq_zero (by omega)
      have hd := ins_done hp1 hs1 hr1 (fun l hl => by rw [hl0] at hl; simp at hl)
      refine JM.takeNo 4 (fun _ h => h) rfl (by kernel_rfl) rfl rfl rfl (m' := 31) rfl ?_
      refine JM.takeNo 5 (fun _ h => h) rfl (by kernel_rfl) rfl rfl rfl (m' := 63) rfl ?_
      refine JM.takeNo 6 (fun _ h => h) rfl (by kernel_rfl) rfl rfl rfl (m' := 127) rfl ?_
      refine JM.takeNo 7 (fun _ h => h) rfl (by kernel_rfl) rfl rfl rfl (m' := 255) rfl ?_
      refine JM.takeNo 8 (fun _ h => h) rfl (by kernel_rfl) rfl rfl rfl (m' := 511) rfl ?_
      refine JM.takeNo 9 (fun _ h => h) rfl (by kernel_rfl) rfl rfl rfl (m' := 1023) rfl ?_
      refine JM.takeNo 10 (fun _ h => h) rfl (by kernel_rfl) rfl rfl rfl (m' := 2047) rfl ?_
      refine JM.takeNo 11 (fun _ h => h) rfl (by kernel_rfl) rfl rfl rfl (m' := 4095) rfl ?_
      refine JM.takeNo 12 (fun _ h => h) rfl (by kernel_rfl) rfl rfl rfl (m' := 8191) rfl ?_
      refine JM.takeNo 13 (fun _ h => h) rfl (by kernel_rfl) rfl rfl rfl (m' := 16383) rfl ?_
      refine JM.one (i := 14) (by kernel_rfl) ?_
      refine JMi.no rfl rfl rfl rfl (m' := 32767) rfl (fun _ h => h) ?_
      refine JM.takeNo 15 (fun _ h => h) rfl (by kernel_rfl) rfl rfl rfl (m' := 65535) rfl ?_
      refine JM.take 16 (fun _ h => h) rfl (by kernel_rfl) rfl rfl rfl (m' := 131071) rfl (Pur.pickF rfl rfl) ?_
      refine JM.done rfl ?_
      refine J.condF rfl rfl ?_
      refine J.exit rfl rfl ?_
      refine J.inBlock ?_
      refine J.region rfl ?_
      refine JO.pur rfl rfl rfl (Pur.move rfl) ?_
      refine JO.pur rfl rfl rfl (Pur.add rfl rfl (wr64 (by omega))) ?_
      refine JO.pur rfl rfl rfl (Pur.assign rfl) ?_
      refine JO.nil ?_
      exact J.weaken (.cons rfl (congrArg (Value.int .i64) (by first | rfl | (dsimp only; omega))) (.cons rfl rfl (.cons rfl rfl (.cons rfl rfl (.cons rfl rfl .nil))))) (fun h s => by dsimp only; have e : P ++ L1 ++ x :: (R1 ++ A.drop (k + 1) ++ S) = P ++ (L1 ++ x :: R1) ++ A.drop (k + 1) ++ S := (by simp); rw [e] at s; exact SubC.out h s) (ihk (k + 1, L1 ++ x :: R1) ⟨by dsimp only; omega, by dsimp only; rw [htk]; exact hd.2, hd.1⟩ (by dsimp only; omega))
  · try simp only [decide_eq_true_eq, decide_eq_false_iff_not, Bool.not_eq_true', Bool.not_eq_false', Bool.and_eq_true, Bool.or_eq_true, Bool.and_eq_false_iff, Bool.or_eq_false_iff, Option.isNone_some, Option.isSome_some, Option.isNone_none, Option.isSome_none, Int.not_lt, Int.not_le, beq_iff_eq, beq_eq_false_iff_ne, bne_iff_ne, ne_eq, Bool.not_not, Decidable.not_not] at h14
    have hke : A.length ≤ k := by omega
    rw [List.take_of_length_le hke] at hp
    refine J.condF rfl rfl ?_
    refine J.exit rfl rfl ?_
    refine J.fin rfl ?_
    refine ⟨_, _, ⟨A1, rfl, hp, hs, rfl⟩, rfl, fun h s => ?_⟩
    rw [List.drop_of_length_le hke, List.append_nil] at s
    exact SubC.out h s

end Go.Proofs.Ytnhippfllgnngaa

/- The text SpPlain2. -/
set_option linter.unusedVariables false
set_option linter.unusedSimpArgs false
/-! Where an index stands in a sparse domain's list. -/
namespace Go.Proofs.Ytnhippfllgnngaa
open Go Go.KK Dm
theorem wrU64 {n : Int} (h : 0 ≤ n ∧ n < 18446744073709551616) : IntKind.u64.wrap n = n := by simp [IntKind.wrap, IntKind.bits, IntKind.signed]; omega
def cntS (rs : List Rg) (xss : List (List Int)) (t : Int) : Nat := xss.countP fun y => decide (atS rs y < t)
theorem cnt_at {rs : List Rg} {xss : List (List Int)} {t : Int} {i : Nat} (hi : i ≤ xss.length) (h1 : ∀ k, k < i → atS rs (xss.getD k []) < t) (h2 : ∀ k, i ≤ k → k < xss.length → t ≤ atS rs (xss.getD k [])) : cntS rs xss t = i := by
  unfold cntS
  conv => lhs; rw [← List.take_append_drop i xss, List.countP_append]
  have a1 : (xss.take i).countP (fun y => decide (atS rs y < t)) = (xss.take i).length := List.countP_eq_length.2 fun y hy => by
    obtain ⟨k, hk, e⟩ := List.getElem_of_mem hy
    rw [List.length_take] at hk
    rw [List.getElem_take] at e
    have := h1 k (by omega)
    rw [List.getD_eq_getElem?_getD, List.getElem?_eq_getElem (by omega), Option.getD_some, e] at this
    exact decide_eq_true this
  have a2 : (xss.drop i).countP (fun y => decide (atS rs y < t)) = 0 := List.countP_eq_zero.2 fun y hy => by
    obtain ⟨k, hk, e⟩ := List.getElem_of_mem hy
    rw [List.length_drop] at hk
    rw [List.getElem_drop] at e
    have := h2 (i + k) (by omega) (by omega)
    rw [List.getD_eq_getElem?_getD, List.getElem?_eq_getElem (by omega), Option.getD_some, e] at this
    simpa using this
  rw [a1, a2, List.length_take]; omega
theorem mem_at {rs : List Rg} {xss : List (List Int)} {x : List Int} {i : Nat} (hs : okS rs xss) (hx : (plD rs x).isSome = true) (hi : i ≤ xss.length) (h1 : ∀ k, k < i → atS rs (xss.getD k []) < atS rs x) (h2 : ∀ k, i ≤ k → k < xss.length → atS rs x ≤ atS rs (xss.getD k [])) :
    x ∈ xss ↔ i < xss.length ∧ atS rs (xss.getD i []) = atS rs x := by
  constructor
  · intro hm
    obtain ⟨k, hk, e⟩ := List.getElem_of_mem hm
    have hg : xss.getD k [] = x := by rw [List.getD_eq_getElem?_getD, List.getElem?_eq_getElem hk, Option.getD_some, e]
    have hik : i ≤ k := Nat.le_of_not_lt fun h => by have := h1 k h; rw [hg] at this; omega
    refine ⟨by omega, ?_⟩
    by_cases e2 : i = k
    · rw [e2, hg]
    · have b1 := okS_asc hs k i (by omega) hk
      have b2 := h2 i (Nat.le_refl _) (by omega)
      rw [hg] at b1; omega
  · rintro ⟨h3, h4⟩
    have hm : xss.getD i [] ∈ xss := by rw [List.getD_eq_getElem?_getD, List.getElem?_eq_getElem h3]; exact List.getElem_mem h3
    have := atS_inj hs.1.2.2.1 (okS_some hs hm) hx h4
    rw [← this]; exact hm
theorem fndV_no {rs : List Rg} {xss : List (List Int)} {x : List Int} (h : (plV rs x).2 ≠ 0) : fndV rs xss x = (0, false) := if_pos h
theorem fndV_yes {rs : List Rg} {xss : List (List Int)} {x : List Int} (h : (plV rs x).2 = 0) : fndV rs xss x = ((cntS rs xss (atS rs x) : Int), decide (x ∈ xss)) := if_neg (not_not_intro h)
theorem fnd_mem {rs : List Rg} {xss : List (List Int)} (hs : okS rs xss) (x : List Int) : (fndV rs xss x).2 = decide (x ∈ xss) := by
  by_cases h : (plV rs x).2 = 0
  · rw [fndV_yes h]
  · rw [fndV_no h]
    exact (decide_eq_false fun hm => h ((plV_ok hs.1 x).1.2 (okS_some hs hm))).symm
def hasS (rs : List Rg) (xss : List (List Int)) (x : List Int) : Bool × Int := if ¬ okS rs xss then (false, 50) else (decide (x ∈ xss), 0)
def plcS (rs : List Rg) (xss : List (List Int)) (x : List Int) : Int × Int := if ¬ okS rs xss then (0, 50) else if ¬ x ∈ xss then (0, 5) else (findL xss x, 0)
end Go.Proofs.Ytnhippfllgnngaa
