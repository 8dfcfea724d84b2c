/-
  A part of the proof of the claim that this folder bears.
-/
import Derived.Test.YtoikjjpleonllaaPAL
/- The text N4. -/
set_option linter.unusedVariables false
set_option linter.unusedSimpArgs false
set_option maxRecDepth 10000
namespace Go.Proofs.Ytoikjjpleonllaa
open Go Go.KK Gr Nt

theorem accR_plus {vs : List Int} (h0 : vs.length ≠ 0 → wr (vs.getD 0 0) = vs.getD 0 0) : ∀ j, j < vs.length → accR ⟨#[43]⟩ vs j = wr ((vs.take (j + 1)).sum)
  | 0, hj => by
    show vs.getD 0 0 = _
    have e : vs.take (0 + 1) = [vs.getD 0 0] := by rw [List.take_add_one, List.getD_eq_getElem?_getD, List.getElem?_eq_getElem hj]; simp
    rw [e]
    simp only [List.sum_cons, List.sum_nil, Int.add_zero]
    exact (h0 (by omega)).symm
  | j + 1, hj => by
    show rOp ⟨#[43]⟩ (accR ⟨#[43]⟩ vs j) (vs.getD (j + 1) 0) = _
    rw [accR_plus h0 j (by omega)]
    have e : vs.take (j + 1 + 1) = vs.take (j + 1) ++ [vs.getD (j + 1) 0] := by rw [List.take_add_one, List.getD_eq_getElem?_getD, List.getElem?_eq_getElem hj]; rfl
    rw [e, List.sum_append]
    show wr (wr _ + _) = _
    rw [wr_add]; simp
theorem lit_ok {m : Int} (hw : (Lit.int .i64 m).wf = true) : wr m = m := by
  simp [Lit.wf, IntKind.min, IntKind.max, IntKind.signed, IntKind.bits] at hw
  exact wr64 (by omega)
theorem all_good {r : Nat} {vs : List Int} (h1 : 1 ≤ vs.length) (h8 : vs.length ≤ 8) (hr : r < vs.length) : goodN sAll ⟨#[43]⟩ (r : Int) vs := by
  refine ⟨⟨by decide, by decide, ⟨h1, h8⟩, fun _ => by omega⟩, fun g => ?_⟩
  exact absurd g.2.1 (by decide)
theorem NI_zero (n r : Nat) (vs : List Int) : NI n r vs 0 0 ⟨List.replicate n 0, [], [], 0⟩ := by
  have hc : cellN ⟨List.replicate n 0, [], [], 0⟩ r = 0 := by
    unfold cellN
    show (List.replicate n (0 : Int)).getD r 0 = 0
    rw [List.getD_eq_getElem?_getD, List.getElem?_replicate]; split <;> rfl
  refine ⟨List.length_replicate, rfl, Nat.le_refl _, fun m hm => (by cases hm), Nat.le_refl _, ?_, ?_⟩
  · rw [hc]; simp
  · rw [hc]; decide
theorem lawNet {L : List Asn} {va la ma : Option Addr} {vn vc ln lc mn mc : Nat} {z : Int} {vs l1 l2 : List Int} [SlIn intE L va vs] [SlIn intE L la l1] [SlIn intE L ma l2] (hn : vn = vs.length) (hl1 : ln = l1.length) (hl2 : mn = l2.length) (h0 : vs.length ≠ 0 → wr (vs.getD 0 0) = vs.getD 0 0) :
    CallS Try.prog 9 [.slice va vn vc, .int .i64 z, .agg #[.slice la ln lc, .slice ma mn mc]].toArray L (fun v M => v = .bool true ∧ M = L) := by
  subst hn
  subst hl1
  subst hl2
  refine CallS.ent ?_
  refine CallS.enter Try.func9 rfl rfl rfl rfl rfl ?_
  refine J.seq rfl ?_
  refine J.region rfl ?_
  refine JO.eff rfl rfl rfl (Eff.box (cs := [_, _]) rfl rfl) ?_
  rintro _ _ ⟨b5, rfl, rfl⟩
  refine JO.pur rfl rfl rfl (Pur.assign rfl) ?_
  refine JO.nil ?_
  refine J.seq rfl ?_
  refine J.quiet rfl Try.mixed (by kernel_rfl) ?_
  refine JQ.pur rfl rfl rfl (Pur.fieldAddr rfl) ?_
  refine JQ.pur rfl rfl rfl (Pur.load rfl (CellIn.blk rfl)) ?_
  refine JQ.pur rfl rfl rfl (Pur.fieldAddr rfl) ?_
  refine JQ.pur rfl rfl rfl (Pur.load rfl (CellIn.blk rfl)) ?_
  refine JQ.pur rfl rfl rfl (Pur.assign rfl) ?_
  refine JQ.pur rfl rfl rfl (Pur.assign rfl) ?_
  refine JQ.nil ?_
  refine J.seq rfl ?_
  refine J.region rfl ?_
  refine JO.pur rfl rfl rfl (Pur.move rfl) ?_
  refine JO.pur rfl rfl rfl (Pur.len rfl) ?_
  refine JO.pur rfl rfl rfl (Pur.assign rfl) ?_
  refine JO.nil ?_
  refine J.seq rfl ?_
  refine J.seq rfl ?_
  refine J.region rfl ?_
  refine JO.pur rfl rfl rfl (Pur.move rfl) ?_
  refine JO.pur rfl rfl rfl (Pur.lss rfl rfl) ?_
  refine JO.pur rfl rfl rfl (Pur.move rfl) ?_
  refine JO.splitB 32 rfl (fun h32 => ?_) (fun h32 => ?_)
  · try simp only [decide_eq_true_eq, decide_eq_false_iff_not, Bool.not_eq_true', Bool.not_eq_false', Bool.and_eq_true, Bool.or_eq_true, Bool.and_eq_false_iff, Bool.or_eq_false_iff, Option.isNone_some, Option.isSome_some, Option.isNone_none, Option.isSome_none, Int.not_lt, Int.not_le, beq_iff_eq, beq_eq_false_iff_ne, bne_iff_ne, ne_eq, Bool.not_not, Decidable.not_not] at h32
    refine JO.no rfl rfl rfl ?_
    refine JO.no rfl rfl rfl ?_
    refine JO.pur rfl rfl rfl (Pur.pickT rfl rfl) ?_
    refine JO.nil ?_
    refine J.condT rfl rfl ?_
    refine J.seq rfl ?_
    refine J.region rfl ?_
    refine JO.effR rfl rfl rfl (Eff.call rfl (nawake_ok)) ?_
    refine JO.pur rfl rfl rfl (Pur.assign rfl) ?_
    refine JO.nil ?_
    refine J.ret rfl rfl ?_
    refine ⟨_, _, ⟨rfl, rfl⟩, rfl, SubC.out⟩
  · try simp only [decide_eq_true_eq, decide_eq_false_iff_not, Bool.not_eq_true', Bool.not_eq_false', Bool.and_eq_true, Bool.or_eq_true, Bool.and_eq_false_iff, Bool.or_eq_false_iff, Option.isNone_some, Option.isSome_some, Option.isNone_none, Option.isSome_none, Int.not_lt, Int.not_le, beq_iff_eq, beq_eq_false_iff_ne, bne_iff_ne, ne_eq, Bool.not_not, Decidable.not_not] at h32
    refine JO.pur rfl rfl rfl (Pur.move rfl) ?_
    refine JO.pur rfl rfl rfl (Pur.gtr rfl rfl) ?_
    refine JO.pur rfl rfl rfl (Pur.pickF rfl rfl) ?_
    refine JO.nil ?_
    refine J.splitB 35 rfl (fun h35 => ?_) (fun h35 => ?_)
    · try simp only [decide_eq_true_eq, decide_eq_false_iff_not, Bool.not_eq_true', Bool.not_eq_false', Bool.and_eq_true, Bool.or_eq_true, Bool.and_eq_false_iff, Bool.or_eq_false_iff, Option.isNone_some, Option.isSome_some, Option.isNone_none, Option.isSome_none, Int.not_lt, Int.not_le, beq_iff_eq, beq_eq_false_iff_ne, bne_iff_ne, ne_eq, Bool.not_not, Decidable.not_not] at h35
      refine J.condT rfl rfl ?_
      refine J.seq rfl ?_
      refine J.region rfl ?_
      refine JO.effR rfl rfl rfl (Eff.call rfl (nawake_ok)) ?_
      refine JO.pur rfl rfl rfl (Pur.assign rfl) ?_
      refine JO.nil ?_
      refine J.ret rfl rfl ?_
      refine ⟨_, _, ⟨rfl, rfl⟩, rfl, SubC.out⟩
    · try simp only [decide_eq_true_eq, decide_eq_false_iff_not, Bool.not_eq_true', Bool.not_eq_false', Bool.and_eq_true, Bool.or_eq_true, Bool.and_eq_false_iff, Bool.or_eq_false_iff, Option.isNone_some, Option.isSome_some, Option.isNone_none, Option.isSome_none, Int.not_lt, Int.not_le, beq_iff_eq, beq_eq_false_iff_ne, bne_iff_ne, ne_eq, Bool.not_not, Decidable.not_not] at h35
      refine J.condF rfl rfl ?_
      refine J.skip rfl ?_
      refine J.seq rfl ?_
      refine J.region rfl ?_
      refine JO.pur rfl rfl rfl (Pur.move rfl) ?_
      refine JO.pur rfl rfl rfl (Pur.move rfl) ?_
      refine JO.eff rfl rfl rfl (Eff.call rfl (mod_ok (z := z) (n := (vs.length : Int)) (by omega) (by omega))) ?_
      rintro _ _ ⟨r, hrn, rfl, rfl⟩
      refine JO.pur rfl rfl rfl (Pur.assign rfl) ?_
      refine JO.nil ?_
      refine J.seq rfl ?_
      refine J.region rfl ?_
      refine JO.pur rfl rfl rfl (Pur.move rfl) ?_
      refine JO.eff rfl rfl rfl (Eff.call rfl (nNew_ok (n := vs.length) (by omega) (by omega))) ?_
      rintro _ _ ⟨p, rfl, rfl⟩
      refine JO.pur rfl rfl rfl (Pur.move rfl) ?_
      refine JO.pur rfl rfl rfl (Pur.extract rfl rfl) ?_
      refine JO.pur rfl rfl rfl (Pur.extract rfl rfl) ?_
      refine JO.pur rfl rfl rfl (Pur.assign rfl) ?_
      refine JO.pur rfl rfl rfl (Pur.assign rfl) ?_
      refine JO.nil ?_
      refine J.seq rfl ?_
      refine J.seq rfl ?_
      refine J.region rfl ?_
      refine JO.pur rfl rfl rfl (Pur.move rfl) ?_
      refine JO.pur rfl rfl rfl (Pur.neqI rfl rfl) ?_
      refine JO.nil ?_
      refine J.setv (u' := .bool false) 46 rfl (congrArg Value.bool (decide_eq_false (fun h => h rfl))) ?_
      refine J.condF rfl rfl ?_
      refine J.skip rfl ?_
      refine J.seq rfl ?_
      refine J.seq rfl ?_
      refine J.region rfl ?_
      refine JO.pur rfl rfl rfl (Pur.assign rfl) ?_
      refine JO.nil ?_
      refine J.block rfl ?_
      have hr : r < vs.length := by omega
      have hI0 : NI vs.length r vs 0 0 ⟨List.replicate vs.length 0, [], [], 0⟩ := NI_zero _ _ _
      refine J.loopF (ι := Nat × Ns) (fun q => NI vs.length r vs q.1 0 q.2 ∧ q.1 ≤ vs.length) (fun q => [(12, .int .i64 (q.1 : Int))]) [(0, _), (1, _), (7, _), (8, _), (9, _), (10, _)] (fun q => NB p q.2 :: blk b5 (.cells #[.slice la l1.length lc, .slice ma l2.length mc] 60) :: L) (fun q => vs.length - q.1) (0, ⟨List.replicate vs.length 0, [], [], 0⟩) rfl (.cons rfl rfl (.cons rfl rfl (.cons rfl rfl (.cons rfl rfl (.cons rfl rfl (.cons rfl rfl .nil)))))) (.cons rfl rfl .nil) (by first | exact fun _ h => h | exact SubC.out | (dsimp only; exact SubC.out)) ⟨hI0, Nat.zero_le _⟩ ?_
      rintro ⟨w, X⟩ ⟨hI, hw⟩ ihw
      try dsimp only
      have hI : NI vs.length r vs w 0 X := hI
      dsimp only at hw
      obtain ⟨u1, u2, u3, u4⟩ := NI.use hI (by omega) (by omega)
      refine J.seq rfl ?_
      refine J.seq rfl ?_
      refine J.region rfl ?_
      refine JO.pur rfl rfl rfl (Pur.move rfl) ?_
      refine JO.pur rfl rfl rfl (Pur.move rfl) ?_
      refine JO.pur rfl rfl rfl (Pur.lss rfl rfl) ?_
      refine JO.nil ?_
      refine J.splitB 49 rfl (fun h49 => ?_) (fun h49 => ?_)
      · try simp only [decide_eq_true_eq, decide_eq_false_iff_not, Bool.not_eq_true', Bool.not_eq_false', Bool.and_eq_true, Bool.or_eq_true, Bool.and_eq_false_iff, Bool.or_eq_false_iff, Option.isNone_some, Option.isSome_some, Option.isNone_none, Option.isSome_none, Int.not_lt, Int.not_le, beq_iff_eq, beq_eq_false_iff_ne, bne_iff_ne, ne_eq, Bool.not_not, Decidable.not_not] at h49
        have hwl : w < vs.length := by omega
        obtain ⟨x, hX⟩ : ∃ x, vs[w]? = some x := ⟨_, List.getElem?_eq_getElem hwl⟩
        have hcl := hI.len
        refine J.condT rfl rfl ?_
        refine J.skip rfl ?_
        refine J.seq rfl ?_
        refine J.block rfl ?_
        refine J.seq rfl ?_
        refine J.region rfl ?_
        refine JO.pur rfl rfl rfl (Pur.move rfl) ?_
        refine JO.pur rfl rfl rfl (Pur.move rfl) ?_
        refine JO.pur rfl rfl rfl (Pur.move rfl) ?_
        refine JO.pur rfl rfl rfl (Pur.move rfl) ?_
        refine JO.pur rfl rfl rfl (Pur.move rfl) ?_
        refine JO.pur rfl rfl rfl (Pur.idx rfl rfl rfl (by first | rfl | (simp; done) | omega) rfl (by omega)) ?_
        refine JO.pur rfl rfl rfl (Pur.load rfl (CellIn.el0 rfl hX rfl)) ?_
        refine JO.setv (u' := .int .i64 x) 59 rfl rfl ?_
        refine JO.eff rfl rfl rfl (Eff.call rfl (nadd_ok (X := X) (fr := w) (to := r) (z := x) (by omega) (by omega) (by omega) (by omega) (by omega))) ?_
        rintro _ _ ⟨rfl, rfl⟩
        refine JO.pur rfl rfl rfl (Pur.move rfl) ?_
        refine JO.pur rfl rfl rfl (Pur.extract rfl rfl) ?_
        refine JO.pur rfl rfl rfl (Pur.extract rfl rfl) ?_
        refine JO.pur rfl rfl rfl (Pur.assign rfl) ?_
        refine JO.pur rfl rfl rfl (Pur.assign rfl) ?_
        refine JO.nil ?_
        refine J.seq rfl ?_
        refine J.region rfl ?_
        refine JO.pur rfl rfl rfl (Pur.move rfl) ?_
        refine JO.pur rfl rfl rfl (Pur.neqI rfl rfl) ?_
        refine JO.nil ?_
        refine J.setv (u' := .bool false) 64 rfl (congrArg Value.bool (decide_eq_false (fun h => h rfl))) ?_
        refine J.condF rfl rfl ?_
        refine J.skip rfl ?_
        refine J.inBlock ?_
        refine J.region rfl ?_
        refine JO.pur rfl rfl rfl (Pur.move rfl) ?_
        refine JO.pur rfl rfl rfl (Pur.add rfl rfl (wr64 (by omega))) ?_
        refine JO.pur rfl rfl rfl (Pur.assign rfl) ?_
        refine JO.nil ?_
        exact J.weaken (.cons rfl (congrArg (Value.int .i64) (by first | rfl | (dsimp only; omega))) (.cons rfl rfl (.cons rfl rfl (.cons rfl rfl (.cons rfl rfl (.cons rfl rfl (.cons rfl rfl .nil))))))) (fun h s => by dsimp only; exact SubC.out h s) (ihw (w + 1, reqN X ⟨w, r, 3, 0, x, 0⟩) ⟨hI.add hr hwl hX, by dsimp only; omega⟩ (by dsimp only; omega))
      · try simp only [decide_eq_true_eq, decide_eq_false_iff_not, Bool.not_eq_true', Bool.not_eq_false', Bool.and_eq_true, Bool.or_eq_true, Bool.and_eq_false_iff, Bool.or_eq_false_iff, Option.isNone_some, Option.isSome_some, Option.isNone_none, Option.isSome_none, Int.not_lt, Int.not_le, beq_iff_eq, beq_eq_false_iff_ne, bne_iff_ne, ne_eq, Bool.not_not, Decidable.not_not] at h49
        have hwe : w = vs.length := by omega
        subst hwe
        refine J.condF rfl rfl ?_
        refine J.exit rfl rfl ?_
        refine J.seq rfl ?_
        refine J.seq rfl ?_
        refine J.region rfl ?_
        refine JO.pur rfl rfl rfl (Pur.assign rfl) ?_
        refine JO.nil ?_
        refine J.block rfl ?_
        refine J.loopF (ι := Nat × Ns) (fun q => NI vs.length r vs vs.length q.1 q.2) (fun q => [(15, .int .i64 (q.1 : Int))]) [(0, _), (1, _), (7, _), (8, _), (9, _), (10, _)] (fun q => NB p q.2 :: blk b5 (.cells #[.slice la l1.length lc, .slice ma l2.length mc] 60) :: L) (fun q => 17 - q.1) (0, X) rfl (.cons rfl rfl (.cons rfl rfl (.cons rfl rfl (.cons rfl rfl (.cons rfl rfl (.cons rfl rfl .nil)))))) (.cons rfl rfl .nil) (by first | exact fun _ h => h | exact SubC.out | (dsimp only; exact SubC.out)) hI ?_
        rintro ⟨t, Y⟩ hJ iht
        try dsimp only
        have hJ : NI vs.length r vs vs.length t Y := hJ
        obtain ⟨y1, y2, y3, y4⟩ := NI.use hJ (by omega) (by omega)
        have ycl := hJ.len
        have yhl := hJ.hl
        refine J.seq rfl ?_
        refine J.seq rfl ?_
        refine J.region rfl ?_
        refine JO.pur rfl rfl rfl (Pur.move rfl) ?_
        refine JO.eff rfl rfl rfl (Eff.call rfl (nflying_ok (X := Y) (by omega) (by omega))) ?_
        rintro _ _ ⟨a66, c66, rfl, rfl⟩
        refine JO.pur rfl rfl rfl (Pur.len rfl) ?_
        refine JO.pur rfl rfl rfl (Pur.gtr rfl rfl) ?_
        refine JO.nil ?_
        refine J.splitB 68 rfl (fun h68 => ?_) (fun h68 => ?_)
        · try simp only [decide_eq_true_eq, decide_eq_false_iff_not, Bool.not_eq_true', Bool.not_eq_false', Bool.and_eq_true, Bool.or_eq_true, Bool.and_eq_false_iff, Bool.or_eq_false_iff, Option.isNone_some, Option.isSome_some, Option.isNone_none, Option.isSome_none, Int.not_lt, Int.not_le, beq_iff_eq, beq_eq_false_iff_ne, bne_iff_ne, ne_eq, Bool.not_not, Decidable.not_not] at h68
          refine J.condT rfl rfl ?_
          refine J.skip rfl ?_
          refine J.seq rfl ?_
          refine J.block rfl ?_
          refine J.seq rfl ?_
          refine J.region rfl ?_
          refine JO.pur rfl rfl rfl (Pur.assign rfl) ?_
          refine JO.nil ?_
          refine J.seq rfl ?_
          refine J.seq rfl ?_
          refine J.region rfl ?_
          refine JO.pur rfl rfl rfl (Pur.move rfl) ?_
          refine JO.pur rfl rfl rfl (Pur.move rfl) ?_
          refine JO.pur rfl rfl rfl (Pur.len rfl) ?_
          refine JO.pur rfl rfl rfl (Pur.lss rfl rfl) ?_
          refine JO.nil ?_
          refine J.splitB 74 rfl (fun h74 => ?_) (fun h74 => ?_)
          · try simp only [decide_eq_true_eq, decide_eq_false_iff_not, Bool.not_eq_true', Bool.not_eq_false', Bool.and_eq_true, Bool.or_eq_true, Bool.and_eq_false_iff, Bool.or_eq_false_iff, Option.isNone_some, Option.isSome_some, Option.isNone_none, Option.isSome_none, Int.not_lt, Int.not_le, beq_iff_eq, beq_eq_false_iff_ne, bne_iff_ne, ne_eq, Bool.not_not, Decidable.not_not] at h74
            obtain ⟨x, hX⟩ : ∃ x, l1[t]? = some x := ⟨_, List.getElem?_eq_getElem (by omega)⟩
            refine J.condT rfl rfl ?_
            refine J.imp (M := NB p Y :: blk b5 (.cells #[.slice la l1.length lc, .slice ma l2.length mc] 60) :: L) (fun h s => SubC.out h s) ?_
            refine J.mask0 (n := 9) [7] rfl Try.mixed rfl (by kernel_rfl) ?_
            refine JM.take 0 (fun _ h => h) rfl (by kernel_rfl) rfl rfl rfl (m' := 1) rfl (Pur.move rfl) ?_
            refine JM.take 1 (fun _ h => h) rfl (by kernel_rfl) rfl rfl rfl (m' := 3) rfl (Pur.move rfl) ?_
            refine JM.take 2 (fun _ h => h) rfl (by kernel_rfl) rfl rfl rfl (m' := 7) rfl (Pur.idx rfl rfl rfl (by first | rfl | (simp; done) | omega) rfl (by omega)) ?_
            refine JM.take 3 (fun _ h => h) rfl (by kernel_rfl) rfl rfl rfl (m' := 15) rfl (Pur.load rfl (CellIn.el0 rfl hX rfl)) ?_
            refine JM.setv (u' := .int .i64 x) 78 rfl rfl ?_
            refine JM.take 4 (fun _ h => h) rfl (by kernel_rfl) rfl rfl rfl (m' := 31) rfl (Pur.move rfl) ?_
            refine JM.one (i := 5) (by kernel_rfl) ?_
            refine JMi.eff rfl rfl rfl rfl (m' := 63) rfl (Eff.call rfl (nflying_ok (X := Y) (by omega) (by omega))) ?_
            rintro _ _ ⟨a80, c80, rfl, rfl⟩
            refine ⟨.inr (fun _ h => h.tail), ?_⟩
            refine JM.take 6 (fun _ h => h.tail) rfl (by kernel_rfl) rfl rfl rfl (m' := 127) rfl (Pur.len rfl) ?_
            refine JM.one (i := 7) (by kernel_rfl) ?_
            refine JMi.eff rfl rfl rfl rfl (m' := 255) rfl (Eff.call rfl (mod_ok (z := x) (n := (Y.fly.length : Int)) (by omega) (by omega))) ?_
            rintro _ _ ⟨kk, hkk, rfl, rfl⟩
            refine ⟨.inl (by simp), ?_⟩
            refine JM.takeF 8 (.inl (by kernel_rfl)) rfl (by kernel_rfl) rfl rfl rfl (m' := 511) rfl (Pur.assign rfl) ?_
            refine JM.done rfl ?_
            refine J.seq rfl ?_
            refine J.region rfl ?_
            refine JO.pur rfl rfl rfl (Pur.move rfl) ?_
            refine JO.pur rfl rfl rfl (Pur.gtr rfl rfl) ?_
            refine JO.pur rfl rfl rfl (Pur.move rfl) ?_
            refine JO.setv (u' := .bool false) 85 rfl (congrArg Value.bool (decide_eq_false (by omega))) ?_
            refine JO.pur rfl rfl rfl (Pur.move rfl) ?_
            refine JO.pur rfl rfl rfl (Pur.move rfl) ?_
            refine JO.imp (M := NB p Y :: blk b5 (.cells #[.slice la l1.length lc, .slice ma l2.length mc] 60) :: L) (fun h s => SubC.out h s) ?_
            have hJ2 := hJ.dlv (k := kk) (by omega)
            obtain ⟨o1, o2, o3, o4, o5, o6, o7⟩ := hJ.ms (msgN Y kk) (List.mem_of_getElem? (msgN_get (by omega)))
            refine JO.eff rfl rfl rfl (Eff.call rfl (ndeliver_ok (X := Y) (k := kk) (by omega) (by omega) (fun _ => ⟨o5, by omega⟩) (by omega) o4 (by omega) (by omega) (by omega))) ?_
            rintro _ _ ⟨rfl, rfl⟩
            refine JO.pur rfl rfl rfl (Pur.neqI rfl rfl) ?_
            refine JO.pur rfl rfl rfl (Pur.pickF rfl rfl) ?_
            refine JO.nil ?_
            refine J.setv (u' := .bool false) 90 rfl (congrArg Value.bool (decide_eq_false (fun h => h rfl))) ?_
            refine J.condF rfl rfl ?_
            refine J.skip rfl ?_
            refine J.inBlock ?_
            refine J.region rfl ?_
            refine JO.pur rfl rfl rfl (Pur.move rfl) ?_
            refine JO.pur rfl rfl rfl (Pur.add rfl rfl (wr64 (by omega))) ?_
            refine JO.pur rfl rfl rfl (Pur.assign rfl) ?_
            refine JO.nil ?_
            exact J.weaken (.cons rfl (congrArg (Value.int .i64) (by first | rfl | (dsimp only; omega))) (.cons rfl rfl (.cons rfl rfl (.cons rfl rfl (.cons rfl rfl (.cons rfl rfl (.cons rfl rfl .nil))))))) (fun h s => by dsimp only; exact SubC.out h s) (iht (t + 1, dlvNt Y kk) hJ2 (by dsimp only; omega))
          · try simp only [decide_eq_true_eq, decide_eq_false_iff_not, Bool.not_eq_true', Bool.not_eq_false', Bool.and_eq_true, Bool.or_eq_true, Bool.and_eq_false_iff, Bool.or_eq_false_iff, Option.isNone_some, Option.isSome_some, Option.isNone_none, Option.isSome_none, Int.not_lt, Int.not_le, beq_iff_eq, beq_eq_false_iff_ne, bne_iff_ne, ne_eq, Bool.not_not, Decidable.not_not] at h74
            obtain ⟨kk, hkk0⟩ : ∃ kk : Nat, kk = 0 := ⟨_, rfl⟩
            have hkk : (kk : Int) < (Y.fly.length : Int) := by omega
            refine J.setv (u' := .int .i64 (kk : Int)) 16 rfl (by rw [hkk0]; rfl) ?_
            refine J.condF rfl rfl ?_
            refine J.skip rfl ?_
            refine J.seq rfl ?_
            refine J.region rfl ?_
            refine JO.pur rfl rfl rfl (Pur.move rfl) ?_
            refine JO.pur rfl rfl rfl (Pur.gtr rfl rfl) ?_
            refine JO.pur rfl rfl rfl (Pur.move rfl) ?_
            refine JO.setv (u' := .bool false) 85 rfl (congrArg Value.bool (decide_eq_false (by omega))) ?_
            refine JO.pur rfl rfl rfl (Pur.move rfl) ?_
            refine JO.pur rfl rfl rfl (Pur.move rfl) ?_
            refine JO.imp (M := NB p Y :: blk b5 (.cells #[.slice la l1.length lc, .slice ma l2.length mc] 60) :: L) (fun h s => SubC.out h s) ?_
            have hJ2 := hJ.dlv (k := kk) (by omega)
            obtain ⟨o1, o2, o3, o4, o5, o6, o7⟩ := hJ.ms (msgN Y kk) (List.mem_of_getElem? (msgN_get (by omega)))
            refine JO.eff rfl rfl rfl (Eff.call rfl (ndeliver_ok (X := Y) (k := kk) (by omega) (by omega) (fun _ => ⟨o5, by omega⟩) (by omega) o4 (by omega) (by omega) (by omega))) ?_
            rintro _ _ ⟨rfl, rfl⟩
            refine JO.pur rfl rfl rfl (Pur.neqI rfl rfl) ?_
            refine JO.pur rfl rfl rfl (Pur.pickF rfl rfl) ?_
            refine JO.nil ?_
            refine J.setv (u' := .bool false) 90 rfl (congrArg Value.bool (decide_eq_false (fun h => h rfl))) ?_
            refine J.condF rfl rfl ?_
            refine J.skip rfl ?_
            refine J.inBlock ?_
            refine J.region rfl ?_
            refine JO.pur rfl rfl rfl (Pur.move rfl) ?_
            refine JO.pur rfl rfl rfl (Pur.add rfl rfl (wr64 (by omega))) ?_
            refine JO.pur rfl rfl rfl (Pur.assign rfl) ?_
            refine JO.nil ?_
            exact J.weaken (.cons rfl (congrArg (Value.int .i64) (by first | rfl | (dsimp only; omega))) (.cons rfl rfl (.cons rfl rfl (.cons rfl rfl (.cons rfl rfl (.cons rfl rfl (.cons rfl rfl .nil))))))) (fun h s => by dsimp only; exact SubC.out h s) (iht (t + 1, dlvNt Y kk) hJ2 (by dsimp only; omega))
        · try simp only [decide_eq_true_eq, decide_eq_false_iff_not, Bool.not_eq_true', Bool.not_eq_false', Bool.and_eq_true, Bool.or_eq_true, Bool.and_eq_false_iff, Bool.or_eq_false_iff, Option.isNone_some, Option.isSome_some, Option.isNone_none, Option.isSome_none, Int.not_lt, Int.not_le, beq_iff_eq, beq_eq_false_iff_ne, bne_iff_ne, ne_eq, Bool.not_not, Decidable.not_not] at h68
          have yfe : Y.fly = [] := List.eq_nil_of_length_eq_zero (by omega)
          have hsum := hJ.end_ yfe (Nat.le_refl _)
          have hg := all_good (r := r) (vs := vs) (by omega) (by omega) (by omega)
          refine J.condF rfl rfl ?_
          refine J.exit rfl rfl ?_
          refine J.seq rfl ?_
          refine J.region rfl ?_
          refine JO.pur rfl rfl rfl (Pur.move rfl) ?_
          refine JO.pur rfl rfl rfl (Pur.move rfl) ?_
          refine JO.imp (M := NB p Y :: blk b5 (.cells #[.slice la l1.length lc, .slice ma l2.length mc] 60) :: L) (fun h s => SubC.out h s) ?_
          refine JO.eff rfl rfl rfl (Eff.call rfl (newG_good (k := sAll) (vs := vs) rfl hg)) ?_
          rintro _ _ ⟨p2, am, cm, bs, rfl, rfl⟩
          refine JO.pur rfl rfl rfl (Pur.move rfl) ?_
          refine JO.pur rfl rfl rfl (Pur.extract rfl rfl) ?_
          refine JO.pur rfl rfl rfl (Pur.extract rfl rfl) ?_
          refine JO.pur rfl rfl rfl (Pur.assign rfl) ?_
          refine JO.pur rfl rfl rfl (Pur.assign rfl) ?_
          refine JO.nil ?_
          refine J.seq rfl ?_
          refine J.seq rfl ?_
          refine J.region rfl ?_
          refine JO.pur rfl rfl rfl (Pur.move rfl) ?_
          refine JO.pur rfl rfl rfl (Pur.neqI rfl rfl) ?_
          refine JO.nil ?_
          refine J.setv (u' := .bool false) 98 rfl (congrArg Value.bool (decide_eq_false (fun h => h rfl))) ?_
          refine J.condF rfl rfl ?_
          refine J.skip rfl ?_
          refine J.seq rfl ?_
          refine J.seq rfl ?_
          refine J.region rfl ?_
          refine JO.pur rfl rfl rfl (Pur.assign rfl) ?_
          refine JO.nil ?_
          refine J.block rfl ?_
          refine J.loopF (ι := Nat × Gs) (fun q => GF sAll ⟨#[43]⟩ (r : Int) vs q.1 q.2) (fun q => [(18, .int .i64 (q.1 : Int))]) [(1, _), (8, _), (9, _), (10, _), (17, _)] (fun q => GB p2 am cm bs q.2 :: NB p Y :: blk b5 (.cells #[.slice la l1.length lc, .slice ma l2.length mc] 60) :: L) (fun q => 18 - q.1) (0, newG sAll ⟨#[43]⟩ (r : Int) vs) rfl (.cons rfl rfl (.cons rfl rfl (.cons rfl rfl (.cons rfl rfl (.cons rfl rfl .nil))))) (.cons rfl rfl .nil) (by first | exact fun _ h => h | exact SubC.out | (dsimp only; exact SubC.out)) (GF_new hg) ?_
          rintro ⟨s, X2⟩ hG ihs
          try dsimp only
          have hG : GF sAll ⟨#[43]⟩ (r : Int) vs s X2 := hG
          obtain ⟨q1, q2, q3, q4, q5, q6, q7⟩ := GF_use hg hG
          refine J.seq rfl ?_
          refine J.seq rfl ?_
          refine J.region rfl ?_
          refine JO.pur rfl rfl rfl (Pur.move rfl) ?_
          refine JO.effR rfl rfl rfl (Eff.call rfl (over_ok (g := X2) q1)) ?_
          refine JO.pur rfl rfl rfl (Pur.not rfl) ?_
          refine JO.nil ?_
          refine J.splitB 101 rfl (fun h101 => ?_) (fun h101 => ?_)
          · try simp only [decide_eq_true_eq, decide_eq_false_iff_not, Bool.not_eq_true', Bool.not_eq_false', Bool.and_eq_true, Bool.or_eq_true, Bool.and_eq_false_iff, Bool.or_eq_false_iff, Option.isNone_some, Option.isSome_some, Option.isNone_none, Option.isSome_none, Int.not_lt, Int.not_le, beq_iff_eq, beq_eq_false_iff_ne, bne_iff_ne, ne_eq, Bool.not_not, Decidable.not_not] at h101
            refine J.condT rfl rfl ?_
            refine J.skip rfl ?_
            refine J.seq rfl ?_
            refine J.block rfl ?_
            refine J.seq rfl ?_
            refine J.region rfl ?_
            refine JO.pur rfl rfl rfl (Pur.assign rfl) ?_
            refine JO.nil ?_
            refine J.seq rfl ?_
            refine J.seq rfl ?_
            refine J.region rfl ?_
            refine JO.pur rfl rfl rfl (Pur.move rfl) ?_
            refine JO.pur rfl rfl rfl (Pur.move rfl) ?_
            refine JO.pur rfl rfl rfl (Pur.len rfl) ?_
            refine JO.pur rfl rfl rfl (Pur.lss rfl rfl) ?_
            refine JO.nil ?_
            refine J.splitB 107 rfl (fun h107 => ?_) (fun h107 => ?_)
            · try simp only [decide_eq_true_eq, decide_eq_false_iff_not, Bool.not_eq_true', Bool.not_eq_false', Bool.and_eq_true, Bool.or_eq_true, Bool.and_eq_false_iff, Bool.or_eq_false_iff, Option.isNone_some, Option.isSome_some, Option.isNone_none, Option.isSome_none, Int.not_lt, Int.not_le, beq_iff_eq, beq_eq_false_iff_ne, bne_iff_ne, ne_eq, Bool.not_not, Decidable.not_not] at h107
              obtain ⟨x, hX⟩ : ∃ x, l2[s]? = some x := ⟨_, List.getElem?_eq_getElem (by omega)⟩
              refine J.condT rfl rfl ?_
              refine J.mask0 (n := 9) [7] rfl Try.mixed rfl (by kernel_rfl) ?_
              refine JM.take 0 (fun _ h => h) rfl (by kernel_rfl) rfl rfl rfl (m' := 1) rfl (Pur.move rfl) ?_
              refine JM.take 1 (fun _ h => h) rfl (by kernel_rfl) rfl rfl rfl (m' := 3) rfl (Pur.move rfl) ?_
              refine JM.take 2 (fun _ h => h) rfl (by kernel_rfl) rfl rfl rfl (m' := 7) rfl (Pur.idx rfl rfl rfl (by first | rfl | (simp; done) | omega) rfl (by omega)) ?_
              refine JM.take 3 (fun _ h => h) rfl (by kernel_rfl) rfl rfl rfl (m' := 15) rfl (Pur.load rfl (CellIn.el0 rfl hX rfl)) ?_
              refine JM.setv (u' := .int .i64 x) 111 rfl rfl ?_
              refine JM.take 4 (fun _ h => h) rfl (by kernel_rfl) rfl rfl rfl (m' := 31) rfl (Pur.move rfl) ?_
              refine JM.one (i := 5) (by kernel_rfl) ?_
              refine JMi.eff rfl rfl rfl rfl (m' := 63) rfl (Eff.call rfl (flying_ok (g := X2) q1 (by omega))) ?_
              rintro _ _ ⟨a113, c113, rfl, rfl⟩
              refine ⟨.inr (fun _ h => h.tail), ?_⟩
              refine JM.take 6 (fun _ h => h.tail) rfl (by kernel_rfl) rfl rfl rfl (m' := 127) rfl (Pur.len rfl) ?_
              refine JM.one (i := 7) (by kernel_rfl) ?_
              refine JMi.eff rfl rfl rfl rfl (m' := 255) rfl (Eff.call rfl (mod_ok (z := x) (n := (X2.fly.length : Int)) (by omega) (by omega))) ?_
              rintro _ _ ⟨kk, hkk, rfl, rfl⟩
              refine ⟨.inl (by simp), ?_⟩
              refine JM.takeF 8 (.inl (by kernel_rfl)) rfl (by kernel_rfl) rfl rfl rfl (m' := 511) rfl (Pur.assign rfl) ?_
              refine JM.done rfl ?_
              refine J.seq rfl ?_
              refine J.region rfl ?_
              refine JO.pur rfl rfl rfl (Pur.move rfl) ?_
              refine JO.pur rfl rfl rfl (Pur.gtr rfl rfl) ?_
              refine JO.pur rfl rfl rfl (Pur.move rfl) ?_
              refine JO.setv (u' := .bool false) 118 rfl (congrArg Value.bool (decide_eq_false (by omega))) ?_
              refine JO.pur rfl rfl rfl (Pur.move rfl) ?_
              refine JO.pur rfl rfl rfl (Pur.move rfl) ?_
              refine JO.imp (M := GB p2 am cm bs X2 :: NB p Y :: blk b5 (.cells #[.slice la l1.length lc, .slice ma l2.length mc] 60) :: L) (fun h s => SubC.out h s) ?_
              have hG2 := GF_dlv hG (q := kk) (by omega)
              refine JO.eff rfl rfl rfl (Eff.call rfl (deliverG_ok (g := X2) (k := kk) q1 (by omega) q5 q4 (by omega))) ?_
              rintro _ _ ⟨rfl, rfl⟩
              refine JO.pur rfl rfl rfl (Pur.neqI rfl rfl) ?_
              refine JO.pur rfl rfl rfl (Pur.pickF rfl rfl) ?_
              refine JO.nil ?_
              refine J.setv (u' := .bool false) 123 rfl (congrArg Value.bool (decide_eq_false (fun h => h rfl))) ?_
              refine J.condF rfl rfl ?_
              refine J.skip rfl ?_
              refine J.inBlock ?_
              refine J.region rfl ?_
              refine JO.pur rfl rfl rfl (Pur.move rfl) ?_
              refine JO.pur rfl rfl rfl (Pur.add rfl rfl (wr64 (by omega))) ?_
              refine JO.pur rfl rfl rfl (Pur.assign rfl) ?_
              refine JO.nil ?_
              exact J.weaken (.cons rfl (congrArg (Value.int .i64) (by first | rfl | (dsimp only; omega))) (.cons rfl rfl (.cons rfl rfl (.cons rfl rfl (.cons rfl rfl (.cons rfl rfl .nil)))))) (fun h s => by dsimp only; exact SubC.out h s) (ihs (s + 1, dlvG X2 kk) hG2 (by dsimp only; omega))
            · try simp only [decide_eq_true_eq, decide_eq_false_iff_not, Bool.not_eq_true', Bool.not_eq_false', Bool.and_eq_true, Bool.or_eq_true, Bool.and_eq_false_iff, Bool.or_eq_false_iff, Option.isNone_some, Option.isSome_some, Option.isNone_none, Option.isSome_none, Int.not_lt, Int.not_le, beq_iff_eq, beq_eq_false_iff_ne, bne_iff_ne, ne_eq, Bool.not_not, Decidable.not_not] at h107
              obtain ⟨kk, hkk0⟩ : ∃ kk : Nat, kk = 0 := ⟨_, rfl⟩
              have hkk : (kk : Int) < (X2.fly.length : Int) := by omega
              refine J.setv (u' := .int .i64 (kk : Int)) 19 rfl (by rw [hkk0]; rfl) ?_
              refine J.condF rfl rfl ?_
              refine J.skip rfl ?_
              refine J.seq rfl ?_
              refine J.region rfl ?_
              refine JO.pur rfl rfl rfl (Pur.move rfl) ?_
              refine JO.pur rfl rfl rfl (Pur.gtr rfl rfl) ?_
              refine JO.pur rfl rfl rfl (Pur.move rfl) ?_
              refine JO.setv (u' := .bool false) 118 rfl (congrArg Value.bool (decide_eq_false (by omega))) ?_
              refine JO.pur rfl rfl rfl (Pur.move rfl) ?_
              refine JO.pur rfl rfl rfl (Pur.move rfl) ?_
              refine JO.imp (M := GB p2 am cm bs X2 :: NB p Y :: blk b5 (.cells #[.slice la l1.length lc, .slice ma l2.length mc] 60) :: L) (fun h s => SubC.out h s) ?_
              have hG2 := GF_dlv hG (q := kk) (by omega)
              refine JO.eff rfl rfl rfl (Eff.call rfl (deliverG_ok (g := X2) (k := kk) q1 (by omega) q5 q4 (by omega))) ?_
              rintro _ _ ⟨rfl, rfl⟩
              refine JO.pur rfl rfl rfl (Pur.neqI rfl rfl) ?_
              refine JO.pur rfl rfl rfl (Pur.pickF rfl rfl) ?_
              refine JO.nil ?_
              refine J.setv (u' := .bool false) 123 rfl (congrArg Value.bool (decide_eq_false (fun h => h rfl))) ?_
              refine J.condF rfl rfl ?_
              refine J.skip rfl ?_
              refine J.inBlock ?_
              refine J.region rfl ?_
              refine JO.pur rfl rfl rfl (Pur.move rfl) ?_
              refine JO.pur rfl rfl rfl (Pur.add rfl rfl (wr64 (by omega))) ?_
              refine JO.pur rfl rfl rfl (Pur.assign rfl) ?_
              refine JO.nil ?_
              exact J.weaken (.cons rfl (congrArg (Value.int .i64) (by first | rfl | (dsimp only; omega))) (.cons rfl rfl (.cons rfl rfl (.cons rfl rfl (.cons rfl rfl (.cons rfl rfl .nil)))))) (fun h s => by dsimp only; exact SubC.out h s) (ihs (s + 1, dlvG X2 kk) hG2 (by dsimp only; omega))
          · try simp only [decide_eq_true_eq, decide_eq_false_iff_not, Bool.not_eq_true', Bool.not_eq_false', Bool.and_eq_true, Bool.or_eq_true, Bool.and_eq_false_iff, Bool.or_eq_false_iff, Option.isNone_some, Option.isSome_some, Option.isNone_none, Option.isSome_none, Int.not_lt, Int.not_le, beq_iff_eq, beq_eq_false_iff_ne, bne_iff_ne, ne_eq, Bool.not_not, Decidable.not_not] at h101
            have hfe : X2.fly = [] := List.eq_nil_of_length_eq_zero (by omega)
            obtain ⟨e1, e2⟩ := GF_end hg hG hfe
            have hac := accR_plus h0 (vs.length - 1) (by omega)
            rw [show vs.length - 1 + 1 = vs.length by omega, List.take_length, ← hsum] at hac
            refine J.condF rfl rfl ?_
            refine J.exit rfl rfl ?_
            refine J.seq rfl ?_
            refine J.region rfl ?_
            refine JO.pur rfl rfl rfl (Pur.move rfl) ?_
            refine JO.pur rfl rfl rfl (Pur.move rfl) ?_
            refine JO.imp (M := NB p Y :: GB p2 am cm bs X2 :: blk b5 (.cells #[.slice la l1.length lc, .slice ma l2.length mc] 60) :: L) (fun h s => SubC.out h s) ?_
            refine JO.effR rfl rfl rfl (Eff.call rfl (ncell_ok (X := Y) (q := r) (by omega))) ?_
            refine JO.pur rfl rfl rfl (Pur.move rfl) ?_
            refine JO.pur rfl rfl rfl (Pur.extract rfl rfl) ?_
            refine JO.pur rfl rfl rfl (Pur.extract rfl rfl) ?_
            refine JO.pur rfl rfl rfl (Pur.assign rfl) ?_
            refine JO.pur rfl rfl rfl (Pur.assign rfl) ?_
            refine JO.nil ?_
            refine J.seq rfl ?_
            refine J.seq rfl ?_
            refine J.region rfl ?_
            refine JO.pur rfl rfl rfl (Pur.assign rfl) ?_
            refine JO.nil ?_
            refine J.block rfl ?_
            refine J.imp (M := GB p2 am cm bs X2 :: NB p Y :: blk b5 (.cells #[.slice la l1.length lc, .slice ma l2.length mc] 60) :: L) (fun h s => SubC.out h s) ?_
            refine J.loopF (ι := Nat) (fun y => y ≤ vs.length) (fun y => [(21, .int .i64 (y : Int))]) [(9, _), (11, _), (17, _), (20, _)] (fun y => GB p2 am cm bs X2 :: NB p Y :: blk b5 (.cells #[.slice la l1.length lc, .slice ma l2.length mc] 60) :: L) (fun y => vs.length - y) 0 rfl (.cons rfl rfl (.cons rfl rfl (.cons rfl rfl (.cons rfl rfl .nil)))) (.cons rfl rfl .nil) (by first | exact fun _ h => h | exact SubC.out | (dsimp only; exact SubC.out)) (Nat.zero_le _) ?_
            rintro y hy ihy
            try dsimp only
            refine J.seq rfl ?_
            refine J.seq rfl ?_
            refine J.region rfl ?_
            refine JO.pur rfl rfl rfl (Pur.move rfl) ?_
            refine JO.pur rfl rfl rfl (Pur.move rfl) ?_
            refine JO.pur rfl rfl rfl (Pur.lss rfl rfl) ?_
            refine JO.nil ?_
            refine J.splitB 132 rfl (fun h132 => ?_) (fun h132 => ?_)
            · try simp only [decide_eq_true_eq, decide_eq_false_iff_not, Bool.not_eq_true', Bool.not_eq_false', Bool.and_eq_true, Bool.or_eq_true, Bool.and_eq_false_iff, Bool.or_eq_false_iff, Option.isNone_some, Option.isSome_some, Option.isNone_none, Option.isSome_none, Int.not_lt, Int.not_le, beq_iff_eq, beq_eq_false_iff_ne, bne_iff_ne, ne_eq, Bool.not_not, Decidable.not_not] at h132
              have hrr := e2 y (by omega)
              rw [resT_all (show sAll = sAll from rfl), hac] at hrr
              refine J.condT rfl rfl ?_
              refine J.skip rfl ?_
              refine J.seq rfl ?_
              refine J.block rfl ?_
              refine J.seq rfl ?_
              refine J.region rfl ?_
              refine JO.pur rfl rfl rfl (Pur.move rfl) ?_
              refine JO.pur rfl rfl rfl (Pur.move rfl) ?_
              refine JO.effR rfl rfl rfl (Eff.call rfl (result_ok (g := X2) (q := (y : Int)) q1)) ?_
              rw [hrr]
              refine JO.pur rfl rfl rfl (Pur.move rfl) ?_
              refine JO.pur rfl rfl rfl (Pur.extract rfl rfl) ?_
              refine JO.pur rfl rfl rfl (Pur.extract rfl rfl) ?_
              refine JO.pur rfl rfl rfl (Pur.assign rfl) ?_
              refine JO.pur rfl rfl rfl (Pur.assign rfl) ?_
              refine JO.nil ?_
              refine J.seq rfl ?_
              refine J.region rfl ?_
              refine JO.pur rfl rfl rfl (Pur.move rfl) ?_
              refine JO.pur rfl rfl rfl (Pur.move rfl) ?_
              refine JO.pur rfl rfl rfl (Pur.neqI rfl rfl) ?_
              refine JO.pur rfl rfl rfl (Pur.move rfl) ?_
              refine JO.setv (u' := .bool false) 144 rfl (congrArg Value.bool (decide_eq_false (fun h => h rfl))) ?_
              refine JO.pur rfl rfl rfl (Pur.move rfl) ?_
              refine JO.pur rfl rfl rfl (Pur.neqI rfl rfl) ?_
              refine JO.pur rfl rfl rfl (Pur.pickF rfl rfl) ?_
              refine JO.pur rfl rfl rfl (Pur.move rfl) ?_
              refine JO.setv (u' := .bool false) 148 rfl (congrArg Value.bool (decide_eq_false (fun h => h rfl))) ?_
              refine JO.pur rfl rfl rfl (Pur.move rfl) ?_
              refine JO.pur rfl rfl rfl (Pur.neqI rfl rfl) ?_
              refine JO.pur rfl rfl rfl (Pur.pickF rfl rfl) ?_
              refine JO.nil ?_
              refine J.setv (u' := .bool false) 151 rfl (congrArg Value.bool (decide_eq_false (fun h => h rfl))) ?_
              refine J.condF rfl rfl ?_
              refine J.skip rfl ?_
              refine J.inBlock ?_
              refine J.region rfl ?_
              refine JO.pur rfl rfl rfl (Pur.move rfl) ?_
              refine JO.pur rfl rfl rfl (Pur.add rfl rfl (wr64 (by omega))) ?_
              refine JO.pur rfl rfl rfl (Pur.assign rfl) ?_
              refine JO.nil ?_
              exact J.weaken (.cons rfl (congrArg (Value.int .i64) (by first | rfl | (dsimp only; omega))) (.cons rfl rfl (.cons rfl rfl (.cons rfl rfl (.cons rfl rfl .nil))))) (by first | exact fun _ h => h | exact SubC.out | (dsimp only; exact SubC.out)) (ihy (y + 1) (by omega) (by omega))
            · try simp only [decide_eq_true_eq, decide_eq_false_iff_not, Bool.not_eq_true', Bool.not_eq_false', Bool.and_eq_true, Bool.or_eq_true, Bool.and_eq_false_iff, Bool.or_eq_false_iff, Option.isNone_some, Option.isSome_some, Option.isNone_none, Option.isSome_none, Int.not_lt, Int.not_le, beq_iff_eq, beq_eq_false_iff_ne, bne_iff_ne, ne_eq, Bool.not_not, Decidable.not_not] at h132
              refine J.condF rfl rfl ?_
              refine J.exit rfl rfl ?_
              refine J.seq rfl ?_
              refine J.region rfl ?_
              refine JO.effR rfl rfl rfl (Eff.call rfl (nawake_ok)) ?_
              refine JO.pur rfl rfl rfl (Pur.assign rfl) ?_
              refine JO.nil ?_
              refine J.ret rfl rfl ?_
              refine ⟨_, _, ⟨rfl, rfl⟩, rfl, SubC.out⟩

end Go.Proofs.Ytoikjjpleonllaa
