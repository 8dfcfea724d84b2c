/-
  A part of the proof of the claim that this folder bears.
  This text: CDepth.
-/
import Derived.Test.YtekgkamjbnfgiaaCFirst
set_option linter.unusedVariables false
set_option linter.unusedSimpArgs false
namespace Go.Proofs.Ytekgkamjbnfgiaa
open Go Go.KK Ck

def RelT (xs : List Evt) (k : Nat) (tm : List (Int × Value)) : Prop := ∀ u : Nat, ∃ τ : Int, (alook tm (u : Int)).getD (.int .i64 0) = .int .i64 τ ∧ IsMx xs (Kn xs k u) τ
def gval (xs : List Evt) (k : Nat) (c : Str) : Int := if firstGive xs c < k then dep xs (firstGive xs c) else 0
def RelG (xs : List Evt) (k : Nat) (gm : List (ByteArray × Value)) : Prop := ∀ c : Str, (alook gm c).getD (.int .i64 0) = .int .i64 (gval xs k c)
theorem relT0 (xs : List Evt) : RelT xs 0 [] := fun u => ⟨0, rfl, mx_none xs fun i h => by have := h.lt; omega⟩
theorem relG0 (xs : List Evt) : RelG xs 0 [] := fun c => by unfold gval; rw [if_neg (by omega)]; rfl
theorem mx_b {l : List Evt} {S : Nat → Prop} {τ : Int} {k : Nat} (h : IsMx l S τ) (hS : ∀ i, S i → i < k) : 0 ≤ τ ∧ τ ≤ k := by
  refine ⟨h.1, ?_⟩
  rcases h.2.2 with h2 | ⟨i, h2, h3⟩
  · omega
  · have := hS i h2; have := dep_le l i; omega
theorem relT_own {xs : List Evt} (hf : Fine xs) {k : Nat} (hk : k < xs.length) {tm : List (Int × Value)} (h : RelT xs k tm) (hn : (ev xs k).act ≠ sFork) : RelT xs (k + 1) (aset tm (ev xs k).task (.int .i64 (dep xs k))) := fun u => by
  rw [alook_aset]
  have h0 := (hf k hk).t0
  by_cases e : (u : Int) = (ev xs k).task
  · rw [if_pos e]
    exact ⟨_, rfl, (mx_upto hf hk).congr fun i => kn_new hf hk (.inl (by unfold tk; omega))⟩
  · rw [if_neg e]
    obtain ⟨τ, h1, h2⟩ := h u
    exact ⟨τ, h1, h2.congr fun i => kn_old hf hk (by unfold tk; omega) (fun hh => hn hh.1)⟩
theorem relT_fork {xs : List Evt} (hf : Fine xs) {k : Nat} (hk : k < xs.length) {tm : List (Int × Value)} (h : RelT xs k tm) (hn : (ev xs k).act = sFork) : RelT xs (k + 1) (aset (aset tm (ev xs k).task (.int .i64 (dep xs k))) (ev xs k).other (.int .i64 (dep xs k))) := fun u => by
  rw [alook_aset, alook_aset]
  have h0 := (hf k hk).t0
  have ho := (hf k hk).fork hn
  by_cases e2 : (u : Int) = (ev xs k).other
  · rw [if_pos e2]
    exact ⟨_, rfl, (mx_upto hf hk).congr fun i => kn_new hf hk (.inr ⟨hn, by omega⟩)⟩
  · rw [if_neg e2]
    by_cases e : (u : Int) = (ev xs k).task
    · rw [if_pos e]
      exact ⟨_, rfl, (mx_upto hf hk).congr fun i => kn_new hf hk (.inl (by unfold tk; omega))⟩
    · rw [if_neg e]
      obtain ⟨τ, h1, h2⟩ := h u
      exact ⟨τ, h1, h2.congr fun i => kn_old hf hk (by unfold tk; omega) (fun hh => by omega)⟩
theorem gval_same {xs : List Evt} {k : Nat} {c : Str} (h : firstGive xs c ≠ k) : gval xs (k + 1) c = gval xs k c := by
  unfold gval
  by_cases e : firstGive xs c < k
  · rw [if_pos e, if_pos (by omega)]
  · rw [if_neg e, if_neg (by omega)]
theorem relG_no {xs : List Evt} {k : Nat} (hk : k < xs.length) {gm : List (ByteArray × Value)} (h : RelG xs k gm) (hn : (ev xs k).act ≠ sGive) : RelG xs (k + 1) gm := fun c => by
  rw [h c, gval_same (fun e => hn (first_give e hk).1)]
theorem relG_old {xs : List Evt} {k : Nat} (hk : k < xs.length) {gm : List (ByteArray × Value)} (h : RelG xs k gm) (hn : ¬ gval xs k (ev xs k).cell = 0) : RelG xs (k + 1) gm := fun c => by
  rw [h c, gval_same]
  intro e
  have := first_give e hk
  apply hn
  unfold gval; rw [this.2, if_neg (by omega)]
theorem relG_new {xs : List Evt} {k : Nat} (hk : k < xs.length) {gm : List (ByteArray × Value)} (h : RelG xs k gm) (hg : (ev xs k).act = sGive) (hn : gval xs k (ev xs k).cell = 0) : RelG xs (k + 1) (aset gm (ev xs k).cell (.int .i64 (dep xs k))) := fun c => by
  rw [alook_aset]
  have hle := first_le hk hg
  have he : firstGive xs (ev xs k).cell = k := by
    unfold gval at hn
    by_cases e : firstGive xs (ev xs k).cell < k
    · rw [if_pos e] at hn; have := dep_pos xs (firstGive xs (ev xs k).cell); omega
    · omega
  by_cases e : c = (ev xs k).cell
  · subst e
    rw [if_pos rfl]
    show Value.int .i64 _ = _
    unfold gval; rw [he, if_pos (by omega)]
  · rw [if_neg e, h c, gval_same (fun e2 => e (first_give e2 hk).2.symm)]
def depR (xs : List Evt) : Int := if errE xs = 0 then mostV xs xs.length else 0
theorem Depth_ok {L : List Asn} {b : Option Addr} {n cp : Nat} {xs : List Evt} [SlIn evE L b xs] (hn : n = xs.length) (hb : xs.length ≤ 9223372036854775807) :
    CallS Try.prog 28 [.slice b n cp].toArray L (fun v M => v = .tuple #[.int .i64 (depR xs), .int .i64 (errE xs)] ∧ M = L) := by
  subst hn
  refine CallS.ent ?_
  refine CallS.enter Try.func28 rfl rfl rfl rfl rfl ?_
  refine J.seq rfl ?_
  refine J.region rfl ?_
  refine JO.pur rfl rfl rfl (Pur.assign rfl) ?_
  refine JO.pur rfl rfl rfl (Pur.assign rfl) ?_
  refine JO.nil ?_
  refine J.seq rfl ?_
  refine J.seq rfl ?_
  refine J.region rfl ?_
  refine JO.pur rfl rfl rfl (Pur.move rfl) ?_
  refine JO.effR rfl rfl rfl (Eff.call rfl (asked_nil rfl hb)) ?_
  refine JO.pur rfl rfl rfl (Pur.assign rfl) ?_
  refine JO.nil ?_
  refine J.seq rfl ?_
  refine J.region rfl ?_
  refine JO.pur rfl rfl rfl (Pur.move rfl) ?_
  refine JO.pur rfl rfl rfl (Pur.neqI rfl rfl) ?_
  refine JO.nil ?_
  refine J.splitB 14 rfl (fun h14 => ?_) (fun h14 => ?_)
  · try simp only [decide_eq_true_eq, decide_eq_false_iff_not, Bool.not_eq_true', Bool.not_eq_false', Bool.and_eq_true, Bool.or_eq_true, Bool.and_eq_false_iff, Bool.or_eq_false_iff, Option.isNone_some, Option.isSome_some, Option.isNone_none, Option.isSome_none, Int.not_lt, Int.not_le, beq_iff_eq, beq_eq_false_iff_ne, bne_iff_ne, ne_eq, Bool.not_not, Decidable.not_not] at h14
    refine J.condT rfl rfl ?_
    refine J.seq rfl ?_
    refine J.region rfl ?_
    refine JO.pur rfl rfl rfl (Pur.move rfl) ?_
    refine JO.pur rfl rfl rfl (Pur.assign rfl) ?_
    refine JO.pur rfl rfl rfl (Pur.assign rfl) ?_
    refine JO.nil ?_
    refine J.ret rfl rfl ?_
    exact ⟨_, _, ⟨rfl, rfl⟩, (by rw [show depR xs = 0 by unfold depR; rw [if_neg h14]]; rfl), SubC.out⟩
  · try simp only [decide_eq_true_eq, decide_eq_false_iff_not, Bool.not_eq_true', Bool.not_eq_false', Bool.and_eq_true, Bool.or_eq_true, Bool.and_eq_false_iff, Bool.or_eq_false_iff, Option.isNone_some, Option.isSome_some, Option.isNone_none, Option.isSome_none, Int.not_lt, Int.not_le, beq_iff_eq, beq_eq_false_iff_ne, bne_iff_ne, ne_eq, Bool.not_not, Decidable.not_not] at h14
    have hR := err0 h14
    have hf := right_fine hR
    have hlen := right_len hR
    refine J.condF rfl rfl ?_
    refine J.skip rfl ?_
    refine J.seq rfl ?_
    refine J.region rfl ?_
    refine JO.eff rfl rfl rfl (Eff.makeMap intK) ?_
    rintro _ _ ⟨b16, rfl, rfl⟩
    refine JO.pur rfl rfl rfl (Pur.assign rfl) ?_
    refine JO.nil ?_
    refine J.seq rfl ?_
    refine J.region rfl ?_
    refine JO.eff rfl rfl rfl (Eff.makeMap strK) ?_
    rintro _ _ ⟨b17, rfl, rfl⟩
    refine JO.pur rfl rfl rfl (Pur.assign rfl) ?_
    refine JO.nil ?_
    refine J.seq rfl ?_
    refine J.region rfl ?_
    refine JO.pur rfl rfl rfl (Pur.assign rfl) ?_
    refine JO.nil ?_
    refine J.seq rfl ?_
    refine J.seq rfl ?_
    refine J.region rfl ?_
    refine JO.pur rfl rfl rfl (Pur.move rfl) ?_
    refine JO.pur rfl rfl rfl (Pur.len rfl) ?_
    refine JO.pur rfl rfl rfl (Pur.move rfl) ?_
    refine JO.nil ?_
    refine J.block rfl ?_
    refine J.loopF (ι := Nat × List (Int × Value) × List (ByteArray × Value)) (fun q => q.1 ≤ xs.length ∧ RelT xs q.1 q.2.1 ∧ RelG xs q.1 q.2.2) (fun q => [(7, .int .i64 (mostV xs q.1)), (20, .int .i64 (q.1 : Int))]) [(5, _), (6, _), (18, _), (19, _)] (fun q => mp intK b16 q.2.1 :: mp strK b17 q.2.2 :: L) (fun q => xs.length - q.1) (0, [], []) rfl (.cons rfl rfl (.cons rfl rfl (.cons rfl rfl (.cons rfl rfl .nil)))) (.cons rfl rfl (.cons rfl rfl .nil)) (by first | exact fun _ h => h | exact SubC.out | (dsimp only; exact SubC.out)) ⟨Nat.zero_le _, relT0 xs, relG0 xs⟩ ?_
    rintro ⟨k, tm, gm⟩ ⟨hk, hT, hG⟩ ih0
    try dsimp only
    dsimp only at hk hT hG
    have hmb := mostV_le xs k
    refine J.seq rfl ?_
    refine J.region rfl ?_
    refine JO.pur rfl rfl rfl (Pur.lss rfl rfl) ?_
    refine JO.nil ?_
    refine J.seq rfl ?_
    refine J.splitB 21 rfl (fun h21 => ?_) (fun h21 => ?_)
    · try simp only [decide_eq_true_eq, decide_eq_false_iff_not, Bool.not_eq_true', Bool.not_eq_false', Bool.and_eq_true, Bool.or_eq_true, Bool.and_eq_false_iff, Bool.or_eq_false_iff, Option.isNone_some, Option.isSome_some, Option.isNone_none, Option.isSome_none, Int.not_lt, Int.not_le, beq_iff_eq, beq_eq_false_iff_ne, bne_iff_ne, ne_eq, Bool.not_not, Decidable.not_not] at h21
      have hkl : k < xs.length := by omega
      have hF := hf k hkl
      have htk : (Ck.ev xs k).task = ((tk xs k : Nat) : Int) := (Int.toNat_of_nonneg hF.t0).symm
      obtain ⟨τ, hτ, hmx⟩ := hT (tk xs k)
      have hτb := mx_b hmx (fun i hi => hi.lt)
      have hdb := dep_le xs k
      have hdp := dep_pos xs k
      refine J.condT rfl rfl ?_
      refine J.skip rfl ?_
      refine J.seq rfl ?_
      refine J.block rfl ?_
      refine J.seq rfl ?_
      refine J.region rfl ?_
      refine JO.pur rfl rfl rfl (Pur.idx rfl rfl rfl (by first | rfl | (simp; done) | omega) (by first | rfl | exact (Int.toNat_of_nonneg (by omega)).symm) (by first | omega | (simp only [List.length_map]; omega) | (simp; omega))) ?_
      refine JO.pur rfl rfl rfl (Pur.loadA rfl rfl rfl (CellsIn.el rfl (ev_get (by omega)))) ?_
      refine JO.eff rfl rfl rfl (Eff.alloc (cs := [_, _, _, _]) rfl) ?_
      rintro _ _ ⟨b9, rfl, rfl⟩
      refine JO.effN rfl rfl (Eff.storeBA (cs' := [_, _, _, _]) rfl rfl (by rfl) (by rfl) (by rfl)) ?_
      rintro _ _ ⟨rfl, rfl⟩
      refine JO.nil ?_
      refine J.seq rfl ?_
      refine J.region rfl ?_
      refine JO.pur rfl rfl rfl (Pur.move rfl) ?_
      refine JO.pur rfl rfl rfl (Pur.fieldAddr rfl) ?_
      refine JO.pur rfl rfl rfl (Pur.load rfl (CellIn.blk rfl)) ?_
      refine JO.pur rfl rfl rfl (Pur.lookup rfl rfl) ?_
      refine JO.setv (u' := .int .i64 τ) 27 rfl (by rw [← hτ]; exact congrArg (fun z => (alook tm z).getD (.int .i64 0)) htk) ?_
      refine JO.pur rfl rfl rfl (Pur.assign rfl) ?_
      refine JO.nil ?_
      refine J.seq rfl ?_
      refine J.seq rfl ?_
      refine J.region rfl ?_
      refine JO.pur rfl rfl rfl (Pur.fieldAddr rfl) ?_
      refine JO.pur rfl rfl rfl (Pur.load rfl (CellIn.blk rfl)) ?_
      refine JO.nil ?_
      refine J.cut (ι := Unit) (fun q => True) (fun q => [(10, .int .i64 (dep xs k - 1))]) [(5, _), (6, _), (7, _), (9, _), (18, _), (19, _), (20, _)] (fun q => blk b9 (.cells #[.int .i64 (ev xs k).task, .string (ev xs k).act, .int .i64 (ev xs k).other, .string (ev xs k).cell] 41 (0, 0)) :: mp intK b16 tm :: mp strK b17 gm :: L) (.cons rfl rfl (.cons rfl rfl (.cons rfl rfl (.cons rfl rfl (.cons rfl rfl (.cons rfl rfl (.cons rfl rfl .nil))))))) ?_ ?_
      · rintro - -
        try dsimp only
        refine J.seq rfl ?_
        refine J.region rfl ?_
        refine JO.pur rfl rfl rfl (Pur.move rfl) ?_
        refine JO.pur rfl rfl rfl (Pur.add rfl rfl (wr64 (by omega))) ?_
        refine JO.setv (u' := .int .i64 (dep xs k)) 47 rfl (congrArg (Value.int .i64) (by omega)) ?_
        refine JO.pur rfl rfl rfl (Pur.assign rfl) ?_
        refine JO.nil ?_
        refine J.seq rfl ?_
        refine J.region rfl ?_
        refine JO.pur rfl rfl rfl (Pur.move rfl) ?_
        refine JO.pur rfl rfl rfl (Pur.fieldAddr rfl) ?_
        refine JO.pur rfl rfl rfl (Pur.load rfl (CellIn.blk rfl)) ?_
        refine JO.pur rfl rfl rfl (Pur.move rfl) ?_
        refine JO.effN rfl rfl (Eff.mapUpdate rfl rfl rfl) ?_
        rintro _ _ ⟨rfl, rfl⟩
        refine JO.nil ?_
        refine J.seq rfl ?_
        refine J.seq rfl ?_
        refine J.region rfl ?_
        refine JO.pur rfl rfl rfl (Pur.fieldAddr rfl) ?_
        refine JO.pur rfl rfl rfl (Pur.load rfl (CellIn.blk rfl)) ?_
        refine JO.nil ?_
        refine J.block rfl ?_
        refine J.seq rfl ?_
        refine J.region rfl ?_
        refine JO.pur rfl rfl rfl (Pur.eqlT rfl rfl) ?_
        refine JO.pur rfl rfl rfl (Pur.assign rfl) ?_
        refine JO.nil ?_
        refine J.splitB 54 rfl (fun h54 => ?_) (fun h54 => ?_)
        · try simp only [decide_eq_true_eq, decide_eq_false_iff_not, Bool.not_eq_true', Bool.not_eq_false', Bool.and_eq_true, Bool.or_eq_true, Bool.and_eq_false_iff, Bool.or_eq_false_iff, Option.isNone_some, Option.isSome_some, Option.isNone_none, Option.isSome_none, Int.not_lt, Int.not_le, beq_iff_eq, beq_eq_false_iff_ne, bne_iff_ne, ne_eq, Bool.not_not, Decidable.not_not] at h54
          have hT1 := relT_fork hf hkl hT h54
          have hG1 := relG_no hkl hG (show (Ck.ev xs k).act ≠ sGive by rw [show (Ck.ev xs k).act = sFork from h54]; decide)
          refine J.condT rfl rfl ?_
          refine J.region rfl ?_
          refine JO.pur rfl rfl rfl (Pur.move rfl) ?_
          refine JO.pur rfl rfl rfl (Pur.fieldAddr rfl) ?_
          refine JO.pur rfl rfl rfl (Pur.load rfl (CellIn.blk rfl)) ?_
          refine JO.pur rfl rfl rfl (Pur.move rfl) ?_
          refine JO.effN rfl rfl (Eff.mapUpdate rfl rfl rfl) ?_
          rintro _ _ ⟨rfl, rfl⟩
          refine JO.nil ?_
          refine J.inBlock ?_
          refine J.region rfl ?_
          refine JO.pur rfl rfl rfl (Pur.move rfl) ?_
          refine JO.pur rfl rfl rfl (Pur.move rfl) ?_
          refine JO.pur rfl rfl rfl (Pur.max2 rfl rfl) ?_
          refine JO.pur rfl rfl rfl (Pur.assign rfl) ?_
          refine JO.nil ?_
          refine J.inBlock ?_
          refine J.region rfl ?_
          refine JO.pur rfl rfl rfl (Pur.add rfl rfl (wr64 (by omega))) ?_
          refine JO.pur rfl rfl rfl (Pur.move rfl) ?_
          refine JO.nil ?_
          exact J.weaken (.cons rfl (by dsimp only; rw [mostV_next]) (.cons rfl (congrArg (Value.int .i64) (by dsimp only; omega)) (.cons rfl rfl (.cons rfl rfl (.cons rfl rfl (.cons rfl rfl .nil)))))) (by first | exact fun _ h => h | exact SubC.out | (dsimp only; exact SubC.out)) (ih0 (k + 1, aset (aset tm (Ck.ev xs k).task (.int .i64 (dep xs k))) (Ck.ev xs k).other (.int .i64 (dep xs k)), gm) ⟨(by dsimp only; omega), hT1, hG1⟩ (by dsimp only; omega))
        · try simp only [decide_eq_true_eq, decide_eq_false_iff_not, Bool.not_eq_true', Bool.not_eq_false', Bool.and_eq_true, Bool.or_eq_true, Bool.and_eq_false_iff, Bool.or_eq_false_iff, Option.isNone_some, Option.isSome_some, Option.isNone_none, Option.isSome_none, Int.not_lt, Int.not_le, beq_iff_eq, beq_eq_false_iff_ne, bne_iff_ne, ne_eq, Bool.not_not, Decidable.not_not] at h54
          have hT1 := relT_own hf hkl hT h54
          refine J.condF rfl rfl ?_
          refine J.seq rfl ?_
          refine J.region rfl ?_
          refine JO.pur rfl rfl rfl (Pur.eqlT rfl rfl) ?_
          refine JO.pur rfl rfl rfl (Pur.assign rfl) ?_
          refine JO.nil ?_
          refine J.splitB 60 rfl (fun h60 => ?_) (fun h60 => ?_)
          · try simp only [decide_eq_true_eq, decide_eq_false_iff_not, Bool.not_eq_true', Bool.not_eq_false', Bool.and_eq_true, Bool.or_eq_true, Bool.and_eq_false_iff, Bool.or_eq_false_iff, Option.isNone_some, Option.isSome_some, Option.isNone_none, Option.isSome_none, Int.not_lt, Int.not_le, beq_iff_eq, beq_eq_false_iff_ne, bne_iff_ne, ne_eq, Bool.not_not, Decidable.not_not] at h60
            refine J.condT rfl rfl ?_
            refine J.seq rfl ?_
            refine J.region rfl ?_
            refine JO.pur rfl rfl rfl (Pur.move rfl) ?_
            refine JO.pur rfl rfl rfl (Pur.fieldAddr rfl) ?_
            refine JO.pur rfl rfl rfl (Pur.load rfl (CellIn.blk rfl)) ?_
            refine JO.pur rfl rfl rfl (Pur.lookup rfl rfl) ?_
            refine JO.setv (u' := .int .i64 (gval xs k (Ck.ev xs k).cell)) 65 rfl (hG _) ?_
            refine JO.pur rfl rfl rfl (Pur.eqlI rfl rfl) ?_
            refine JO.nil ?_
            refine J.splitB 66 rfl (fun h66 => ?_) (fun h66 => ?_)
            · try simp only [decide_eq_true_eq, decide_eq_false_iff_not, Bool.not_eq_true', Bool.not_eq_false', Bool.and_eq_true, Bool.or_eq_true, Bool.and_eq_false_iff, Bool.or_eq_false_iff, Option.isNone_some, Option.isSome_some, Option.isNone_none, Option.isSome_none, Int.not_lt, Int.not_le, beq_iff_eq, beq_eq_false_iff_ne, bne_iff_ne, ne_eq, Bool.not_not, Decidable.not_not] at h66
              have hG1 := relG_new hkl hG h60 h66
              refine J.condT rfl rfl ?_
              refine J.region rfl ?_
              refine JO.pur rfl rfl rfl (Pur.move rfl) ?_
              refine JO.pur rfl rfl rfl (Pur.fieldAddr rfl) ?_
              refine JO.pur rfl rfl rfl (Pur.load rfl (CellIn.blk rfl)) ?_
              refine JO.pur rfl rfl rfl (Pur.move rfl) ?_
              refine JO.effN rfl rfl (Eff.mapUpdate rfl rfl rfl) ?_
              rintro _ _ ⟨rfl, rfl⟩
              refine JO.nil ?_
              refine J.inBlock ?_
              refine J.region rfl ?_
              refine JO.pur rfl rfl rfl (Pur.move rfl) ?_
              refine JO.pur rfl rfl rfl (Pur.move rfl) ?_
              refine JO.pur rfl rfl rfl (Pur.max2 rfl rfl) ?_
              refine JO.pur rfl rfl rfl (Pur.assign rfl) ?_
              refine JO.nil ?_
              refine J.inBlock ?_
              refine J.region rfl ?_
              refine JO.pur rfl rfl rfl (Pur.add rfl rfl (wr64 (by omega))) ?_
              refine JO.pur rfl rfl rfl (Pur.move rfl) ?_
              refine JO.nil ?_
              exact J.weaken (.cons rfl (by dsimp only; rw [mostV_next]) (.cons rfl (congrArg (Value.int .i64) (by dsimp only; omega)) (.cons rfl rfl (.cons rfl rfl (.cons rfl rfl (.cons rfl rfl .nil)))))) (by first | exact fun _ h => h | exact SubC.out | (dsimp only; exact SubC.out)) (ih0 (k + 1, aset tm (Ck.ev xs k).task (.int .i64 (dep xs k)), aset gm (Ck.ev xs k).cell (.int .i64 (dep xs k))) ⟨(by dsimp only; omega), hT1, hG1⟩ (by dsimp only; omega))
            · try simp only [decide_eq_true_eq, decide_eq_false_iff_not, Bool.not_eq_true', Bool.not_eq_false', Bool.and_eq_true, Bool.or_eq_true, Bool.and_eq_false_iff, Bool.or_eq_false_iff, Option.isNone_some, Option.isSome_some, Option.isNone_none, Option.isSome_none, Int.not_lt, Int.not_le, beq_iff_eq, beq_eq_false_iff_ne, bne_iff_ne, ne_eq, Bool.not_not, Decidable.not_not] at h66
              have hG1 := relG_old hkl hG h66
              refine J.condF rfl rfl ?_
              refine J.skip rfl ?_
              refine J.inBlock ?_
              refine J.region rfl ?_
              refine JO.pur rfl rfl rfl (Pur.move rfl) ?_
              refine JO.pur rfl rfl rfl (Pur.move rfl) ?_
              refine JO.pur rfl rfl rfl (Pur.max2 rfl rfl) ?_
              refine JO.pur rfl rfl rfl (Pur.assign rfl) ?_
              refine JO.nil ?_
              refine J.inBlock ?_
              refine J.region rfl ?_
              refine JO.pur rfl rfl rfl (Pur.add rfl rfl (wr64 (by omega))) ?_
              refine JO.pur rfl rfl rfl (Pur.move rfl) ?_
              refine JO.nil ?_
              exact J.weaken (.cons rfl (by dsimp only; rw [mostV_next]) (.cons rfl (congrArg (Value.int .i64) (by dsimp only; omega)) (.cons rfl rfl (.cons rfl rfl (.cons rfl rfl (.cons rfl rfl .nil)))))) (by first | exact fun _ h => h | exact SubC.out | (dsimp only; exact SubC.out)) (ih0 (k + 1, aset tm (Ck.ev xs k).task (.int .i64 (dep xs k)), gm) ⟨(by dsimp only; omega), hT1, hG1⟩ (by dsimp only; omega))
          · try simp only [decide_eq_true_eq, decide_eq_false_iff_not, Bool.not_eq_true', Bool.not_eq_false', Bool.and_eq_true, Bool.or_eq_true, Bool.and_eq_false_iff, Bool.or_eq_false_iff, Option.isNone_some, Option.isSome_some, Option.isNone_none, Option.isSome_none, Int.not_lt, Int.not_le, beq_iff_eq, beq_eq_false_iff_ne, bne_iff_ne, ne_eq, Bool.not_not, Decidable.not_not] at h60
            have hG1 := relG_no hkl hG h60
            refine J.condF rfl rfl ?_
            refine J.skip rfl ?_
            refine J.inBlock ?_
            refine J.region rfl ?_
            refine JO.pur rfl rfl rfl (Pur.move rfl) ?_
            refine JO.pur rfl rfl rfl (Pur.move rfl) ?_
            refine JO.pur rfl rfl rfl (Pur.max2 rfl rfl) ?_
            refine JO.pur rfl rfl rfl (Pur.assign rfl) ?_
            refine JO.nil ?_
            refine J.inBlock ?_
            refine J.region rfl ?_
            refine JO.pur rfl rfl rfl (Pur.add rfl rfl (wr64 (by omega))) ?_
            refine JO.pur rfl rfl rfl (Pur.move rfl) ?_
            refine JO.nil ?_
            exact J.weaken (.cons rfl (by dsimp only; rw [mostV_next]) (.cons rfl (congrArg (Value.int .i64) (by dsimp only; omega)) (.cons rfl rfl (.cons rfl rfl (.cons rfl rfl (.cons rfl rfl .nil)))))) (by first | exact fun _ h => h | exact SubC.out | (dsimp only; exact SubC.out)) (ih0 (k + 1, aset tm (Ck.ev xs k).task (.int .i64 (dep xs k)), gm) ⟨(by dsimp only; omega), hT1, hG1⟩ (by dsimp only; omega))
      · intro cut2
        refine J.block rfl ?_
        refine J.seq rfl ?_
        refine J.region rfl ?_
        refine JO.pur rfl rfl rfl (Pur.eqlT rfl rfl) ?_
        refine JO.pur rfl rfl rfl (Pur.assign rfl) ?_
        refine JO.nil ?_
        refine J.splitB 30 rfl (fun h30 => ?_) (fun h30 => ?_)
        · try simp only [decide_eq_true_eq, decide_eq_false_iff_not, Bool.not_eq_true', Bool.not_eq_false', Bool.and_eq_true, Bool.or_eq_true, Bool.and_eq_false_iff, Bool.or_eq_false_iff, Option.isNone_some, Option.isSome_some, Option.isNone_none, Option.isSome_none, Int.not_lt, Int.not_le, beq_iff_eq, beq_eq_false_iff_ne, bne_iff_ne, ne_eq, Bool.not_not, Decidable.not_not] at h30
          have hJ : (Ck.ev xs k).act = sJoin := h30
          obtain ⟨τ2, hτ2, hmx2⟩ := hT (Ck.ev xs k).other.toNat
          have hok : (Ck.ev xs k).other = (((Ck.ev xs k).other.toNat : Nat) : Int) := (Int.toNat_of_nonneg (hF.join hJ).1).symm
          refine J.condT rfl rfl ?_
          refine J.region rfl ?_
          refine JO.pur rfl rfl rfl (Pur.move rfl) ?_
          refine JO.pur rfl rfl rfl (Pur.move rfl) ?_
          refine JO.pur rfl rfl rfl (Pur.fieldAddr rfl) ?_
          refine JO.pur rfl rfl rfl (Pur.load rfl (CellIn.blk rfl)) ?_
          refine JO.pur rfl rfl rfl (Pur.lookup rfl rfl) ?_
          refine JO.setv (u' := .int .i64 τ2) 36 rfl (by rw [← hτ2]; exact congrArg (fun z => (alook tm z).getD (.int .i64 0)) hok) ?_
          refine JO.pur rfl rfl rfl (Pur.max2 rfl rfl) ?_
          refine JO.pur rfl rfl rfl (Pur.assign rfl) ?_
          refine JO.nil ?_
          refine J.inBlock ?_
          have hval : max τ τ2 = dep xs k - 1 := (hmx.max hmx2 (fun i => bef_join hf hkl hJ)).uniq (mx_bef hf hkl) (fun _ => Iff.rfl)
          exact J.weaken (.cons rfl (congrArg (Value.int .i64) hval) (.cons rfl rfl (.cons rfl rfl (.cons rfl rfl (.cons rfl rfl (.cons rfl rfl (.cons rfl rfl (.cons rfl rfl .nil)))))))) (by first | exact fun _ h => h | exact SubC.out | (dsimp only; exact SubC.out)) (cut2 () trivial)
        · try simp only [decide_eq_true_eq, decide_eq_false_iff_not, Bool.not_eq_true', Bool.not_eq_false', Bool.and_eq_true, Bool.or_eq_true, Bool.and_eq_false_iff, Bool.or_eq_false_iff, Option.isNone_some, Option.isSome_some, Option.isNone_none, Option.isSome_none, Int.not_lt, Int.not_le, beq_iff_eq, beq_eq_false_iff_ne, bne_iff_ne, ne_eq, Bool.not_not, Decidable.not_not] at h30
          refine J.condF rfl rfl ?_
          refine J.seq rfl ?_
          refine J.region rfl ?_
          refine JO.pur rfl rfl rfl (Pur.eqlT rfl rfl) ?_
          refine JO.pur rfl rfl rfl (Pur.assign rfl) ?_
          refine JO.nil ?_
          refine J.splitB 38 rfl (fun h38 => ?_) (fun h38 => ?_)
          · try simp only [decide_eq_true_eq, decide_eq_false_iff_not, Bool.not_eq_true', Bool.not_eq_false', Bool.and_eq_true, Bool.or_eq_true, Bool.and_eq_false_iff, Bool.or_eq_false_iff, Option.isNone_some, Option.isSome_some, Option.isNone_none, Option.isSome_none, Int.not_lt, Int.not_le, beq_iff_eq, beq_eq_false_iff_ne, bne_iff_ne, ne_eq, Bool.not_not, Decidable.not_not] at h38
            have hGe : (Ck.ev xs k).act = sGet := h38
            have hfg := hF.get hGe
            refine J.condT rfl rfl ?_
            refine J.region rfl ?_
            refine JO.pur rfl rfl rfl (Pur.move rfl) ?_
            refine JO.pur rfl rfl rfl (Pur.move rfl) ?_
            refine JO.pur rfl rfl rfl (Pur.fieldAddr rfl) ?_
            refine JO.pur rfl rfl rfl (Pur.load rfl (CellIn.blk rfl)) ?_
            refine JO.pur rfl rfl rfl (Pur.lookup rfl rfl) ?_
            refine JO.setv (u' := .int .i64 (dep xs (firstGive xs (Ck.ev xs k).cell))) 44 rfl ((hG _).trans (by unfold gval; rw [if_pos hfg])) ?_
            refine JO.pur rfl rfl rfl (Pur.max2 rfl rfl) ?_
            refine JO.pur rfl rfl rfl (Pur.assign rfl) ?_
            refine JO.nil ?_
            refine J.inBlock ?_
            have hval : max τ (dep xs (firstGive xs (Ck.ev xs k).cell)) = dep xs k - 1 := (hmx.max (mx_upto hf (by omega)) (fun i => bef_get hf hkl hGe)).uniq (mx_bef hf hkl) (fun _ => Iff.rfl)
            exact J.weaken (.cons rfl (congrArg (Value.int .i64) hval) (.cons rfl rfl (.cons rfl rfl (.cons rfl rfl (.cons rfl rfl (.cons rfl rfl (.cons rfl rfl (.cons rfl rfl .nil)))))))) (by first | exact fun _ h => h | exact SubC.out | (dsimp only; exact SubC.out)) (cut2 () trivial)
          · try simp only [decide_eq_true_eq, decide_eq_false_iff_not, Bool.not_eq_true', Bool.not_eq_false', Bool.and_eq_true, Bool.or_eq_true, Bool.and_eq_false_iff, Bool.or_eq_false_iff, Option.isNone_some, Option.isSome_some, Option.isNone_none, Option.isSome_none, Int.not_lt, Int.not_le, beq_iff_eq, beq_eq_false_iff_ne, bne_iff_ne, ne_eq, Bool.not_not, Decidable.not_not] at h38
            refine J.condF rfl rfl ?_
            refine J.skip rfl ?_
            refine J.inBlock ?_
            have hval : τ = dep xs k - 1 := (hmx.congr (fun i => bef_else hf hkl h30 h38)).uniq (mx_bef hf hkl) (fun _ => Iff.rfl)
            exact J.weaken (.cons rfl (congrArg (Value.int .i64) hval) (.cons rfl rfl (.cons rfl rfl (.cons rfl rfl (.cons rfl rfl (.cons rfl rfl (.cons rfl rfl (.cons rfl rfl .nil)))))))) (by first | exact fun _ h => h | exact SubC.out | (dsimp only; exact SubC.out)) (cut2 () trivial)
    · try simp only [decide_eq_true_eq, decide_eq_false_iff_not, Bool.not_eq_true', Bool.not_eq_false', Bool.and_eq_true, Bool.or_eq_true, Bool.and_eq_false_iff, Bool.or_eq_false_iff, Option.isNone_some, Option.isSome_some, Option.isNone_none, Option.isSome_none, Int.not_lt, Int.not_le, beq_iff_eq, beq_eq_false_iff_ne, bne_iff_ne, ne_eq, Bool.not_not, Decidable.not_not] at h21
      refine J.condF rfl rfl ?_
      refine J.exit rfl rfl ?_
      refine J.seq rfl ?_
      refine J.region rfl ?_
      refine JO.pur rfl rfl rfl (Pur.move rfl) ?_
      refine JO.pur rfl rfl rfl (Pur.assign rfl) ?_
      refine JO.pur rfl rfl rfl (Pur.assign rfl) ?_
      refine JO.nil ?_
      refine J.ret rfl rfl ?_
      have hkn : k = xs.length := by omega
      subst hkn
      exact ⟨_, _, ⟨rfl, rfl⟩, (by rw [show depR xs = mostV xs xs.length by unfold depR; rw [if_pos h14], h14]; rfl), SubC.out⟩

def dlist (xs : List Evt) (k m : Nat) : List Int := dpS xs k ++ dval xs (dpS xs k) k m :: List.replicate (xs.length - k - 1) 0
def dout (xs : List Evt) (k : Nat) : List Int := dpS xs k ++ List.replicate (xs.length - k) 0
theorem dlist_len {xs : List Evt} {k m : Nat} (h : k < xs.length) : (dlist xs k m).length = xs.length := by simp [dlist, dpS_len]; omega
theorem dout_len {xs : List Evt} {k : Nat} (h : k ≤ xs.length) : (dout xs k).length = xs.length := by simp [dout, dpS_len]; omega
theorem dlist_k {xs : List Evt} {k m : Nat} : (dlist xs k m)[k]? = some (dval xs (dpS xs k) k m) := by
  unfold dlist; rw [List.getElem?_append_right (by rw [dpS_len]; exact Nat.le_refl _), dpS_len]; simp
theorem dlist_m {xs : List Evt} {k m i : Nat} (h : i < k) : (dlist xs k m)[i]? = some (dep xs i) := by
  unfold dlist; rw [List.getElem?_append_left (by rw [dpS_len]; exact h), getD_get (d := 0) (by rw [dpS_len]; exact h), dpS_get xs h]
theorem dlist_set {xs : List Evt} {k m : Nat} {d : Int} (h : k < xs.length) (hd : d = dval xs (dpS xs k) k (m + 1)) : (dlist xs k m).set k d = dlist xs k (m + 1) := by
  unfold dlist; rw [List.set_append_right _ _ (by rw [dpS_len]; exact Nat.le_refl _), dpS_len, Nat.sub_self, List.set_cons_zero, hd]
theorem dout_set {xs : List Evt} {k : Nat} (h : k < xs.length) : (dout xs k).set k 1 = dlist xs k 0 := by
  unfold dout dlist
  rw [List.set_append_right _ _ (by rw [dpS_len]; exact Nat.le_refl _), dpS_len, Nat.sub_self]
  obtain ⟨m, hm⟩ : ∃ m, xs.length - k = m + 1 := ⟨xs.length - k - 1, by omega⟩
  rw [hm, List.replicate_succ, List.set_cons_zero]; rfl
theorem dlist_all {xs : List Evt} {k : Nat} : dlist xs k k = dout xs (k + 1) := by
  unfold dlist dout
  rw [show dpS xs (k + 1) = dpS xs k ++ [dval xs (dpS xs k) k k] from rfl, List.append_assoc, show xs.length - (k + 1) = xs.length - k - 1 by omega]; rfl
theorem dval_b {xs : List Evt} {k : Nat} : ∀ m, m ≤ k → 1 ≤ dval xs (dpS xs k) k m ∧ dval xs (dpS xs k) k m ≤ k + 1 := fun m hm => by
  refine ⟨by have := (dval_mx xs k m hm).1; omega, dval_le (by omega) m fun i hi => ?_⟩
  rw [dpS_get xs (by omega)]; have := dep_le xs i; omega
theorem rDepth_ok {L : List Asn} {b : Option Addr} {n cp : Nat} {xs : List Evt} [SlIn evE L b xs] (hn : n = xs.length) (hb : xs.length ≤ 9223372036854775807) :
    CallS Try.prog 29 [.slice b n cp].toArray L (fun v M => v = .tuple #[.int .i64 (depR xs), .int .i64 (errE xs)] ∧ M = L) := by
  subst hn
  refine CallS.ent ?_
  refine CallS.enter Try.func29 rfl rfl rfl rfl rfl ?_
  refine J.seq rfl ?_
  refine J.region rfl ?_
  refine JO.pur rfl rfl rfl (Pur.assign rfl) ?_
  refine JO.pur rfl rfl rfl (Pur.assign rfl) ?_
  refine JO.nil ?_
  refine J.seq rfl ?_
  refine J.seq rfl ?_
  refine J.region rfl ?_
  refine JO.pur rfl rfl rfl (Pur.move rfl) ?_
  refine JO.effR rfl rfl rfl (Eff.call rfl (rright_ok rfl hb)) ?_
  refine JO.pur rfl rfl rfl (Pur.not rfl) ?_
  refine JO.nil ?_
  refine J.splitB 11 rfl (fun h11 => ?_) (fun h11 => ?_)
  · try simp only [decide_eq_true_eq, decide_eq_false_iff_not, Bool.not_eq_true', Bool.not_eq_false', Bool.and_eq_true, Bool.or_eq_true, Bool.and_eq_false_iff, Bool.or_eq_false_iff, Option.isNone_some, Option.isSome_some, Option.isNone_none, Option.isSome_none, Int.not_lt, Int.not_le, beq_iff_eq, beq_eq_false_iff_ne, bne_iff_ne, ne_eq, Bool.not_not, Decidable.not_not] at h11
    have hask : errE xs = 130 := ask_no (by simpa using h11)
    refine J.condT rfl rfl ?_
    refine J.seq rfl ?_
    refine J.region rfl ?_
    refine JO.pur rfl rfl rfl (Pur.assign rfl) ?_
    refine JO.pur rfl rfl rfl (Pur.assign rfl) ?_
    refine JO.nil ?_
    refine J.ret rfl rfl ?_
    exact ⟨_, _, ⟨rfl, rfl⟩, (by rw [show depR xs = 0 by unfold depR; rw [if_neg (by rw [hask]; decide)], hask]; rfl), SubC.out⟩
  · try simp only [decide_eq_true_eq, decide_eq_false_iff_not, Bool.not_eq_true', Bool.not_eq_false', Bool.and_eq_true, Bool.or_eq_true, Bool.and_eq_false_iff, Bool.or_eq_false_iff, Option.isNone_some, Option.isSome_some, Option.isNone_none, Option.isSome_none, Int.not_lt, Int.not_le, beq_iff_eq, beq_eq_false_iff_ne, bne_iff_ne, ne_eq, Bool.not_not, Decidable.not_not] at h11
    have hR : rightB xs = true := by simpa using h11
    have hf := right_fine hR
    have hlen := right_len hR
    have he0 := err_ok hR
    refine J.condF rfl rfl ?_
    refine J.skip rfl ?_
    refine J.seq rfl ?_
    refine J.region rfl ?_
    refine JO.pur rfl rfl rfl (Pur.move rfl) ?_
    refine JO.eff rfl rfl rfl (Eff.call rfl (table_ok rfl hlen)) ?_
    rintro _ _ ⟨a24, c24, hs24, tab, hU, rfl, rfl⟩
    refine JO.fact (fun h s => KK.RowsIn.n (hs := hs24) s) fun hnn => ?_
    have hhl : hs24.length = xs.length := by rw [rows_len hnn]; exact hU.1
    have kh : ∀ q, q < xs.length → hs24[q]? = some (hs24.getD q default) := fun q hq => getD_get (by omega)
    have kt : ∀ q, q < xs.length → tab[q]? = some (tab.getD q []) := fun q hq => getD_get (by rw [hU.1]; omega)
    have kn := fun q hq => hdr_n hnn (kh q hq) (kt q hq)
    have kl := fun q hq => (hU.2 q hq).1
    have kv := fun q (hq : q < xs.length) j (hj : j < xs.length) => befV_of hf hj hq ((hU.2 q hq).2 j hj)
    refine JO.pur rfl rfl rfl (Pur.assign rfl) ?_
    refine JO.nil ?_
    refine J.seq rfl ?_
    refine J.region rfl ?_
    refine JO.pur rfl rfl rfl (Pur.move rfl) ?_
    refine JO.pur rfl rfl rfl (Pur.len rfl) ?_
    refine JO.eff rfl rfl rfl (Eff.make intE 0 rfl rfl rfl rfl rfl (by decide) (by omega) (by omega)) ?_
    rintro _ _ ⟨b16, rfl, rfl⟩
    refine JO.pur rfl rfl rfl (Pur.assign rfl) ?_
    refine JO.nil ?_
    refine J.seq rfl ?_
    refine J.region rfl ?_
    refine JO.pur rfl rfl rfl (Pur.assign rfl) ?_
    refine JO.nil ?_
    refine J.seq rfl ?_
    refine J.seq rfl ?_
    refine J.region rfl ?_
    refine JO.pur rfl rfl rfl (Pur.assign rfl) ?_
    refine JO.nil ?_
    refine J.block rfl ?_
    refine J.loopF (ι := Nat) (fun i => i ≤ xs.length) (fun i => [(6, .int .i64 (mostV xs i)), (7, .int .i64 (i : Int))]) [(0, _), (4, _), (5, _)] (fun i => sl intE (some ⟨b16, 0, none⟩) xs.length (dout xs i) :: sl rowBE a24 c24 hs24 :: rows boolE hs24 tab :: L) (fun i => xs.length - i) 0 rfl (.cons rfl rfl (.cons rfl rfl (.cons rfl rfl .nil))) (.cons rfl rfl (.cons rfl rfl .nil)) (fun h s => by rw [show dout xs 0 = List.replicate xs.length 0 by simp [dout, dpS]]; exact SubC.out h s) (Nat.zero_le _) ?_
    rintro k hk ih0
    try dsimp only
    have hmb := mostV_le xs k
    have hol := dout_len hk
    refine J.seq rfl ?_
    refine J.seq rfl ?_
    refine J.region rfl ?_
    refine JO.pur rfl rfl rfl (Pur.move rfl) ?_
    refine JO.pur rfl rfl rfl (Pur.move rfl) ?_
    refine JO.pur rfl rfl rfl (Pur.len rfl) ?_
    refine JO.pur rfl rfl rfl (Pur.lss rfl rfl) ?_
    refine JO.nil ?_
    refine J.splitB 20 rfl (fun h20 => ?_) (fun h20 => ?_)
    · try simp only [decide_eq_true_eq, decide_eq_false_iff_not, Bool.not_eq_true', Bool.not_eq_false', Bool.and_eq_true, Bool.or_eq_true, Bool.and_eq_false_iff, Bool.or_eq_false_iff, Option.isNone_some, Option.isSome_some, Option.isNone_none, Option.isSome_none, Int.not_lt, Int.not_le, beq_iff_eq, beq_eq_false_iff_ne, bne_iff_ne, ne_eq, Bool.not_not, Decidable.not_not] at h20
      refine J.condT rfl rfl ?_
      refine J.skip rfl ?_
      refine J.seq rfl ?_
      refine J.block rfl ?_
      refine J.seq rfl ?_
      refine J.region rfl ?_
      refine JO.pur rfl rfl rfl (Pur.move rfl) ?_
      refine JO.pur rfl rfl rfl (Pur.move rfl) ?_
      refine JO.pur rfl rfl rfl (Pur.idx rfl rfl rfl (by first | rfl | (simp; done) | omega) rfl (by omega)) ?_
      refine JO.effN rfl rfl (Eff.storeS0 (E := intE) (z' := 1) rfl rfl rfl rfl (List.getElem?_eq_getElem (by omega)) .head) ?_
      rintro _ _ ⟨rfl, rfl⟩
      refine JO.nil ?_
      refine J.seq rfl ?_
      refine J.seq rfl ?_
      refine J.region rfl ?_
      refine JO.pur rfl rfl rfl (Pur.assign rfl) ?_
      refine JO.nil ?_
      refine J.block rfl ?_
      have hkl : k < xs.length := by omega
      refine J.loopF (ι := Nat) (fun q => q ≤ k) (fun q => [(8, .int .i64 (q : Int))]) [(0, _), (4, _), (5, _), (6, _), (7, _)] (fun q => sl intE (some ⟨b16, 0, none⟩) xs.length (dlist xs k q) :: sl rowBE a24 c24 hs24 :: rows boolE hs24 tab :: L) (fun q => k - q) 0 rfl (.cons rfl rfl (.cons rfl rfl (.cons rfl rfl (.cons rfl rfl (.cons rfl rfl .nil))))) (.cons rfl rfl .nil) (fun h s => by rw [← dout_set hkl]; exact SubC.out h s) (Nat.zero_le _) ?_
      rintro i hi ih1
      try dsimp only
      have hdl := dlist_len (m := i) (show k < xs.length by omega)
      have hdb := dval_b (xs := xs) i hi
      have hde := dep_le xs i
      have hdp := dep_pos xs i
      refine J.seq rfl ?_
      refine J.seq rfl ?_
      refine J.region rfl ?_
      refine JO.pur rfl rfl rfl (Pur.move rfl) ?_
      refine JO.pur rfl rfl rfl (Pur.move rfl) ?_
      refine JO.pur rfl rfl rfl (Pur.lss rfl rfl) ?_
      refine JO.nil ?_
      refine J.splitB 28 rfl (fun h28 => ?_) (fun h28 => ?_)
      · try simp only [decide_eq_true_eq, decide_eq_false_iff_not, Bool.not_eq_true', Bool.not_eq_false', Bool.and_eq_true, Bool.or_eq_true, Bool.and_eq_false_iff, Bool.or_eq_false_iff, Option.isNone_some, Option.isSome_some, Option.isNone_none, Option.isSome_none, Int.not_lt, Int.not_le, beq_iff_eq, beq_eq_false_iff_ne, bne_iff_ne, ne_eq, Bool.not_not, Decidable.not_not] at h28
        refine J.condT rfl rfl ?_
        refine J.skip rfl ?_
        refine J.seq rfl ?_
        refine J.block rfl ?_
        refine J.seq rfl ?_
        refine J.region rfl ?_
        refine JO.pur rfl rfl rfl (Pur.move rfl) ?_
        refine JO.pur rfl rfl rfl (Pur.move rfl) ?_
        refine JO.pur rfl rfl rfl (Pur.idx rfl rfl rfl (by first | rfl | (simp; done) | omega) rfl (by omega)) ?_
        refine JO.pur rfl rfl rfl (Pur.load rfl (CellIn.el0 rfl (kh k (by omega)) rfl)) ?_
        refine JO.pur rfl rfl rfl (Pur.move rfl) ?_
        have kn1 := kn k (by omega)
        refine JO.pur rfl rfl rfl (Pur.idx (hs := RowsIn.row (E := boolE) inferInstance (kh k (by omega)) (kt k (by omega))) rfl rfl rfl (by first | rfl | (simp; done) | omega) rfl (by rw [kl k (by omega)]; omega)) ?_
        refine JO.pur rfl rfl rfl (Pur.load rfl (CellIn.el0 (hh := RowsIn.row (E := boolE) inferInstance (kh k (by omega)) (kt k (by omega))) rfl (getD_get (d := false) (by rw [kl k (by omega)]; omega)) rfl)) ?_
        rw [kv k (by omega) i (by omega)]
        refine JO.nil ?_
        refine J.splitB 37 rfl (fun h37 => ?_) (fun h37 => ?_)
        · try simp only [decide_eq_true_eq, decide_eq_false_iff_not, Bool.not_eq_true', Bool.not_eq_false', Bool.and_eq_true, Bool.or_eq_true, Bool.and_eq_false_iff, Bool.or_eq_false_iff, Option.isNone_some, Option.isSome_some, Option.isNone_none, Option.isSome_none, Int.not_lt, Int.not_le, beq_iff_eq, beq_eq_false_iff_ne, bne_iff_ne, ne_eq, Bool.not_not, Decidable.not_not] at h37
          refine J.condT rfl rfl ?_
          refine J.mask0 (n := 14) [13] rfl Try.mixed rfl (by kernel_rfl) ?_
          refine JM.take 0 (fun _ h => h) rfl (by kernel_rfl) rfl rfl rfl (m' := 1) rfl (Pur.move rfl) ?_
          refine JM.take 1 (fun _ h => h) rfl (by kernel_rfl) rfl rfl rfl (m' := 3) rfl (Pur.move rfl) ?_
          refine JM.take 2 (fun _ h => h) rfl (by kernel_rfl) rfl rfl rfl (m' := 7) rfl (Pur.move rfl) ?_
          refine JM.take 3 (fun _ h => h) rfl (by kernel_rfl) rfl rfl rfl (m' := 15) rfl (Pur.move rfl) ?_
          refine JM.take 4 (fun _ h => h) rfl (by kernel_rfl) rfl rfl rfl (m' := 31) rfl (Pur.idx rfl rfl rfl (by first | rfl | (simp; done) | omega) rfl (by omega)) ?_
          refine JM.take 5 (fun _ h => h) rfl (by kernel_rfl) rfl rfl rfl (m' := 63) rfl (Pur.load rfl (CellIn.el0 rfl dlist_k rfl)) ?_
          refine JM.take 6 (fun _ h => h) rfl (by kernel_rfl) rfl rfl rfl (m' := 127) rfl (Pur.move rfl) ?_
          refine JM.take 7 (fun _ h => h) rfl (by kernel_rfl) rfl rfl rfl (m' := 255) rfl (Pur.move rfl) ?_
          refine JM.take 8 (fun _ h => h) rfl (by kernel_rfl) rfl rfl rfl (m' := 511) rfl (Pur.idx rfl rfl rfl (by first | rfl | (simp; done) | omega) rfl (by omega)) ?_
          refine JM.take 9 (fun _ h => h) rfl (by kernel_rfl) rfl rfl rfl (m' := 1023) rfl (Pur.load rfl (CellIn.el0 rfl (dlist_m (by omega)) rfl)) ?_
          refine JM.take 10 (fun _ h => h) rfl (by kernel_rfl) rfl rfl rfl (m' := 2047) rfl (Pur.add rfl rfl (wr64 (by omega))) ?_
          refine JM.take 11 (fun _ h => h) rfl (by kernel_rfl) rfl rfl rfl (m' := 4095) rfl (Pur.max2 rfl rfl) ?_
          refine JM.take 12 (fun _ h => h) rfl (by kernel_rfl) rfl rfl rfl (m' := 8191) rfl (Pur.idx rfl rfl rfl (by first | rfl | (simp; done) | omega) rfl (by omega)) ?_
          refine JM.one (i := 13) (by kernel_rfl) ?_
          refine JMi.effN rfl rfl rfl (m' := 16383) rfl (Eff.storeS0 (E := intE) (z' := _) rfl rfl rfl rfl dlist_k .head) ?_
          rintro _ _ ⟨rfl, rfl⟩
          refine ⟨.inl (by simp), ?_⟩
          refine JM.done rfl ?_
          refine J.inBlock ?_
          refine J.region rfl ?_
          refine JO.pur rfl rfl rfl (Pur.move rfl) ?_
          refine JO.pur rfl rfl rfl (Pur.add rfl rfl (wr64 (by omega))) ?_
          refine JO.pur rfl rfl rfl (Pur.assign rfl) ?_
          refine JO.nil ?_
          exact J.weaken (.cons rfl (congrArg (Value.int .i64) (by omega)) (.cons rfl rfl (.cons rfl rfl (.cons rfl rfl (.cons rfl rfl (.cons rfl rfl .nil)))))) (fun h s => by rw [← dlist_set (m := i) hkl (by rw [dval_next, if_pos h37, dpS_get xs (by omega)])]; exact SubC.out h s) (ih1 (i + 1) (by omega) (by omega))
        · try simp only [decide_eq_true_eq, decide_eq_false_iff_not, Bool.not_eq_true', Bool.not_eq_false', Bool.and_eq_true, Bool.or_eq_true, Bool.and_eq_false_iff, Bool.or_eq_false_iff, Option.isNone_some, Option.isSome_some, Option.isNone_none, Option.isSome_none, Int.not_lt, Int.not_le, beq_iff_eq, beq_eq_false_iff_ne, bne_iff_ne, ne_eq, Bool.not_not, Decidable.not_not] at h37
          refine J.condF rfl rfl ?_
          refine J.skip rfl ?_
          refine J.inBlock ?_
          refine J.region rfl ?_
          refine JO.pur rfl rfl rfl (Pur.move rfl) ?_
          refine JO.pur rfl rfl rfl (Pur.add rfl rfl (wr64 (by omega))) ?_
          refine JO.pur rfl rfl rfl (Pur.assign rfl) ?_
          refine JO.nil ?_
          exact J.weaken (.cons rfl (congrArg (Value.int .i64) (by omega)) (.cons rfl rfl (.cons rfl rfl (.cons rfl rfl (.cons rfl rfl (.cons rfl rfl .nil)))))) (fun h s => by rw [show dlist xs k (i + 1) = dlist xs k i by unfold dlist; rw [dval_next, if_neg (by rw [h37]; simp)]]; exact SubC.out h s) (ih1 (i + 1) (by omega) (by omega))
      · try simp only [decide_eq_true_eq, decide_eq_false_iff_not, Bool.not_eq_true', Bool.not_eq_false', Bool.and_eq_true, Bool.or_eq_true, Bool.and_eq_false_iff, Bool.or_eq_false_iff, Option.isNone_some, Option.isSome_some, Option.isNone_none, Option.isSome_none, Int.not_lt, Int.not_le, beq_iff_eq, beq_eq_false_iff_ne, bne_iff_ne, ne_eq, Bool.not_not, Decidable.not_not] at h28
        refine J.condF rfl rfl ?_
        refine J.exit rfl rfl ?_
        refine J.region rfl ?_
        refine JO.pur rfl rfl rfl (Pur.move rfl) ?_
        refine JO.pur rfl rfl rfl (Pur.move rfl) ?_
        refine JO.pur rfl rfl rfl (Pur.move rfl) ?_
        have hik : k = i := by omega
        subst hik
        refine JO.pur rfl rfl rfl (Pur.idx rfl rfl rfl (by first | rfl | (simp; done) | omega) rfl (by rw [dlist_len (by omega)]; omega)) ?_
        refine JO.pur rfl rfl rfl (Pur.load rfl (CellIn.el0 rfl dlist_k rfl)) ?_
        refine JO.pur rfl rfl rfl (Pur.max2 rfl rfl) ?_
        refine JO.pur rfl rfl rfl (Pur.assign rfl) ?_
        refine JO.nil ?_
        refine J.inBlock ?_
        refine J.region rfl ?_
        refine JO.pur rfl rfl rfl (Pur.move rfl) ?_
        refine JO.pur rfl rfl rfl (Pur.add rfl rfl (wr64 (by omega))) ?_
        refine JO.pur rfl rfl rfl (Pur.assign rfl) ?_
        refine JO.nil ?_
        exact J.weaken (.cons rfl (by rw [mostV_next]; rfl) (.cons rfl (congrArg (Value.int .i64) (by omega)) (.cons rfl rfl (.cons rfl rfl (.cons rfl rfl .nil))))) (fun h s => by rw [← dlist_all]; exact SubC.out h s) (ih0 (k + 1) (by omega) (by omega))
    · try simp only [decide_eq_true_eq, decide_eq_false_iff_not, Bool.not_eq_true', Bool.not_eq_false', Bool.and_eq_true, Bool.or_eq_true, Bool.and_eq_false_iff, Bool.or_eq_false_iff, Option.isNone_some, Option.isSome_some, Option.isNone_none, Option.isSome_none, Int.not_lt, Int.not_le, beq_iff_eq, beq_eq_false_iff_ne, bne_iff_ne, ne_eq, Bool.not_not, Decidable.not_not] at h20
      refine J.condF rfl rfl ?_
      refine J.exit rfl rfl ?_
      refine J.seq rfl ?_
      refine J.region rfl ?_
      refine JO.pur rfl rfl rfl (Pur.move rfl) ?_
      refine JO.pur rfl rfl rfl (Pur.assign rfl) ?_
      refine JO.pur rfl rfl rfl (Pur.assign rfl) ?_
      refine JO.nil ?_
      refine J.ret rfl rfl ?_
      have hkn : k = xs.length := by omega
      subst hkn
      exact ⟨_, _, ⟨rfl, rfl⟩, (by rw [show depR xs = mostV xs xs.length by unfold depR; rw [if_pos he0], he0]; rfl), SubC.out⟩

end Go.Proofs.Ytekgkamjbnfgiaa
