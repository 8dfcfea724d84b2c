/-
  A part of the proof of the claim that this folder bears.
-/
import Derived.Test.YtnhippfllgnngaaPAM
/- The text SK1. -/
set_option linter.unusedVariables false
set_option linter.unusedSimpArgs false
set_option maxRecDepth 10000
namespace Go.Proofs.Ytnhippfllgnngaa
open Go Go.KK Dm

/-- A pair's number. -/
def nthP (w : Nat) (p : Int × Int) : Int := if w = 0 then p.1 else p.2
def pickP (l : List (Int × Int)) (w k : Nat) : List Int := (l.filter fun p => decide (nthP w p = (k : Int))).map (nthP (1 - w))
def othK (l : List (Int × Int)) (w k : Nat) : List Int := (List.range k).flatMap (pickP l w)
def stsK (l : List (Int × Int)) (w k : Nat) : List Int := (List.range (k + 1)).map fun i => ((othK l w i).length : Int)
theorem othK_succ (l : List (Int × Int)) (w k : Nat) : othK l w (k + 1) = othK l w k ++ pickP l w k := by unfold othK; rw [List.range_succ, List.flatMap_append]; simp
theorem stsK_succ (l : List (Int × Int)) (w k : Nat) : stsK l w (k + 1) = stsK l w k ++ [((othK l w (k + 1)).length : Int)] := by unfold stsK; rw [List.range_succ, List.map_append]; rfl
theorem stsK_len (l : List (Int × Int)) (w k : Nat) : (stsK l w k).length = k + 1 := by simp [stsK]
theorem pickP_len (l : List (Int × Int)) (w k : Nat) : (pickP l w k).length ≤ l.length := by unfold pickP; rw [List.length_map]; exact List.length_filter_le _ _
theorem othK_len {l : List (Int × Int)} (w : Nat) (hl : l.length ≤ 400) : ∀ k, (othK l w k).length ≤ k * 400
  | 0 => by simp [othK]
  | k + 1 => by
    have h1 := othK_len w hl k
    have h2 := pickP_len l w k
    rw [othK_succ, List.length_append]; omega
theorem packed0 {L : List Asn} {a : Option Addr} {n cap m : Nat} {ps : List (Int × Int)} [SlIn pairE L a ps] (hn : n = ps.length) (hl : ps.length ≤ 400) (hm : m ≤ 4096) :
    CallS Try.prog 107 [.slice a n cap, .int .i64 0, .int .i64 (m : Int)].toArray L (fun v M => ∃ a' c' a'' c'', v = .tuple #[.slice a' (stsK ps 0 m).length c', .slice a'' (othK ps 0 m).length c''] ∧ M = sl intE a' c' (stsK ps 0 m) :: sl intE a'' c'' (othK ps 0 m) :: L) := by
  subst hn
  refine CallS.ent ?_
  refine CallS.enter Try.func107 rfl rfl rfl rfl rfl ?_
  refine J.seq rfl ?_
  refine J.region rfl ?_
  refine JO.pur rfl rfl rfl (Pur.assign rfl) ?_
  refine JO.pur rfl rfl rfl (Pur.assign rfl) ?_
  refine JO.nil ?_
  refine J.seq rfl ?_
  refine J.region rfl ?_
  refine JO.eff rfl rfl rfl (Eff.buildSlice intE [0] rfl rfl rfl rfl rfl rfl rfl) ?_
  rintro _ _ ⟨b12, rfl, -, rfl⟩
  refine JO.pur rfl rfl rfl (Pur.assign rfl) ?_
  refine JO.nil ?_
  refine J.seq rfl ?_
  refine J.region rfl ?_
  refine JO.pur rfl rfl rfl (Pur.assign rfl) ?_
  refine JO.nil ?_
  refine J.seq rfl ?_
  refine J.seq rfl ?_
  refine J.region rfl ?_
  refine JO.pur rfl rfl rfl (Pur.assign rfl) ?_
  refine JO.nil ?_
  refine J.block rfl ?_
  refine J.loopF (ι := Nat × Option Addr × Nat × Option Addr × Nat) (fun q => q.1 ≤ m) (fun q => [(8, .slice q.2.1 (q.1 + 1) q.2.2.1), (9, .slice q.2.2.2.1 (othK ps 0 q.1).length q.2.2.2.2), (10, .int .i64 (q.1 : Int))]) [(0, _), (1, _), (2, _)] (fun q => sl intE q.2.1 q.2.2.1 (stsK ps 0 q.1) :: sl intE q.2.2.2.1 q.2.2.2.2 (othK ps 0 q.1) :: L) (fun q => m - q.1) (0, some ⟨b12, 0, none⟩, 1, none, 0) rfl (.cons rfl rfl (.cons rfl rfl (.cons rfl rfl .nil))) (.cons rfl rfl (.cons rfl rfl (.cons rfl rfl .nil))) (fun h s => by have s2 := sl_nil_new (E := intE) s; dsimp only; rw [show stsK ps 0 0 = [0] from rfl, show othK ps 0 0 = [] from rfl]; exact SubC.out (L := sl intE none 0 [] :: _) h s2) (Nat.zero_le _) ?_
  rintro ⟨k, a8, c8, a9, c9⟩ hk ihk
  try dsimp only
  dsimp only at hk
  refine J.seq rfl ?_
  refine J.seq rfl ?_
  refine J.region rfl ?_
  refine JO.pur rfl rfl rfl (Pur.move rfl) ?_
  refine JO.pur rfl rfl rfl (Pur.move rfl) ?_
  refine JO.pur rfl rfl rfl (Pur.lss rfl rfl) ?_
  refine JO.nil ?_
  refine J.splitB 15 rfl (fun h15 => ?_) (fun h15 => ?_)
  · try simp only [decide_eq_true_eq, decide_eq_false_iff_not, Bool.not_eq_true', Bool.not_eq_false', Bool.and_eq_true, Bool.or_eq_true, Bool.and_eq_false_iff, Bool.or_eq_false_iff, Option.isNone_some, Option.isSome_some, Option.isNone_none, Option.isSome_none, Int.not_lt, Int.not_le, beq_iff_eq, beq_eq_false_iff_ne, bne_iff_ne, ne_eq, Bool.not_not, Decidable.not_not] at h15
    have hkl : k < m := by omega
    have hol := othK_len (l := ps) 0 hl k
    have hsl := stsK_len ps 0 k
    refine J.condT rfl rfl ?_
    refine J.skip rfl ?_
    refine J.seq rfl ?_
    refine J.block rfl ?_
    refine J.seq rfl ?_
    refine J.seq rfl ?_
    refine J.region rfl ?_
    refine JO.pur rfl rfl rfl (Pur.assign rfl) ?_
    refine JO.nil ?_
    refine J.block rfl ?_
    refine J.loopF (ι := Nat × Option Addr × Nat) (fun q => q.1 ≤ ps.length) (fun q => [(9, .slice q.2.1 (othK ps 0 k ++ pickP (ps.take q.1) 0 k).length q.2.2), (11, .int .i64 (q.1 : Int))]) [(0, _), (1, _), (2, _), (8, _), (10, _)] (fun q => sl intE a8 c8 (stsK ps 0 k) :: sl intE q.2.1 q.2.2 (othK ps 0 k ++ pickP (ps.take q.1) 0 k) :: L) (fun q => ps.length - q.1) (0, a9, c9) rfl (.cons rfl rfl (.cons rfl rfl (.cons rfl rfl (.cons rfl rfl (.cons rfl rfl .nil))))) (.cons rfl (by dsimp only; rw [List.take_zero]; simp [pickP]) (.cons rfl rfl .nil)) (fun h s => by dsimp only; rw [List.take_zero, show pickP [] 0 k = [] from rfl, List.append_nil]; exact SubC.out h s) (Nat.zero_le _) ?_
    rintro ⟨j, a10, c10⟩ hj ihj
    try dsimp only
    dsimp only at hj
    refine J.seq rfl ?_
    refine J.seq rfl ?_
    refine J.region rfl ?_
    refine JO.pur rfl rfl rfl (Pur.move rfl) ?_
    refine JO.pur rfl rfl rfl (Pur.move rfl) ?_
    refine JO.pur rfl rfl rfl (Pur.len rfl) ?_
    refine JO.pur rfl rfl rfl (Pur.lss rfl rfl) ?_
    refine JO.nil ?_
    refine J.splitB 21 rfl (fun h21 => ?_) (fun h21 => ?_)
    · try simp only [decide_eq_true_eq, decide_eq_false_iff_not, Bool.not_eq_true', Bool.not_eq_false', Bool.and_eq_true, Bool.or_eq_true, Bool.and_eq_false_iff, Bool.or_eq_false_iff, Option.isNone_some, Option.isSome_some, Option.isNone_none, Option.isSome_none, Int.not_lt, Int.not_le, beq_iff_eq, beq_eq_false_iff_ne, bne_iff_ne, ne_eq, Bool.not_not, Decidable.not_not] at h21
      have hjl : j < ps.length := by omega
      obtain ⟨p, hP⟩ : ∃ p, ps[j]? = some p := ⟨_, List.getElem?_eq_getElem hjl⟩
      have htk : ps.take (j + 1) = ps.take j ++ [p] := take_get hP
      have hpl := pickP_len (ps.take j) 0 k
      rw [List.length_take] at hpl
      refine J.condT rfl rfl ?_
      refine J.skip rfl ?_
      refine J.seq rfl ?_
      refine J.block rfl ?_
      refine J.seq rfl ?_
      refine J.region rfl ?_
      refine JO.pur rfl rfl rfl (Pur.move rfl) ?_
      refine JO.pur rfl rfl rfl (Pur.move rfl) ?_
      refine JO.pur rfl rfl rfl (Pur.move rfl) ?_
      refine JO.pur rfl rfl rfl (Pur.idx rfl rfl rfl (by first | rfl | (simp; done) | omega) rfl (by omega)) ?_
      refine JO.pur rfl rfl rfl (Pur.idxA rfl rfl (show (0 : Int) = ((0 : Nat) : Int) from rfl) (by decide)) ?_
      refine JO.pur rfl rfl rfl (Pur.load rfl (CellIn.el (k := 0) rfl hP rfl)) ?_
      refine JO.setv (u' := .int .i64 p.1) 29 rfl rfl ?_
      refine JO.pur rfl rfl rfl (Pur.move rfl) ?_
      refine JO.pur rfl rfl rfl (Pur.eqlI rfl rfl) ?_
      refine JO.nil ?_
      refine J.splitB 31 rfl (fun h31 => ?_) (fun h31 => ?_)
      · try simp only [decide_eq_true_eq, decide_eq_false_iff_not, Bool.not_eq_true', Bool.not_eq_false', Bool.and_eq_true, Bool.or_eq_true, Bool.and_eq_false_iff, Bool.or_eq_false_iff, Option.isNone_some, Option.isSome_some, Option.isNone_none, Option.isSome_none, Int.not_lt, Int.not_le, beq_iff_eq, beq_eq_false_iff_ne, bne_iff_ne, ne_eq, Bool.not_not, Decidable.not_not] at h31
        have hst : pickP (ps.take (j + 1)) 0 k = pickP (ps.take j) 0 k ++ [p.2] := by unfold pickP; rw [htk, List.filter_append, List.map_append]; simp [nthP, h31]
        refine J.condT rfl rfl ?_
        refine J.region rfl ?_
        refine JO.pur rfl rfl rfl (Pur.move rfl) ?_
        refine JO.pur rfl rfl rfl (Pur.move rfl) ?_
        refine JO.pur rfl rfl rfl (Pur.move rfl) ?_
        refine JO.pur rfl rfl rfl (Pur.move rfl) ?_
        refine JO.pur rfl rfl rfl (Pur.sub rfl rfl (wr64 (by omega))) ?_
        refine JO.pur rfl rfl rfl (Pur.idx rfl rfl rfl (by first | rfl | (simp; done) | omega) rfl (by omega)) ?_
        refine JO.pur rfl rfl rfl (Pur.idxA rfl rfl (show (1 : Int) - 0 = ((1 : Nat) : Int) from rfl) (by decide)) ?_
        refine JO.pur rfl rfl rfl (Pur.load rfl (CellIn.el (k := 1) rfl hP rfl)) ?_
        refine JO.setv (u' := .int .i64 p.2) 39 rfl rfl ?_
        refine JO.eff rfl rfl rfl (Eff.buildSlice intE [p.2] rfl rfl rfl rfl rfl rfl rfl) ?_
        rintro _ _ ⟨b40, rfl, -, rfl⟩
        refine JO.eff rfl rfl rfl (Eff.append rfl rfl rfl rfl (by first | rfl | omega | (simp; done) | (simp; omega)) (by first | rfl | omega | (simp; done) | (simp; omega)) (by decide) (by simp; omega) (by simp; omega) (fun h => by cases h)) ?_
        rintro _ _ ⟨a41, c41, rfl, rfl⟩
        refine JO.pur rfl rfl rfl (Pur.assign rfl) ?_
        refine JO.nil ?_
        refine J.inBlock ?_
        refine J.region rfl ?_
        refine JO.pur rfl rfl rfl (Pur.move rfl) ?_
        refine JO.pur rfl rfl rfl (Pur.add rfl rfl (wr64 (by omega))) ?_
        refine JO.pur rfl rfl rfl (Pur.assign rfl) ?_
        refine JO.nil ?_
        exact J.weaken (.cons rfl (by dsimp only; rw [hst]; simp; omega) (.cons rfl (congrArg (Value.int .i64) (by first | rfl | (dsimp only; omega))) (.cons rfl rfl (.cons rfl rfl (.cons rfl rfl (.cons rfl rfl (.cons rfl rfl .nil))))))) (fun h s => by dsimp only; rw [hst, ← List.append_assoc]; exact SubC.out h s) (ihj (j + 1, a41, c41) (by dsimp only; omega) (by dsimp only; omega))
      · try simp only [decide_eq_true_eq, decide_eq_false_iff_not, Bool.not_eq_true', Bool.not_eq_false', Bool.and_eq_true, Bool.or_eq_true, Bool.and_eq_false_iff, Bool.or_eq_false_iff, Option.isNone_some, Option.isSome_some, Option.isNone_none, Option.isSome_none, Int.not_lt, Int.not_le, beq_iff_eq, beq_eq_false_iff_ne, bne_iff_ne, ne_eq, Bool.not_not, Decidable.not_not] at h31
        have hst : pickP (ps.take (j + 1)) 0 k = pickP (ps.take j) 0 k := by unfold pickP; rw [htk, List.filter_append, List.map_append]; simp [nthP, h31]
        refine J.condF rfl rfl ?_
        refine J.skip rfl ?_
        refine J.inBlock ?_
        refine J.region rfl ?_
        refine JO.pur rfl rfl rfl (Pur.move rfl) ?_
        refine JO.pur rfl rfl rfl (Pur.add rfl rfl (wr64 (by omega))) ?_
        refine JO.pur rfl rfl rfl (Pur.assign rfl) ?_
        refine JO.nil ?_
        exact J.weaken (.cons rfl (by dsimp only; rw [hst]) (.cons rfl (congrArg (Value.int .i64) (by first | rfl | (dsimp only; omega))) (.cons rfl rfl (.cons rfl rfl (.cons rfl rfl (.cons rfl rfl (.cons rfl rfl .nil))))))) (fun h s => by dsimp only; rw [hst]; exact SubC.out h s) (ihj (j + 1, a10, c10) (by dsimp only; omega) (by dsimp only; omega))
    · try simp only [decide_eq_true_eq, decide_eq_false_iff_not, Bool.not_eq_true', Bool.not_eq_false', Bool.and_eq_true, Bool.or_eq_true, Bool.and_eq_false_iff, Bool.or_eq_false_iff, Option.isNone_some, Option.isSome_some, Option.isNone_none, Option.isSome_none, Int.not_lt, Int.not_le, beq_iff_eq, beq_eq_false_iff_ne, bne_iff_ne, ne_eq, Bool.not_not, Decidable.not_not] at h21
      have hje : j = ps.length := by omega
      subst hje
      rw [List.take_length]
      have hpl := pickP_len ps 0 k
      refine J.condF rfl rfl ?_
      refine J.exit rfl rfl ?_
      refine J.region rfl ?_
      refine JO.pur rfl rfl rfl (Pur.move rfl) ?_
      refine JO.pur rfl rfl rfl (Pur.move rfl) ?_
      refine JO.pur rfl rfl rfl (Pur.len rfl) ?_
      refine JO.setv (u' := .int .i64 ((othK ps 0 (k + 1)).length : Int)) 44 rfl (by rw [othK_succ]) ?_
      refine JO.eff rfl rfl rfl (Eff.buildSlice intE [((othK ps 0 (k + 1)).length : Int)] rfl rfl rfl rfl rfl rfl rfl) ?_
      rintro _ _ ⟨b45, rfl, -, rfl⟩
      refine JO.eff rfl rfl rfl (Eff.append rfl rfl rfl rfl (by first | rfl | omega | (simp; done) | (simp; omega)) (by first | rfl | omega | (simp; done) | (simp; omega)) (by decide) (by simp; omega) (by simp; omega) (fun h => by cases h)) ?_
      rintro _ _ ⟨a46, c46, rfl, rfl⟩
      refine JO.pur rfl rfl rfl (Pur.assign rfl) ?_
      refine JO.nil ?_
      refine J.inBlock ?_
      refine J.region rfl ?_
      refine JO.pur rfl rfl rfl (Pur.move rfl) ?_
      refine JO.pur rfl rfl rfl (Pur.add rfl rfl (wr64 (by omega))) ?_
      refine JO.pur rfl rfl rfl (Pur.assign rfl) ?_
      refine JO.nil ?_
      exact J.weaken (.cons rfl (by show Value.slice a46 _ c46 = Value.slice a46 (k + 1 + 1) c46; rw [stsK_len]; rfl) (.cons rfl (by dsimp only; rw [othK_succ]) (.cons rfl (congrArg (Value.int .i64) (by first | rfl | (dsimp only; omega))) (.cons rfl rfl (.cons rfl rfl (.cons rfl rfl .nil)))))) (fun h s => by rw [← othK_succ] at s; dsimp only; rw [stsK_succ]; exact SubC.out h s) (ihk (k + 1, a46, c46, a10, c10) (by dsimp only; omega) (by dsimp only; omega))
  · try simp only [decide_eq_true_eq, decide_eq_false_iff_not, Bool.not_eq_true', Bool.not_eq_false', Bool.and_eq_true, Bool.or_eq_true, Bool.and_eq_false_iff, Bool.or_eq_false_iff, Option.isNone_some, Option.isSome_some, Option.isNone_none, Option.isSome_none, Int.not_lt, Int.not_le, beq_iff_eq, beq_eq_false_iff_ne, bne_iff_ne, ne_eq, Bool.not_not, Decidable.not_not] at h15
    have hke : k = m := by omega
    refine J.condF rfl rfl ?_
    refine J.exit rfl rfl ?_
    refine J.seq rfl ?_
    refine J.region rfl ?_
    refine JO.pur rfl rfl rfl (Pur.move rfl) ?_
    refine JO.pur rfl rfl rfl (Pur.move rfl) ?_
    refine JO.pur rfl rfl rfl (Pur.assign rfl) ?_
    refine JO.pur rfl rfl rfl (Pur.assign rfl) ?_
    refine JO.nil ?_
    refine J.ret rfl rfl ?_
    refine ⟨_, _, ⟨a8, c8, a9, c9, rfl, rfl⟩, by rw [← hke, stsK_len]; rfl, fun h s => ?_⟩
    rw [← hke]
    exact SubC.out h s

theorem packed1 {L : List Asn} {a : Option Addr} {n cap m : Nat} {ps : List (Int × Int)} [SlIn pairE L a ps] (hn : n = ps.length) (hl : ps.length ≤ 400) (hm : m ≤ 4096) :
    CallS Try.prog 107 [.slice a n cap, .int .i64 1, .int .i64 (m : Int)].toArray L (fun v M => ∃ a' c' a'' c'', v = .tuple #[.slice a' (stsK ps 1 m).length c', .slice a'' (othK ps 1 m).length c''] ∧ M = sl intE a' c' (stsK ps 1 m) :: sl intE a'' c'' (othK ps 1 m) :: L) := by
  subst hn
  refine CallS.ent ?_
  refine CallS.enter Try.func107 rfl rfl rfl rfl rfl ?_
  refine J.seq rfl ?_
  refine J.region rfl ?_
  refine JO.pur rfl rfl rfl (Pur.assign rfl) ?_
  refine JO.pur rfl rfl rfl (Pur.assign rfl) ?_
  refine JO.nil ?_
  refine J.seq rfl ?_
  refine J.region rfl ?_
  refine JO.eff rfl rfl rfl (Eff.buildSlice intE [0] rfl rfl rfl rfl rfl rfl rfl) ?_
  rintro _ _ ⟨b12, rfl, -, rfl⟩
  refine JO.pur rfl rfl rfl (Pur.assign rfl) ?_
  refine JO.nil ?_
  refine J.seq rfl ?_
  refine J.region rfl ?_
  refine JO.pur rfl rfl rfl (Pur.assign rfl) ?_
  refine JO.nil ?_
  refine J.seq rfl ?_
  refine J.seq rfl ?_
  refine J.region rfl ?_
  refine JO.pur rfl rfl rfl (Pur.assign rfl) ?_
  refine JO.nil ?_
  refine J.block rfl ?_
  refine J.loopF (ι := Nat × Option Addr × Nat × Option Addr × Nat) (fun q => q.1 ≤ m) (fun q => [(8, .slice q.2.1 (q.1 + 1) q.2.2.1), (9, .slice q.2.2.2.1 (othK ps 1 q.1).length q.2.2.2.2), (10, .int .i64 (q.1 : Int))]) [(0, _), (1, _), (2, _)] (fun q => sl intE q.2.1 q.2.2.1 (stsK ps 1 q.1) :: sl intE q.2.2.2.1 q.2.2.2.2 (othK ps 1 q.1) :: L) (fun q => m - q.1) (0, some ⟨b12, 0, none⟩, 1, none, 0) rfl (.cons rfl rfl (.cons rfl rfl (.cons rfl rfl .nil))) (.cons rfl rfl (.cons rfl rfl (.cons rfl rfl .nil))) (fun h s => by have s2 := sl_nil_new (E := intE) s; dsimp only; rw [show stsK ps 1 0 = [0] from rfl, show othK ps 1 0 = [] from rfl]; exact SubC.out (L := sl intE none 0 [] :: _) h s2) (Nat.zero_le _) ?_
  rintro ⟨k, a8, c8, a9, c9⟩ hk ihk
  try dsimp only
  dsimp only at hk
  refine J.seq rfl ?_
  refine J.seq rfl ?_
  refine J.region rfl ?_
  refine JO.pur rfl rfl rfl (Pur.move rfl) ?_
  refine JO.pur rfl rfl rfl (Pur.move rfl) ?_
  refine JO.pur rfl rfl rfl (Pur.lss rfl rfl) ?_
  refine JO.nil ?_
  refine J.splitB 15 rfl (fun h15 => ?_) (fun h15 => ?_)
  · try simp only [decide_eq_true_eq, decide_eq_false_iff_not, Bool.not_eq_true', Bool.not_eq_false', Bool.and_eq_true, Bool.or_eq_true, Bool.and_eq_false_iff, Bool.or_eq_false_iff, Option.isNone_some, Option.isSome_some, Option.isNone_none, Option.isSome_none, Int.not_lt, Int.not_le, beq_iff_eq, beq_eq_false_iff_ne, bne_iff_ne, ne_eq, Bool.not_not, Decidable.not_not] at h15
    have hkl : k < m := by omega
    have hol := othK_len (l := ps) 1 hl k
    have hsl := stsK_len ps 1 k
    refine J.condT rfl rfl ?_
    refine J.skip rfl ?_
    refine J.seq rfl ?_
    refine J.block rfl ?_
    refine J.seq rfl ?_
    refine J.seq rfl ?_
    refine J.region rfl ?_
    refine JO.pur rfl rfl rfl (Pur.assign rfl) ?_
    refine JO.nil ?_
    refine J.block rfl ?_
    refine J.loopF (ι := Nat × Option Addr × Nat) (fun q => q.1 ≤ ps.length) (fun q => [(9, .slice q.2.1 (othK ps 1 k ++ pickP (ps.take q.1) 1 k).length q.2.2), (11, .int .i64 (q.1 : Int))]) [(0, _), (1, _), (2, _), (8, _), (10, _)] (fun q => sl intE a8 c8 (stsK ps 1 k) :: sl intE q.2.1 q.2.2 (othK ps 1 k ++ pickP (ps.take q.1) 1 k) :: L) (fun q => ps.length - q.1) (0, a9, c9) rfl (.cons rfl rfl (.cons rfl rfl (.cons rfl rfl (.cons rfl rfl (.cons rfl rfl .nil))))) (.cons rfl (by dsimp only; rw [List.take_zero]; simp [pickP]) (.cons rfl rfl .nil)) (fun h s => by dsimp only; rw [List.take_zero, show pickP [] 1 k = [] from rfl, List.append_nil]; exact SubC.out h s) (Nat.zero_le _) ?_
    rintro ⟨j, a10, c10⟩ hj ihj
    try dsimp only
    dsimp only at hj
    refine J.seq rfl ?_
    refine J.seq rfl ?_
    refine J.region rfl ?_
    refine JO.pur rfl rfl rfl (Pur.move rfl) ?_
    refine JO.pur rfl rfl rfl (Pur.move rfl) ?_
    refine JO.pur rfl rfl rfl (Pur.len rfl) ?_
    refine JO.pur rfl rfl rfl (Pur.lss rfl rfl) ?_
    refine JO.nil ?_
    refine J.splitB 21 rfl (fun h21 => ?_) (fun h21 => ?_)
    · try simp only [decide_eq_true_eq, decide_eq_false_iff_not, Bool.not_eq_true', Bool.not_eq_false', Bool.and_eq_true, Bool.or_eq_true, Bool.and_eq_false_iff, Bool.or_eq_false_iff, Option.isNone_some, Option.isSome_some, Option.isNone_none, Option.isSome_none, Int.not_lt, Int.not_le, beq_iff_eq, beq_eq_false_iff_ne, bne_iff_ne, ne_eq, Bool.not_not, Decidable.not_not] at h21
      have hjl : j < ps.length := by omega
      obtain ⟨p, hP⟩ : ∃ p, ps[j]? = some p := ⟨_, List.getElem?_eq_getElem hjl⟩
      have htk : ps.take (j + 1) = ps.take j ++ [p] := take_get hP
      have hpl := pickP_len (ps.take j) 1 k
      rw [List.length_take] at hpl
      refine J.condT rfl rfl ?_
      refine J.skip rfl ?_
      refine J.seq rfl ?_
      refine J.block rfl ?_
      refine J.seq rfl ?_
      refine J.region rfl ?_
      refine JO.pur rfl rfl rfl (Pur.move rfl) ?_
      refine JO.pur rfl rfl rfl (Pur.move rfl) ?_
      refine JO.pur rfl rfl rfl (Pur.move rfl) ?_
      refine JO.pur rfl rfl rfl (Pur.idx rfl rfl rfl (by first | rfl | (simp; done) | omega) rfl (by omega)) ?_
      refine JO.pur rfl rfl rfl (Pur.idxA rfl rfl (show (1 : Int) = ((1 : Nat) : Int) from rfl) (by decide)) ?_
      refine JO.pur rfl rfl rfl (Pur.load rfl (CellIn.el (k := 1) rfl hP rfl)) ?_
      refine JO.setv (u' := .int .i64 p.2) 29 rfl rfl ?_
      refine JO.pur rfl rfl rfl (Pur.move rfl) ?_
      refine JO.pur rfl rfl rfl (Pur.eqlI rfl rfl) ?_
      refine JO.nil ?_
      refine J.splitB 31 rfl (fun h31 => ?_) (fun h31 => ?_)
      · try simp only [decide_eq_true_eq, decide_eq_false_iff_not, Bool.not_eq_true', Bool.not_eq_false', Bool.and_eq_true, Bool.or_eq_true, Bool.and_eq_false_iff, Bool.or_eq_false_iff, Option.isNone_some, Option.isSome_some, Option.isNone_none, Option.isSome_none, Int.not_lt, Int.not_le, beq_iff_eq, beq_eq_false_iff_ne, bne_iff_ne, ne_eq, Bool.not_not, Decidable.not_not] at h31
        have hst : pickP (ps.take (j + 1)) 1 k = pickP (ps.take j) 1 k ++ [p.1] := by unfold pickP; rw [htk, List.filter_append, List.map_append]; simp [nthP, h31]
        refine J.condT rfl rfl ?_
        refine J.region rfl ?_
        refine JO.pur rfl rfl rfl (Pur.move rfl) ?_
        refine JO.pur rfl rfl rfl (Pur.move rfl) ?_
        refine JO.pur rfl rfl rfl (Pur.move rfl) ?_
        refine JO.pur rfl rfl rfl (Pur.move rfl) ?_
        refine JO.pur rfl rfl rfl (Pur.sub rfl rfl (wr64 (by omega))) ?_
        refine JO.pur rfl rfl rfl (Pur.idx rfl rfl rfl (by first | rfl | (simp; done) | omega) rfl (by omega)) ?_
        refine JO.pur rfl rfl rfl (Pur.idxA rfl rfl (show (1 : Int) - 1 = ((0 : Nat) : Int) from rfl) (by decide)) ?_
        refine JO.pur rfl rfl rfl (Pur.load rfl (CellIn.el (k := 0) rfl hP rfl)) ?_
        refine JO.setv (u' := .int .i64 p.1) 39 rfl rfl ?_
        refine JO.eff rfl rfl rfl (Eff.buildSlice intE [p.1] rfl rfl rfl rfl rfl rfl rfl) ?_
        rintro _ _ ⟨b40, rfl, -, rfl⟩
        refine JO.eff rfl rfl rfl (Eff.append rfl rfl rfl rfl (by first | rfl | omega | (simp; done) | (simp; omega)) (by first | rfl | omega | (simp; done) | (simp; omega)) (by decide) (by simp; omega) (by simp; omega) (fun h => by cases h)) ?_
        rintro _ _ ⟨a41, c41, rfl, rfl⟩
        refine JO.pur rfl rfl rfl (Pur.assign rfl) ?_
        refine JO.nil ?_
        refine J.inBlock ?_
        refine J.region rfl ?_
        refine JO.pur rfl rfl rfl (Pur.move rfl) ?_
        refine JO.pur rfl rfl rfl (Pur.add rfl rfl (wr64 (by omega))) ?_
        refine JO.pur rfl rfl rfl (Pur.assign rfl) ?_
        refine JO.nil ?_
        exact J.weaken (.cons rfl (by dsimp only; rw [hst]; simp; omega) (.cons rfl (congrArg (Value.int .i64) (by first | rfl | (dsimp only; omega))) (.cons rfl rfl (.cons rfl rfl (.cons rfl rfl (.cons rfl rfl (.cons rfl rfl .nil))))))) (fun h s => by dsimp only; rw [hst, ← List.append_assoc]; exact SubC.out h s) (ihj (j + 1, a41, c41) (by dsimp only; omega) (by dsimp only; omega))
      · try simp only [decide_eq_true_eq, decide_eq_false_iff_not, Bool.not_eq_true', Bool.not_eq_false', Bool.and_eq_true, Bool.or_eq_true, Bool.and_eq_false_iff, Bool.or_eq_false_iff, Option.isNone_some, Option.isSome_some, Option.isNone_none, Option.isSome_none, Int.not_lt, Int.not_le, beq_iff_eq, beq_eq_false_iff_ne, bne_iff_ne, ne_eq, Bool.not_not, Decidable.not_not] at h31
        have hst : pickP (ps.take (j + 1)) 1 k = pickP (ps.take j) 1 k := by unfold pickP; rw [htk, List.filter_append, List.map_append]; simp [nthP, h31]
        refine J.condF rfl rfl ?_
        refine J.skip rfl ?_
        refine J.inBlock ?_
        refine J.region rfl ?_
        refine JO.pur rfl rfl rfl (Pur.move rfl) ?_
        refine JO.pur rfl rfl rfl (Pur.add rfl rfl (wr64 (by omega))) ?_
        refine JO.pur rfl rfl rfl (Pur.assign rfl) ?_
        refine JO.nil ?_
        exact J.weaken (.cons rfl (by dsimp only; rw [hst]) (.cons rfl (congrArg (Value.int .i64) (by first | rfl | (dsimp only; omega))) (.cons rfl rfl (.cons rfl rfl (.cons rfl rfl (.cons rfl rfl (.cons rfl rfl .nil))))))) (fun h s => by dsimp only; rw [hst]; exact SubC.out h s) (ihj (j + 1, a10, c10) (by dsimp only; omega) (by dsimp only; omega))
    · try simp only [decide_eq_true_eq, decide_eq_false_iff_not, Bool.not_eq_true', Bool.not_eq_false', Bool.and_eq_true, Bool.or_eq_true, Bool.and_eq_false_iff, Bool.or_eq_false_iff, Option.isNone_some, Option.isSome_some, Option.isNone_none, Option.isSome_none, Int.not_lt, Int.not_le, beq_iff_eq, beq_eq_false_iff_ne, bne_iff_ne, ne_eq, Bool.not_not, Decidable.not_not] at h21
      have hje : j = ps.length := by omega
      subst hje
      rw [List.take_length]
      have hpl := pickP_len ps 1 k
      refine J.condF rfl rfl ?_
      refine J.exit rfl rfl ?_
      refine J.region rfl ?_
      refine JO.pur rfl rfl rfl (Pur.move rfl) ?_
      refine JO.pur rfl rfl rfl (Pur.move rfl) ?_
      refine JO.pur rfl rfl rfl (Pur.len rfl) ?_
      refine JO.setv (u' := .int .i64 ((othK ps 1 (k + 1)).length : Int)) 44 rfl (by rw [othK_succ]) ?_
      refine JO.eff rfl rfl rfl (Eff.buildSlice intE [((othK ps 1 (k + 1)).length : Int)] rfl rfl rfl rfl rfl rfl rfl) ?_
      rintro _ _ ⟨b45, rfl, -, rfl⟩
      refine JO.eff rfl rfl rfl (Eff.append rfl rfl rfl rfl (by first | rfl | omega | (simp; done) | (simp; omega)) (by first | rfl | omega | (simp; done) | (simp; omega)) (by decide) (by simp; omega) (by simp; omega) (fun h => by cases h)) ?_
      rintro _ _ ⟨a46, c46, rfl, rfl⟩
      refine JO.pur rfl rfl rfl (Pur.assign rfl) ?_
      refine JO.nil ?_
      refine J.inBlock ?_
      refine J.region rfl ?_
      refine JO.pur rfl rfl rfl (Pur.move rfl) ?_
      refine JO.pur rfl rfl rfl (Pur.add rfl rfl (wr64 (by omega))) ?_
      refine JO.pur rfl rfl rfl (Pur.assign rfl) ?_
      refine JO.nil ?_
      exact J.weaken (.cons rfl (by show Value.slice a46 _ c46 = Value.slice a46 (k + 1 + 1) c46; rw [stsK_len]; rfl) (.cons rfl (by dsimp only; rw [othK_succ]) (.cons rfl (congrArg (Value.int .i64) (by first | rfl | (dsimp only; omega))) (.cons rfl rfl (.cons rfl rfl (.cons rfl rfl .nil)))))) (fun h s => by rw [← othK_succ] at s; dsimp only; rw [stsK_succ]; exact SubC.out h s) (ihk (k + 1, a46, c46, a10, c10) (by dsimp only; omega) (by dsimp only; omega))
  · try simp only [decide_eq_true_eq, decide_eq_false_iff_not, Bool.not_eq_true', Bool.not_eq_false', Bool.and_eq_true, Bool.or_eq_true, Bool.and_eq_false_iff, Bool.or_eq_false_iff, Option.isNone_some, Option.isSome_some, Option.isNone_none, Option.isSome_none, Int.not_lt, Int.not_le, beq_iff_eq, beq_eq_false_iff_ne, bne_iff_ne, ne_eq, Bool.not_not, Decidable.not_not] at h15
    have hke : k = m := by omega
    refine J.condF rfl rfl ?_
    refine J.exit rfl rfl ?_
    refine J.seq rfl ?_
    refine J.region rfl ?_
    refine JO.pur rfl rfl rfl (Pur.move rfl) ?_
    refine JO.pur rfl rfl rfl (Pur.move rfl) ?_
    refine JO.pur rfl rfl rfl (Pur.assign rfl) ?_
    refine JO.pur rfl rfl rfl (Pur.assign rfl) ?_
    refine JO.nil ?_
    refine J.ret rfl rfl ?_
    refine ⟨_, _, ⟨a8, c8, a9, c9, rfl, rfl⟩, by rw [← hke, stsK_len]; rfl, fun h s => ?_⟩
    rw [← hke]
    exact SubC.out h s

def tabL (d : List Rg) (xss : List (List Int)) : List (Int × Int) := xss.map fun x => (memS d 0 (x.getD 0 0), memS d 1 (x.getD 1 0))
theorem table_ok {L : List Asn} {a la : Option Addr} {n cap ln lc : Nat} {rs : List Rg} {hs : List Hdr} {xss : List (List Int)} [SlIn rgE L a rs] [SlIn hE L la hs] [RowsR intE L hs xss] (hn : n = rs.length) (hl : ln = hs.length) (hs0 : okS rs xss) (hl2 : rs.length = 2) :
    CallS Try.prog 106 [.agg #[.slice a n cap, .slice la ln lc]].toArray L (fun v M => ∃ a' c', v = .tuple #[.slice a' (tabL (canD rs) xss).length c', .int .i64 (ctV (oneR (canD rs) 0)), .int .i64 (ctV (oneR (canD rs) 1))] ∧ M = sl pairE a' c' (tabL (canD rs) xss) :: L) := by
  subst hn
  subst hl
  refine CallS.fact (fun h s => RowsR.len (E := intE) (hs := hs) (xss := xss) s) fun hnn => ?_
  have hhl : hs.length = xss.length := rows_len hnn
  refine CallS.ent ?_
  have hcd : cdV rs = canD rs := if_pos hs0.1
  have hcl := canD_len rs
  have hl4 := hs0.2.1
  obtain ⟨-, hc0, -⟩ := one_ok hs0.1 (k := 0) (by omega)
  obtain ⟨-, hc1, -⟩ := one_ok hs0.1 (k := 1) (by omega)
  have hr0 : (canD rs)[0]? = some ((canD rs).getD 0 default) := getD_at' _ (by omega)
  have hr1 : (canD rs)[1]? = some ((canD rs).getD 1 default) := getD_at' _ (by omega)
  have ho0 : okR ((canD rs).getD 0 default) := (canD_okD hs0.1).2.2.1 _ (getD_mem (by omega))
  have ho1 : okR ((canD rs).getD 1 default) := (canD_okD hs0.1).2.2.1 _ (getD_mem (by omega))
  refine CallS.enter Try.func106 rfl rfl rfl rfl rfl ?_
  refine J.seq rfl ?_
  refine J.region rfl ?_
  refine JO.eff rfl rfl rfl (Eff.box (cs := [_, _]) rfl rfl) ?_
  rintro _ _ ⟨b1, rfl, rfl⟩
  refine JO.pur rfl rfl rfl (Pur.assign rfl) ?_
  refine JO.pur rfl rfl rfl (Pur.assign rfl) ?_
  refine JO.pur rfl rfl rfl (Pur.assign rfl) ?_
  refine JO.nil ?_
  refine J.seq rfl ?_
  refine J.region rfl ?_
  refine JO.pur rfl rfl rfl (Pur.fieldAddr rfl) ?_
  refine JO.pur rfl rfl rfl (Pur.loadA rfl rfl rfl (CellsIn.sub1 rfl)) ?_
  refine JO.eff rfl rfl rfl (Eff.call rfl (r_Canon (rs := rs) rfl)) ?_
  rintro _ _ ⟨a20, c20, rfl, rfl⟩
  rw [hcd]
  refine JO.pur rfl rfl rfl (Pur.move rfl) ?_
  refine JO.pur rfl rfl rfl (Pur.extract rfl rfl) ?_
  refine JO.pur rfl rfl rfl (Pur.extract rfl rfl) ?_
  refine JO.eff rfl rfl rfl (Eff.alloc (cs := [_]) rfl) ?_
  rintro _ _ ⟨b5, rfl, rfl⟩
  refine JO.effN rfl rfl (Eff.storeBA (cs' := [_]) rfl rfl (by rfl) (by rfl) (by rfl)) ?_
  rintro _ _ ⟨rfl, rfl⟩
  refine JO.pur rfl rfl rfl (Pur.assign rfl) ?_
  refine JO.nil ?_
  refine J.seq rfl ?_
  refine J.region rfl ?_
  refine JO.pur rfl rfl rfl (Pur.fieldAddr rfl) ?_
  refine JO.pur rfl rfl rfl (Pur.load rfl (CellIn.blk rfl)) ?_
  refine JO.pur rfl rfl rfl (Pur.idx rfl rfl rfl (by first | rfl | (simp; done) | omega) (show (0 : Int) = ((0 : Nat) : Int) from rfl) (by omega)) ?_
  refine JO.pur rfl rfl rfl (Pur.loadA rfl rfl rfl (CellsIn.el rfl hr0)) ?_
  refine JO.setv (u' := rgV ((canD rs).getD 0 default)) 27 rfl rfl ?_
  refine JO.effR rfl rfl rfl (Eff.call rfl (r3_Count (r := ((canD rs).getD 0 default)))) ?_
  refine JO.pur rfl rfl rfl (Pur.move rfl) ?_
  refine JO.pur rfl rfl rfl (Pur.extract rfl rfl) ?_
  refine JO.setv (u' := .int .i64 (ctV (oneR (canD rs) 0))) 29 rfl (congrArg (Value.int .i64) (by rw [hc0, if_pos ho0]; exact (cnt_eq ho0).symm)) ?_
  refine JO.pur rfl rfl rfl (Pur.extract rfl rfl) ?_
  refine JO.pur rfl rfl rfl (Pur.assign rfl) ?_
  refine JO.pur rfl rfl rfl (Pur.assign rfl) ?_
  refine JO.nil ?_
  refine J.seq rfl ?_
  refine J.region rfl ?_
  refine JO.pur rfl rfl rfl (Pur.fieldAddr rfl) ?_
  refine JO.pur rfl rfl rfl (Pur.load rfl (CellIn.blk rfl)) ?_
  refine JO.pur rfl rfl rfl (Pur.idx rfl rfl rfl (by first | rfl | (simp; done) | omega) (show (1 : Int) = ((1 : Nat) : Int) from rfl) (by omega)) ?_
  refine JO.pur rfl rfl rfl (Pur.loadA rfl rfl rfl (CellsIn.el rfl hr1)) ?_
  refine JO.setv (u' := rgV ((canD rs).getD 1 default)) 35 rfl rfl ?_
  refine JO.effR rfl rfl rfl (Eff.call rfl (r3_Count (r := ((canD rs).getD 1 default)))) ?_
  refine JO.pur rfl rfl rfl (Pur.move rfl) ?_
  refine JO.pur rfl rfl rfl (Pur.extract rfl rfl) ?_
  refine JO.setv (u' := .int .i64 (ctV (oneR (canD rs) 1))) 37 rfl (congrArg (Value.int .i64) (by rw [hc1, if_pos ho1]; exact (cnt_eq ho1).symm)) ?_
  refine JO.pur rfl rfl rfl (Pur.extract rfl rfl) ?_
  refine JO.pur rfl rfl rfl (Pur.assign rfl) ?_
  refine JO.pur rfl rfl rfl (Pur.assign rfl) ?_
  refine JO.nil ?_
  refine J.seq rfl ?_
  refine J.region rfl ?_
  refine JO.pur rfl rfl rfl (Pur.assign rfl) ?_
  refine JO.nil ?_
  refine J.seq rfl ?_
  refine J.seq rfl ?_
  refine J.region rfl ?_
  refine JO.pur rfl rfl rfl (Pur.assign rfl) ?_
  refine JO.nil ?_
  refine J.block rfl ?_
  refine J.loopF (ι := Nat × Option Addr × Nat) (fun q => q.1 ≤ xss.length) (fun q => [(11, .slice q.2.1 q.1 q.2.2), (12, .int .i64 (q.1 : Int))]) [(1, _), (5, _), (7, _), (9, _)] (fun q => sl pairE q.2.1 q.2.2 ((tabL (canD rs) xss).take q.1) :: blk b5 (.cells #[.slice a20 (canD rs).length c20] 24) :: sl rgE a20 c20 (canD rs) :: blk b1 (.cells #[.slice a rs.length cap, .slice la hs.length lc] 27) :: L) (fun q => xss.length - q.1) (0, none, 0) rfl (.cons rfl rfl (.cons rfl rfl (.cons rfl rfl (.cons rfl rfl .nil)))) (.cons rfl rfl (.cons rfl rfl .nil)) (fun h s => by have s2 := sl_nil_new (E := pairE) s; dsimp only; rw [List.take_zero]; exact SubC.out (L := sl pairE none 0 [] :: _) h s2) (Nat.zero_le _) ?_
  rintro ⟨k, a0, c0⟩ hk ih0
  try dsimp only
  dsimp only at hk
  have hco : (tabL (canD rs) xss).length = xss.length := by simp [tabL]
  have htl : ((tabL (canD rs) xss).take k).length = k := by rw [List.length_take]; omega
  refine J.seq rfl ?_
  refine J.seq rfl ?_
  refine J.region rfl ?_
  refine JO.pur rfl rfl rfl (Pur.move rfl) ?_
  refine JO.pur rfl rfl rfl (Pur.fieldAddr rfl) ?_
  refine JO.pur rfl rfl rfl (Pur.load rfl (CellIn.blk rfl)) ?_
  refine JO.pur rfl rfl rfl (Pur.len rfl) ?_
  refine JO.pur rfl rfl rfl (Pur.lss rfl rfl) ?_
  refine JO.nil ?_
  refine J.splitB 43 rfl (fun h43 => ?_) (fun h43 => ?_)
  · try simp only [decide_eq_true_eq, decide_eq_false_iff_not, Bool.not_eq_true', Bool.not_eq_false', Bool.and_eq_true, Bool.or_eq_true, Bool.and_eq_false_iff, Bool.or_eq_false_iff, Option.isNone_some, Option.isSome_some, Option.isNone_none, Option.isSome_none, Int.not_lt, Int.not_le, beq_iff_eq, beq_eq_false_iff_ne, bne_iff_ne, ne_eq, Bool.not_not, Decidable.not_not] at h43
    have hkl : k < xss.length := by omega
    obtain ⟨x, hX⟩ : ∃ x, xss[k]? = some x := ⟨_, List.getElem?_eq_getElem (by omega)⟩
    obtain ⟨hd, hH⟩ : ∃ hd, hs[k]? = some hd := ⟨_, List.getElem?_eq_getElem (by omega)⟩
    have hdn := hdr_n hnn hH hX
    have hxm := List.mem_of_getElem? hX
    have hxg : xss.getD k [] = x := getD_of' hX
    have hx2 : x.length = 2 := by rw [okS_len hs0 hxm]; exact hl2
    obtain ⟨i0, e0, m0, l0⟩ := mem_one hs0.1 (okS_some hs0 hxm) (k := 0) (by omega)
    obtain ⟨i1, e1, m1, l1⟩ := mem_one hs0.1 (okS_some hs0 hxm) (k := 1) (by omega)
    have hap1 : (tabL (canD rs) xss).take (k + 1) = (tabL (canD rs) xss).take k ++ [(memS (canD rs) 0 (x.getD 0 0), memS (canD rs) 1 (x.getD 1 0))] := take_get (by unfold tabL; rw [List.getElem?_map, hX]; rfl)
    refine J.condT rfl rfl ?_
    refine J.skip rfl ?_
    refine J.seq rfl ?_
    refine J.block rfl ?_
    refine J.seq rfl ?_
    refine J.mask0 (n := 17) [] rfl Try.mixed rfl (by kernel_rfl) ?_
    refine JM.take 0 (fun _ h => h) rfl (by kernel_rfl) rfl rfl rfl (m' := 1) rfl (Pur.fieldAddr rfl) ?_
    refine JM.take 1 (fun _ h => h) rfl (by kernel_rfl) rfl rfl rfl (m' := 3) rfl (Pur.load rfl (CellIn.blk rfl)) ?_
    refine JM.take 2 (fun _ h => h) rfl (by kernel_rfl) rfl rfl rfl (m' := 7) rfl (Pur.idx rfl rfl rfl (by first | rfl | (simp; done) | omega) (show (0 : Int) = ((0 : Nat) : Int) from rfl) (by omega)) ?_
    refine JM.take 3 (fun _ h => h) rfl (by kernel_rfl) rfl rfl rfl (m' := 15) rfl (Pur.loadA rfl rfl rfl (CellsIn.el rfl hr0)) ?_
    refine JM.setv (u' := rgV ((canD rs).getD 0 default)) 50 rfl rfl ?_
    refine JM.take 4 (fun _ h => h) rfl (by kernel_rfl) rfl rfl rfl (m' := 31) rfl (Pur.fieldAddr rfl) ?_
    refine JM.take 5 (fun _ h => h) rfl (by kernel_rfl) rfl rfl rfl (m' := 63) rfl (Pur.load rfl (CellIn.blk rfl)) ?_
    refine JM.take 6 (fun _ h => h) rfl (by kernel_rfl) rfl rfl rfl (m' := 127) rfl (Pur.move rfl) ?_
    refine JM.take 7 (fun _ h => h) rfl (by kernel_rfl) rfl rfl rfl (m' := 255) rfl (Pur.idx rfl rfl rfl (by first | rfl | (simp; done) | omega) rfl (by omega)) ?_
    refine JM.take 8 (fun _ h => h) rfl (by kernel_rfl) rfl rfl rfl (m' := 511) rfl (Pur.load rfl (CellIn.el0 rfl hH rfl)) ?_
    refine JM.setv (u' := .slice hd.a hd.n hd.cap) 55 rfl rfl ?_
    refine JM.take 9 (fun _ h => h) rfl (by kernel_rfl) rfl rfl rfl (m' := 1023) rfl (Pur.idx (hs := (RowsR.row (E := intE) inferInstance hH hX)) rfl rfl rfl (by first | rfl | (simp; done) | omega) (show (0 : Int) = ((0 : Nat) : Int) from rfl) (by omega)) ?_
    refine JM.take 10 (fun _ h => h) rfl (by kernel_rfl) rfl rfl rfl (m' := 2047) rfl (Pur.load rfl (CellIn.el0 (hh := (RowsR.row (E := intE) inferInstance hH hX)) rfl (getD_at' 0 (by omega)) rfl)) ?_
    refine JM.setv (u' := .int .i64 (x.getD 0 0)) 57 rfl rfl ?_
    refine JM.one (i := 11) (by kernel_rfl) ?_
    refine JMi.effR (fun _ h => h) rfl rfl rfl rfl (m' := 4095) rfl (Eff.call rfl (r3_Place (x := x.getD 0 0) ho0)) ?_
    rw [e0]
    refine JM.take 12 (fun _ h => h) rfl (by kernel_rfl) rfl rfl rfl (m' := 8191) rfl (Pur.move rfl) ?_
    refine JM.take 13 (fun _ h => h) rfl (by kernel_rfl) rfl rfl rfl (m' := 16383) rfl (Pur.extract rfl rfl) ?_
    refine JM.take 14 (fun _ h => h) rfl (by kernel_rfl) rfl rfl rfl (m' := 32767) rfl (Pur.extract rfl rfl) ?_
    refine JM.take 15 (fun _ h => h) rfl (by kernel_rfl) rfl rfl rfl (m' := 65535) rfl (Pur.assign rfl) ?_
    refine JM.take 16 (fun _ h => h) rfl (by kernel_rfl) rfl rfl rfl (m' := 131071) rfl (Pur.assign rfl) ?_
    refine JM.done rfl ?_
    refine J.seq rfl ?_
    refine J.mask0 (n := 17) [] rfl Try.mixed rfl (by kernel_rfl) ?_
    refine JM.take 0 (fun _ h => h) rfl (by kernel_rfl) rfl rfl rfl (m' := 1) rfl (Pur.fieldAddr rfl) ?_
    refine JM.take 1 (fun _ h => h) rfl (by kernel_rfl) rfl rfl rfl (m' := 3) rfl (Pur.load rfl (CellIn.blk rfl)) ?_
    refine JM.take 2 (fun _ h => h) rfl (by kernel_rfl) rfl rfl rfl (m' := 7) rfl (Pur.idx rfl rfl rfl (by first | rfl | (simp; done) | omega) (show (1 : Int) = ((1 : Nat) : Int) from rfl) (by omega)) ?_
    refine JM.take 3 (fun _ h => h) rfl (by kernel_rfl) rfl rfl rfl (m' := 15) rfl (Pur.loadA rfl rfl rfl (CellsIn.el rfl hr1)) ?_
    refine JM.setv (u' := rgV ((canD rs).getD 1 default)) 65 rfl rfl ?_
    refine JM.take 4 (fun _ h => h) rfl (by kernel_rfl) rfl rfl rfl (m' := 31) rfl (Pur.fieldAddr rfl) ?_
    refine JM.take 5 (fun _ h => h) rfl (by kernel_rfl) rfl rfl rfl (m' := 63) rfl (Pur.load rfl (CellIn.blk rfl)) ?_
    refine JM.take 6 (fun _ h => h) rfl (by kernel_rfl) rfl rfl rfl (m' := 127) rfl (Pur.move rfl) ?_
    refine JM.take 7 (fun _ h => h) rfl (by kernel_rfl) rfl rfl rfl (m' := 255) rfl (Pur.idx rfl rfl rfl (by first | rfl | (simp; done) | omega) rfl (by omega)) ?_
    refine JM.take 8 (fun _ h => h) rfl (by kernel_rfl) rfl rfl rfl (m' := 511) rfl (Pur.load rfl (CellIn.el0 rfl hH rfl)) ?_
    refine JM.setv (u' := .slice hd.a hd.n hd.cap) 70 rfl rfl ?_
    refine JM.take 9 (fun _ h => h) rfl (by kernel_rfl) rfl rfl rfl (m' := 1023) rfl (Pur.idx (hs := (RowsR.row (E := intE) inferInstance hH hX)) rfl rfl rfl (by first | rfl | (simp; done) | omega) (show (1 : Int) = ((1 : Nat) : Int) from rfl) (by omega)) ?_
    refine JM.take 10 (fun _ h => h) rfl (by kernel_rfl) rfl rfl rfl (m' := 2047) rfl (Pur.load rfl (CellIn.el0 (hh := (RowsR.row (E := intE) inferInstance hH hX)) rfl (getD_at' 0 (by omega)) rfl)) ?_
    refine JM.setv (u' := .int .i64 (x.getD 1 0)) 72 rfl rfl ?_
    refine JM.one (i := 11) (by kernel_rfl) ?_
    refine JMi.effR (fun _ h => h) rfl rfl rfl rfl (m' := 4095) rfl (Eff.call rfl (r3_Place (x := x.getD 1 0) ho1)) ?_
    rw [e1]
    refine JM.take 12 (fun _ h => h) rfl (by kernel_rfl) rfl rfl rfl (m' := 8191) rfl (Pur.move rfl) ?_
    refine JM.take 13 (fun _ h => h) rfl (by kernel_rfl) rfl rfl rfl (m' := 16383) rfl (Pur.extract rfl rfl) ?_
    refine JM.take 14 (fun _ h => h) rfl (by kernel_rfl) rfl rfl rfl (m' := 32767) rfl (Pur.extract rfl rfl) ?_
    refine JM.take 15 (fun _ h => h) rfl (by kernel_rfl) rfl rfl rfl (m' := 65535) rfl (Pur.assign rfl) ?_
    refine JM.take 16 (fun _ h => h) rfl (by kernel_rfl) rfl rfl rfl (m' := 131071) rfl (Pur.assign rfl) ?_
    refine JM.done rfl ?_
    rw [show (((some i0).getD 0 : Nat) : Int) = memS (canD rs) 0 (x.getD 0 0) from m0.symm, show (((some i1).getD 0 : Nat) : Int) = memS (canD rs) 1 (x.getD 1 0) from m1.symm]
    refine J.region rfl ?_
    refine JO.pur rfl rfl rfl (Pur.move rfl) ?_
    refine JO.pur rfl rfl rfl (Pur.move rfl) ?_
    refine JO.pur rfl rfl rfl (Pur.move rfl) ?_
    refine JO.pur rfl rfl rfl (Pur.build (cs := [_, _]) rfl rfl) ?_
    refine JO.eff rfl rfl rfl (Eff.buildSlice pairE [(memS (canD rs) 0 (x.getD 0 0), memS (canD rs) 1 (x.getD 1 0))] rfl rfl rfl rfl rfl rfl rfl) ?_
    rintro _ _ ⟨b80, rfl, -, rfl⟩
    refine JO.eff rfl rfl rfl (Eff.append rfl rfl rfl rfl (by first | rfl | omega | (simp; done) | (simp; omega)) (by first | rfl | omega | (simp; done) | (simp; omega)) (by decide) (by simp; omega) (by simp; omega) (fun h => by cases h)) ?_
    rintro _ _ ⟨a81, c81, rfl, rfl⟩
    refine JO.pur rfl rfl rfl (Pur.assign rfl) ?_
    refine JO.nil ?_
    refine J.inBlock ?_
    refine J.region rfl ?_
    refine JO.pur rfl rfl rfl (Pur.move rfl) ?_
    refine JO.pur rfl rfl rfl (Pur.add rfl rfl (wr64 (by omega))) ?_
    refine JO.pur rfl rfl rfl (Pur.assign rfl) ?_
    refine JO.nil ?_
    exact J.weaken (.cons rfl (by show Value.slice a81 _ c81 = Value.slice a81 (k + 1) c81; rw [htl]; rfl) (.cons rfl (congrArg (Value.int .i64) (by first | rfl | (dsimp only; omega))) (.cons rfl rfl (.cons rfl rfl (.cons rfl rfl (.cons rfl rfl .nil)))))) (fun h s => by dsimp only; rw [hap1]; exact SubC.out h s) (ih0 (k + 1, a81, c81) (by dsimp only; omega) (by dsimp only; omega))
  · try simp only [decide_eq_true_eq, decide_eq_false_iff_not, Bool.not_eq_true', Bool.not_eq_false', Bool.and_eq_true, Bool.or_eq_true, Bool.and_eq_false_iff, Bool.or_eq_false_iff, Option.isNone_some, Option.isSome_some, Option.isNone_none, Option.isSome_none, Int.not_lt, Int.not_le, beq_iff_eq, beq_eq_false_iff_ne, bne_iff_ne, ne_eq, Bool.not_not, Decidable.not_not] at h43
    have hke : k = xss.length := by omega
    refine J.condF rfl rfl ?_
    refine J.exit rfl rfl ?_
    refine J.seq rfl ?_
    refine J.region rfl ?_
    refine JO.pur rfl rfl rfl (Pur.move rfl) ?_
    refine JO.pur rfl rfl rfl (Pur.move rfl) ?_
    refine JO.pur rfl rfl rfl (Pur.move rfl) ?_
    refine JO.pur rfl rfl rfl (Pur.assign rfl) ?_
    refine JO.pur rfl rfl rfl (Pur.assign rfl) ?_
    refine JO.pur rfl rfl rfl (Pur.assign rfl) ?_
    refine JO.nil ?_
    refine J.ret rfl rfl ?_
    have hff : (tabL (canD rs) xss).take k = (tabL (canD rs) xss) := by rw [hke]; exact List.take_of_length_le (by omega)
    refine ⟨_, _, ⟨a0, c0, rfl, rfl⟩, by rw [hco, ← hke]; rfl, fun h s => ?_⟩
    rw [hff] at s
    exact SubC.out h s

end Go.Proofs.Ytnhippfllgnngaa

/- The text SpPlain4. -/
set_option linter.unusedVariables false
set_option linter.unusedSimpArgs false
/-! Compressed by rows: the counts and the reference's lists. -/
namespace Go.Proofs.Ytnhippfllgnngaa
open Go Go.KK Dm
theorem filter_lt_succ {α : Type} (f : α → Int) (k : Int) : ∀ {l : List α}, (l.Pairwise fun p q => f p ≤ f q) → (l.filter fun p => decide (f p < k)) ++ (l.filter fun p => decide (f p = k)) = l.filter fun p => decide (f p < k + 1)
  | [], _ => rfl
  | a :: l, h => by
    obtain ⟨h1, h2⟩ := List.pairwise_cons.1 h
    have ih := filter_lt_succ f k h2
    have hd : decide (f a < k + 1) = (decide (f a < k) || decide (f a = k)) := by
      by_cases c1 : f a < k
      · rw [decide_eq_true c1, decide_eq_true (by omega : f a < k + 1)]; rfl
      · by_cases c2 : f a = k
        · rw [decide_eq_true c2, decide_eq_true (by omega : f a < k + 1), decide_eq_false c1]; rfl
        · rw [decide_eq_false c2, decide_eq_false (by omega : ¬ f a < k + 1), decide_eq_false c1]; rfl
    simp only [List.filter_cons, hd]
    by_cases c1 : f a < k
    · have c2 : ¬ f a = k := by omega
      rw [decide_eq_true c1, decide_eq_false c2]
      simp only [Bool.true_or, if_true, Bool.false_eq_true, if_false, List.cons_append]
      rw [ih]
    · by_cases c2 : f a = k
      · have e0 : l.filter (fun p => decide (f p < k)) = [] := List.filter_eq_nil_iff.2 fun p hp => by have := h1 p hp; simp; omega
        rw [decide_eq_true c2, decide_eq_false c1]
        simp only [Bool.or_true, if_true, Bool.false_eq_true, if_false]
        rw [e0] at ih ⊢
        rw [← ih]; rfl
      · rw [decide_eq_false c2, decide_eq_false c1]
        simp only [Bool.or_false, if_true, Bool.false_eq_true, if_false]
        exact ih
/-- Lists that stand in order are put together in order. -/
theorem othK_sorted {ps : List (Int × Int)} {w : Nat} (hs : ps.Pairwise fun p q => nthP w p ≤ nthP w q) (h0 : ∀ p ∈ ps, 0 ≤ nthP w p) : ∀ k : Nat, othK ps w k = (ps.filter fun p => decide (nthP w p < (k : Int))).map (nthP (1 - w))
  | 0 => by
    have : ps.filter (fun p => decide (nthP w p < ((0 : Nat) : Int))) = [] := List.filter_eq_nil_iff.2 fun p hp => by have := h0 p hp; simp; omega
    rw [this]; rfl
  | k + 1 => by
    rw [othK_succ, othK_sorted hs h0 k]
    unfold pickP
    rw [← List.map_append, filter_lt_succ (nthP w) (k : Int) hs]; rfl
theorem othK_cnt (ps : List (Int × Int)) (w : Nat) (h0 : ∀ p ∈ ps, 0 ≤ nthP w p) : ∀ k : Nat, (othK ps w k).length = ps.countP fun p => decide (nthP w p < (k : Int))
  | 0 => by
    have : ps.countP (fun p => decide (nthP w p < ((0 : Nat) : Int))) = 0 := List.countP_eq_zero.2 fun p hp => by have := h0 p hp; simp; omega
    rw [this]; rfl
  | k + 1 => by
    rw [othK_succ, List.length_append, othK_cnt ps w h0 k]
    unfold pickP
    rw [List.length_map, ← List.countP_eq_length_filter]
    clear h0
    induction ps with
    | nil => rfl
    | cons a l ih =>
      simp only [List.countP_cons]
      have hd : decide (nthP w a < ((k + 1 : Nat) : Int)) = (decide (nthP w a < (k : Int)) || decide (nthP w a = (k : Int))) := by
        by_cases c1 : nthP w a < (k : Int)
        · rw [decide_eq_true c1, decide_eq_true (by omega : nthP w a < ((k + 1 : Nat) : Int))]; rfl
        · by_cases c2 : nthP w a = (k : Int)
          · rw [decide_eq_true c2, decide_eq_true (by omega : nthP w a < ((k + 1 : Nat) : Int)), decide_eq_false c1]; rfl
          · rw [decide_eq_false c2, decide_eq_false (by omega : ¬ nthP w a < ((k + 1 : Nat) : Int)), decide_eq_false c1]; rfl
      rw [hd]
      by_cases c1 : nthP w a < (k : Int)
      · have c2 : ¬ nthP w a = (k : Int) := by omega
        rw [decide_eq_true c1, decide_eq_false c2]
        simp only [Bool.true_or, if_true, Bool.false_eq_true, if_false]; omega
      · by_cases c2 : nthP w a = (k : Int)
        · rw [decide_eq_true c2, decide_eq_false c1]
          simp only [Bool.or_true, if_true, Bool.false_eq_true, if_false]; omega
        · rw [decide_eq_false c2, decide_eq_false c1]
          simp only [Bool.or_false, Bool.false_eq_true, if_false]; omega
/-- The counts, summed up. -/
theorem cntL_take {d : List Rg} {n : Nat} (xss : List (List Int)) (h : ∀ x ∈ xss, rowN d x < n) (j : Nat) : ((cntL d n xss).take (j + 1)).sum = ((xss.countP fun x => decide (rowN d x < j) : Nat) : Int) := by
  revert h
  refine snoc_ind' (P := fun xss => (∀ x ∈ xss, rowN d x < n) → ((cntL d n xss).take (j + 1)).sum = ((xss.countP fun x => decide (rowN d x < j) : Nat) : Int)) ?_ (fun l z ih h => ?_) xss
  · intro _
    unfold cntL
    rw [List.foldl_nil, List.take_replicate]
    simp
  · have h1 := ih (fun x hx => h x (List.mem_append_left _ hx))
    have hz := h z (by simp)
    have hl := cntL_len d n l
    rw [cntL_snoc, List.countP_append]
    unfold incL
    rw [List.take_set]
    by_cases c : rowN d z < j
    · have hlt : rowN d z + 1 < ((cntL d n l).take (j + 1)).length := by rw [List.length_take]; omega
      rw [sum_set hlt, h1]
      have hg : ((cntL d n l).take (j + 1)).getD (rowN d z + 1) 0 = (cntL d n l).getD (rowN d z + 1) 0 := by
        rw [List.getD_eq_getElem?_getD, List.getElem?_take, if_pos (by omega), ← List.getD_eq_getElem?_getD]
      rw [hg]
      simp [c]; omega
    · rw [List.set_eq_of_length_le (by rw [List.length_take]; omega), h1]
      simp [c]
end Go.Proofs.Ytnhippfllgnngaa
namespace Go.Proofs.Ytnhippfllgnngaa
open Go Go.KK Dm
theorem okS_pw' {rs : List Rg} {xss : List (List Int)} (h : okS rs xss) : xss.Pairwise fun x y => atS rs x < atS rs y := by
  rw [List.pairwise_iff_getElem]
  intro i j hi hj hij
  have := okS_asc h j i hij hj
  rwa [List.getD_eq_getElem?_getD, List.getD_eq_getElem?_getD, List.getElem?_eq_getElem hi, List.getElem?_eq_getElem hj] at this
/-- A place by row and column. -/
theorem at_rc {rs : List Rg} (h : okD rs) (hl : rs.length = 2) {x : List Int} (hx : (plD rs x).isSome = true) :
    ∃ i j, memS (canD rs) 0 (x.getD 0 0) = ((i : Nat) : Int) ∧ memS (canD rs) 1 (x.getD 1 0) = ((j : Nat) : Int) ∧ i < cnt ((canD rs).getD 0 default) ∧ j < cnt ((canD rs).getD 1 default) ∧ atS rs x = ((i * cnt ((canD rs).getD 1 default) + j : Nat) : Int) := by
  obtain ⟨i, e0, m0, l0⟩ := mem_one h hx (k := 0) (by omega)
  obtain ⟨j, e1, m1, l1⟩ := mem_one h hx (k := 1) (by omega)
  refine ⟨i, j, m0, m1, l0, l1, ?_⟩
  have hne : rs ≠ [] := fun e => by rw [e] at hl; simp at hl
  have hxl : x.length = rs.length := by
    unfold plD at hx
    by_cases e : x.length = rs.length
    · exact e
    · rw [if_neg e] at hx; cases hx
  unfold atS
  rw [← plD_can h.2.2.1 hne x]
  unfold plD
  rw [if_pos (by rw [canD_len]; exact hxl), canD_len, hl]
  have e0' : plR ((canD rs).getD 0 default) (x.getD 0 default) = some i := e0
  have e1' : plR ((canD rs).getD 1 default) (x.getD 1 default) = some j := e1
  have k1 : plK (canD rs) x 1 = some i := by
    show (match plK (canD rs) x 0, plR ((canD rs).getD 0 default) (x.getD 0 default) with | some a, some i => some (a * cnt ((canD rs).getD 0 default) + i) | _, _ => none) = _
    rw [e0']; show some (0 * _ + i) = _; rw [Nat.zero_mul, Nat.zero_add]
  have k2 : plK (canD rs) x 2 = some (i * cnt ((canD rs).getD 1 default) + j) := by
    show (match plK (canD rs) x 1, plR ((canD rs).getD 1 default) (x.getD 1 default) with | some a, some i => some (a * cnt ((canD rs).getD 1 default) + i) | _, _ => none) = _
    rw [k1, e1']
  rw [k2]; rfl
theorem tab_sorted {rs : List Rg} {xss : List (List Int)} (h : okS rs xss) (hl : rs.length = 2) : (tabL (canD rs) xss).Pairwise fun p q => nthP 0 p ≤ nthP 0 q := by
  unfold tabL
  rw [List.pairwise_map]
  refine (okS_pw' h).imp_of_mem ?_
  intro x y hx hy hlt
  obtain ⟨i, j, m0, m1, l0, l1, e⟩ := at_rc h.1 hl (okS_some h hx)
  obtain ⟨i', j', m0', m1', l0', l1', e'⟩ := at_rc h.1 hl (okS_some h hy)
  show memS _ 0 _ ≤ memS _ 0 _
  rw [m0, m0']
  rw [e, e'] at hlt
  have h3 : i * cnt ((canD rs).getD 1 default) + j < i' * cnt ((canD rs).getD 1 default) + j' := by omega
  have : i ≤ i' := Nat.le_of_not_lt fun g => by
    have := Nat.mul_le_mul_right (cnt ((canD rs).getD 1 default)) (show i' + 1 ≤ i by omega)
    rw [Nat.add_mul, Nat.one_mul] at this; omega
  omega
theorem tab_bnd {rs : List Rg} {xss : List (List Int)} (h : okS rs xss) (hl : rs.length = 2) {p : Int × Int} (hp : p ∈ tabL (canD rs) xss) : 0 ≤ nthP 0 p ∧ nthP 0 p < (cnt ((canD rs).getD 0 default) : Int) := by
  obtain ⟨x, hx, rfl⟩ := List.mem_map.1 hp
  obtain ⟨i, j, m0, m1, l0, l1, e⟩ := at_rc h.1 hl (okS_some h hx)
  show 0 ≤ memS _ 0 _ ∧ memS _ 0 _ < _
  rw [m0]; omega
theorem rowsV_eq {rs : List Rg} {xss : List (List Int)} (h : okS rs xss) (hl : rs.length = 2) {R : Nat} (hR : ctV (oneR (canD rs) 0) = (R : Int)) : rowsV rs xss = (stsK (tabL (canD rs) xss) 0 R, othK (tabL (canD rs) xss) 0 R, 0) := by
  obtain ⟨ho0, hc0, hb0⟩ := one_ok h.1 (k := 0) (by omega)
  have hRc : R = cnt ((canD rs).getD 0 default) := by rw [hc0] at hR; omega
  have hrow : ∀ x ∈ xss, memS (canD rs) 0 (x.getD 0 0) = ((rowN (canD rs) x : Nat) : Int) ∧ rowN (canD rs) x < R := fun x hx => by
    obtain ⟨i, h1, h2, h3⟩ := mem_one h.1 (okS_some h hx) (k := 0) (by omega)
    have e : rowN (canD rs) x = i := by unfold rowN; rw [h2]; rfl
    rw [e, hRc]; exact ⟨h2, h3⟩
  have hRn : (ctV (oneR (canD rs) 0)).toNat = R := by rw [hR]; rfl
  unfold rowsV
  rw [if_neg (not_not_intro h), if_neg (not_not_intro hl), hRn]
  have hA : othK (tabL (canD rs) xss) 0 R = colL (canD rs) xss := by
    rw [othK_sorted (tab_sorted h hl) (fun p hp => (tab_bnd h hl hp).1) R, List.filter_eq_self.2 (fun p hp => decide_eq_true (by rw [hRc]; exact (tab_bnd h hl hp).2))]
    unfold tabL colL
    rw [List.map_map]; rfl
  have hB : preL (cntL (canD rs) R xss) R = stsK (tabL (canD rs) xss) 0 R := by
    apply List.ext_getElem?
    intro j
    have hcl := cntL_len (canD rs) R xss
    by_cases hj : j < R + 1
    · rw [preL_get (by omega), if_pos (by omega), cntL_take xss (fun x hx => (hrow x hx).2)]
      unfold stsK
      rw [List.getElem?_map, List.getElem?_range hj]
      rw [Option.map_some]
      rw [othK_cnt _ 0 (fun p hp => (tab_bnd h hl hp).1)]
      unfold tabL
      rw [List.countP_map]
      congr 2
      refine List.countP_congr fun x hx => ?_
      simp only [Function.comp, decide_eq_true_eq]
      show _ ↔ memS _ 0 _ < _
      rw [(hrow x hx).1]; omega
    · rw [List.getElem?_eq_none (by rw [preL_len]; omega), List.getElem?_eq_none (by rw [stsK_len]; omega)]
  rw [hA, hB]
end Go.Proofs.Ytnhippfllgnngaa

/- The text SK2. -/
set_option linter.unusedVariables false
set_option linter.unusedSimpArgs false
set_option maxRecDepth 10000
namespace Go.Proofs.Ytnhippfllgnngaa
open Go Go.KK Dm

theorem rs_Rows {L : List Asn} {a la : Option Addr} {n cap ln lc : Nat} {rs : List Rg} {hs : List Hdr} {xss : List (List Int)} [SlIn rgE L a rs] [SlIn hE L la hs] [RowsR intE L hs xss] (hn : n = rs.length) (hl : ln = hs.length) :
    CallS Try.prog 39 [.agg #[.slice a n cap, .slice la ln lc]].toArray L (fun v M => ∃ a' c' a'' c'', v = .tuple #[.slice a' (rowsV rs xss).1.length c', .slice a'' (rowsV rs xss).2.1.length c'', .int .i64 (rowsV rs xss).2.2] ∧ M = sl intE a' c' (rowsV rs xss).1 :: sl intE a'' c'' (rowsV rs xss).2.1 :: L) := by
  subst hn
  subst hl
  refine CallS.fact (fun h s => RowsR.len (E := intE) (hs := hs) (xss := xss) s) fun hnn => ?_
  have hhl : hs.length = xss.length := rows_len hnn
  refine CallS.ent ?_
  refine CallS.enter Try.func39 rfl rfl rfl rfl rfl ?_
  refine J.seq rfl ?_
  refine J.region rfl ?_
  refine JO.eff rfl rfl rfl (Eff.box (cs := [_, _]) rfl rfl) ?_
  rintro _ _ ⟨b1, rfl, rfl⟩
  refine JO.pur rfl rfl rfl (Pur.assign rfl) ?_
  refine JO.pur rfl rfl rfl (Pur.assign rfl) ?_
  refine JO.pur rfl rfl rfl (Pur.assign rfl) ?_
  refine JO.nil ?_
  refine J.seq rfl ?_
  refine J.block rfl ?_
  refine J.seq rfl ?_
  refine J.region rfl ?_
  refine JO.pur rfl rfl rfl (Pur.loadA rfl rfl rfl CellsIn.blk) ?_
  refine JO.effR rfl rfl rfl (Eff.call rfl (rs_Valid (rs := rs) (hs := hs) (xss := xss) rfl rfl)) ?_
  refine JO.pur rfl rfl rfl (Pur.not rfl) ?_
  refine JO.pur rfl rfl rfl (Pur.assign rfl) ?_
  refine JO.nil ?_
  refine J.splitB 10 rfl (fun h10 => ?_) (fun h10 => ?_)
  · try simp only [decide_eq_true_eq, decide_eq_false_iff_not, Bool.not_eq_true', Bool.not_eq_false', Bool.and_eq_true, Bool.or_eq_true, Bool.and_eq_false_iff, Bool.or_eq_false_iff, Option.isNone_some, Option.isSome_some, Option.isNone_none, Option.isSome_none, Int.not_lt, Int.not_le, beq_iff_eq, beq_eq_false_iff_ne, bne_iff_ne, ne_eq, Bool.not_not, Decidable.not_not] at h10
    have hns : ¬ okS rs xss := h10
    refine J.condT rfl rfl ?_
    refine J.seq rfl ?_
    refine J.region rfl ?_
    refine JO.pur rfl rfl rfl (Pur.assign rfl) ?_
    refine JO.pur rfl rfl rfl (Pur.assign rfl) ?_
    refine JO.pur rfl rfl rfl (Pur.assign rfl) ?_
    refine JO.nil ?_
    refine J.ret rfl rfl ?_
    have hv : rowsV rs xss = ([], [], 50) := by unfold rowsV; rw [if_pos hns]
    refine ⟨_, _, ⟨none, 0, none, 0, rfl, rfl⟩, by rw [hv]; rfl, fun h s => ?_⟩
    rw [hv]; exact sl_nil_new (sl_nil_new (SubC.out h s))
  · try simp only [decide_eq_true_eq, decide_eq_false_iff_not, Bool.not_eq_true', Bool.not_eq_false', Bool.and_eq_true, Bool.or_eq_true, Bool.and_eq_false_iff, Bool.or_eq_false_iff, Option.isNone_some, Option.isSome_some, Option.isNone_none, Option.isSome_none, Int.not_lt, Int.not_le, beq_iff_eq, beq_eq_false_iff_ne, bne_iff_ne, ne_eq, Bool.not_not, Decidable.not_not] at h10
    have hs0 : okS rs xss := h10
    refine J.condF rfl rfl ?_
    refine J.seq rfl ?_
    refine J.region rfl ?_
    refine JO.pur rfl rfl rfl (Pur.fieldAddr rfl) ?_
    refine JO.pur rfl rfl rfl (Pur.fieldAddr rfl) ?_
    refine JO.pur rfl rfl rfl (Pur.load rfl (CellIn.blk rfl)) ?_
    refine JO.pur rfl rfl rfl (Pur.len rfl) ?_
    refine JO.pur rfl rfl rfl (Pur.neqI rfl rfl) ?_
    refine JO.pur rfl rfl rfl (Pur.assign rfl) ?_
    refine JO.nil ?_
    refine J.splitB 14 rfl (fun h14 => ?_) (fun h14 => ?_)
    · try simp only [decide_eq_true_eq, decide_eq_false_iff_not, Bool.not_eq_true', Bool.not_eq_false', Bool.and_eq_true, Bool.or_eq_true, Bool.and_eq_false_iff, Bool.or_eq_false_iff, Option.isNone_some, Option.isSome_some, Option.isNone_none, Option.isSome_none, Int.not_lt, Int.not_le, beq_iff_eq, beq_eq_false_iff_ne, bne_iff_ne, ne_eq, Bool.not_not, Decidable.not_not] at h14
      have hl2 : rs.length ≠ 2 := by omega
      refine J.condT rfl rfl ?_
      refine J.seq rfl ?_
      refine J.region rfl ?_
      refine JO.pur rfl rfl rfl (Pur.assign rfl) ?_
      refine JO.pur rfl rfl rfl (Pur.assign rfl) ?_
      refine JO.pur rfl rfl rfl (Pur.assign rfl) ?_
      refine JO.nil ?_
      refine J.ret rfl rfl ?_
      have hv : rowsV rs xss = ([], [], 2) := by unfold rowsV; rw [if_neg (not_not_intro hs0), if_pos hl2]
      refine ⟨_, _, ⟨none, 0, none, 0, rfl, rfl⟩, by rw [hv]; rfl, fun h s => ?_⟩
      rw [hv]; exact sl_nil_new (sl_nil_new (SubC.out h s))
    · try simp only [decide_eq_true_eq, decide_eq_false_iff_not, Bool.not_eq_true', Bool.not_eq_false', Bool.and_eq_true, Bool.or_eq_true, Bool.and_eq_false_iff, Bool.or_eq_false_iff, Option.isNone_some, Option.isSome_some, Option.isNone_none, Option.isSome_none, Int.not_lt, Int.not_le, beq_iff_eq, beq_eq_false_iff_ne, bne_iff_ne, ne_eq, Bool.not_not, Decidable.not_not] at h14
      have hl2 : rs.length = 2 := by omega
      obtain ⟨ho0, hc0, hb0⟩ := one_ok hs0.1 (k := 0) (by omega)
      obtain ⟨R, hR⟩ : ∃ R, R = cnt ((canD rs).getD 0 default) := ⟨_, rfl⟩
      rw [← hR] at hc0 hb0
      have hxl4 := hs0.2.1
      have htl : (tabL (canD rs) xss).length = xss.length := by simp [tabL]
      refine J.condF rfl rfl ?_
      refine J.skip rfl ?_
      refine J.inBlock ?_
      refine J.seq rfl ?_
      refine J.region rfl ?_
      refine JO.pur rfl rfl rfl (Pur.loadA rfl rfl rfl CellsIn.blk) ?_
      refine JO.eff rfl rfl rfl (Eff.call rfl (table_ok (rs := rs) (hs := hs) (xss := xss) rfl rfl hs0 hl2)) ?_
      rintro _ _ ⟨a22, c22, rfl, rfl⟩
      refine JO.pur rfl rfl rfl (Pur.move rfl) ?_
      refine JO.pur rfl rfl rfl (Pur.extract rfl rfl) ?_
      refine JO.pur rfl rfl rfl (Pur.extract rfl rfl) ?_
      refine JO.setv (u' := .int .i64 (R : Int)) 24 rfl (congrArg (Value.int .i64) hc0) ?_
      refine JO.pur rfl rfl rfl (Pur.extract rfl rfl) ?_
      refine JO.pur rfl rfl rfl (Pur.assign rfl) ?_
      refine JO.pur rfl rfl rfl (Pur.assign rfl) ?_
      refine JO.pur rfl rfl rfl (Pur.assign rfl) ?_
      refine JO.nil ?_
      refine J.seq rfl ?_
      refine J.region rfl ?_
      refine JO.pur rfl rfl rfl (Pur.move rfl) ?_
      refine JO.pur rfl rfl rfl (Pur.move rfl) ?_
      refine JO.eff rfl rfl rfl (Eff.call rfl (packed0 (ps := (tabL (canD rs) xss)) (m := R) rfl (by omega) (by omega))) ?_
      rintro _ _ ⟨a29, c29, a30, c30, rfl, rfl⟩
      refine JO.pur rfl rfl rfl (Pur.move rfl) ?_
      refine JO.pur rfl rfl rfl (Pur.extract rfl rfl) ?_
      refine JO.pur rfl rfl rfl (Pur.extract rfl rfl) ?_
      refine JO.pur rfl rfl rfl (Pur.assign rfl) ?_
      refine JO.pur rfl rfl rfl (Pur.assign rfl) ?_
      refine JO.nil ?_
      refine J.seq rfl ?_
      refine J.region rfl ?_
      refine JO.pur rfl rfl rfl (Pur.move rfl) ?_
      refine JO.pur rfl rfl rfl (Pur.move rfl) ?_
      refine JO.pur rfl rfl rfl (Pur.assign rfl) ?_
      refine JO.pur rfl rfl rfl (Pur.assign rfl) ?_
      refine JO.pur rfl rfl rfl (Pur.assign rfl) ?_
      refine JO.nil ?_
      refine J.ret rfl rfl ?_
      have hv := rowsV_eq hs0 hl2 hc0
      refine ⟨_, _, ⟨a29, c29, a30, c30, rfl, rfl⟩, by rw [hv]; rfl, fun h s => ?_⟩
      rw [hv]
      exact SubC.out h s

end Go.Proofs.Ytnhippfllgnngaa

/- The text SK3. -/
set_option linter.unusedVariables false
set_option linter.unusedSimpArgs false
set_option maxRecDepth 10000
namespace Go.Proofs.Ytnhippfllgnngaa
open Go Go.KK Dm

def sortB (xs : List Int) : Prop := ∀ i, i < xs.length → 1 ≤ i → xs.getD (i - 1) 0 ≤ xs.getD i 0
instance (xs : List Int) : Decidable (sortB xs) := inferInstanceAs (Decidable (∀ i, i < xs.length → _))
end Go.Proofs.Ytnhippfllgnngaa
