/-
  A part of the proof of the claim that this folder bears.
  This text: CTake.
-/
import Derived.Test.YtekgkamjbnfgiaaCRead
set_option linter.unusedVariables false
set_option linter.unusedSimpArgs false
namespace Go.Proofs.Ytekgkamjbnfgiaa
open Go Go.KK Ck

theorem getD_get {α : Type} {l : List α} {i : Nat} {d : α} (h : i < l.length) : l[i]? = some (l.getD i d) := by simp [List.getD_eq_getElem?_getD, List.getElem?_eq_getElem h]
def Rel (m : List (ByteArray × Value)) (g : List Str) : Prop := ∀ c : Str, (alook m c).getD (.bool false) = .bool (hasCell g c)
theorem rel_set {m : List (ByteArray × Value)} {g g' : List Str} {c : Str} {b : Bool} (h : Rel m g) (h1 : ∀ x, x ≠ c → hasCell g' x = hasCell g x) (h2 : hasCell g' c = b) : Rel (aset m c (.bool b)) g' := by
  intro x
  rw [alook_aset]
  by_cases hx : x = c
  · subst hx; simp [h2]
  · simp [hx, h x, h1 x hx]
theorem hasCell_cons (g : List Str) (c x : Str) : hasCell (c :: g) x = (decide (c = x) || hasCell g x) := by simp [hasCell]

def noTask (s : Seen) (e : Evt) : Prop := e.task < 0 ∨ (s.joined.length : Int) ≤ e.task ∨ s.joined.getD e.task.toNat true = true
theorem ok_bad {s : Seen} {e : Evt} (h : noTask s e) : okE s e = false := by unfold okE; exact if_pos h
theorem ok_fork {s : Seen} {e : Evt} (h : ¬ noTask s e) (h1 : e.act = sFork) : okE s e = (decide (e.other = s.joined.length) && decide (e.cell = (⟨#[]⟩ : ByteArray))) := by unfold noTask at h; unfold okE; rw [if_neg h, if_pos h1]
theorem ok_join {s : Seen} {e : Evt} (h : ¬ noTask s e) (h1 : e.act ≠ sFork) (h2 : e.act = sJoin) : okE s e = (decide (e.cell = (⟨#[]⟩ : ByteArray)) && decide (0 ≤ e.other) && decide (e.other < s.joined.length) && decide (e.other ≠ e.task) && !(s.joined.getD e.other.toNat true)) := by
  unfold noTask at h; unfold okE; rw [if_neg h, if_neg h1, if_pos h2]
theorem ok_acc {s : Seen} {e : Evt} (h : ¬ noTask s e) (h1 : e.act ≠ sFork) (h2 : e.act ≠ sJoin) (h3 : isAcc e.act = true) (h4 : e.other = 0) (h5 : e.cell ≠ (⟨#[]⟩ : ByteArray)) (h6 : (e.cell.size : Int) ≤ 40) : okE s e = !(decide (e.act = sGet) && !(hasCell s.given e.cell)) := by
  unfold noTask at h; unfold okE; rw [if_neg h, if_neg h1, if_neg h2, if_neg (by simp [h3, h4, h5]; omega)]
theorem ok_accBad {s : Seen} {e : Evt} (h1 : e.act ≠ sFork) (h2 : e.act ≠ sJoin) (h3 : isAcc e.act = false ∨ e.other ≠ 0 ∨ e.cell = (⟨#[]⟩ : ByteArray) ∨ 40 < (e.cell.size : Int)) : okE s e = false := by
  have h3' : isAcc e.act = false ∨ e.other ≠ 0 ∨ e.cell = (⟨#[]⟩ : ByteArray) ∨ 40 < e.cell.size := by
    rcases h3 with h | h | h | h
    · exact .inl h
    · exact .inr (.inl h)
    · exact .inr (.inr (.inl h))
    · exact .inr (.inr (.inr (by omega)))
  by_cases h : noTask s e
  · exact ok_bad h
  · unfold noTask at h; unfold okE; rw [if_neg h, if_neg h1, if_neg h2, if_pos h3']
theorem af_fork {s : Seen} {e : Evt} (h1 : e.act = sFork) : after s e = ⟨s.joined ++ [false], s.given⟩ := if_pos h1
theorem af_join {s : Seen} {e : Evt} (h1 : e.act ≠ sFork) (h2 : e.act = sJoin) : after s e = ⟨s.joined.set e.other.toNat true, s.given⟩ := by unfold after; rw [if_neg h1, if_pos h2]
theorem af_give {s : Seen} {e : Evt} (h3 : e.act = sGive) : after s e = ⟨s.joined, e.cell :: s.given⟩ := by
  unfold after; rw [if_neg (by rw [h3]; decide), if_neg (by rw [h3]; decide), if_pos h3]
theorem af_acc {s : Seen} {e : Evt} (h1 : e.act ≠ sFork) (h2 : e.act ≠ sJoin) (h3 : e.act ≠ sGive) : after s e = s := by unfold after; rw [if_neg h1, if_neg h2, if_neg h3]

theorem take_ok {R : List Asn} (r g : Nat) (a : Option Addr) (cap : Nat) (s : Seen) (e : Evt) (gm : List (ByteArray × Value)) (hg : Rel gm s.given) (hj : s.joined.length ≤ 3000) :
    CallS Try.prog 34 [.pointer (some ⟨r, 0, none⟩), .agg #[.int .i64 e.task, .string e.act, .int .i64 e.other, .string e.cell]].toArray (blk r (.cells #[.slice a s.joined.length cap, .map (some g)] 50 (0, 0)) :: sl boolE a cap s.joined :: mp strK g gm :: R) (fun v M => (okE s e = true ∧ v = .bool true ∧ ∃ a' cap' gm', Rel gm' (after s e).given ∧ M = blk r (.cells #[.slice a' (after s e).joined.length cap', .map (some g)] 50 (0, 0)) :: sl boolE a' cap' (after s e).joined :: mp strK g gm' :: R) ∨ (okE s e = false ∧ v = .bool false ∧ M = R)) := by
  refine CallS.ent ?_
  refine CallS.enter Try.func34 rfl rfl rfl rfl rfl ?_
  refine J.seq rfl ?_
  refine J.region rfl ?_
  refine JO.eff rfl rfl rfl (Eff.box (cs := [_, _, _, _]) rfl rfl) ?_
  rintro _ _ ⟨b3, rfl, rfl⟩
  refine JO.pur rfl rfl rfl (Pur.assign rfl) ?_
  refine JO.nil ?_
  refine J.seq rfl ?_
  refine J.seq rfl ?_
  refine J.quiet rfl Try.mixed (by kernel_rfl) ?_
  refine JQ.pur rfl rfl rfl (Pur.fieldAddr rfl) ?_
  refine JQ.pur rfl rfl rfl (Pur.load rfl (CellIn.blk rfl)) ?_
  refine JQ.pur rfl rfl rfl (Pur.lss rfl rfl) ?_
  refine JQ.pur rfl rfl rfl (Pur.move rfl) ?_
  refine JQ.splitB 10 rfl (fun h10 => ?_) (fun h10 => ?_)
  · try simp only [decide_eq_true_eq, decide_eq_false_iff_not, Bool.not_eq_true', Bool.not_eq_false', Bool.and_eq_true, Bool.or_eq_true, Bool.and_eq_false_iff, Bool.or_eq_false_iff, Option.isNone_some, Option.isSome_some, Option.isNone_none, Option.isSome_none, Int.not_lt, Int.not_le, beq_iff_eq, beq_eq_false_iff_ne, bne_iff_ne, ne_eq, Bool.not_not, Decidable.not_not] at h10
    refine JQ.no rfl rfl rfl ?_
    refine JQ.no rfl rfl rfl ?_
    refine JQ.no rfl rfl rfl ?_
    refine JQ.no rfl rfl rfl ?_
    refine JQ.no rfl rfl rfl ?_
    refine JQ.no rfl rfl rfl ?_
    refine JQ.no rfl rfl rfl ?_
    refine JQ.no rfl rfl rfl ?_
    refine JQ.pur rfl rfl rfl (Pur.pickT rfl rfl) ?_
    refine JQ.pur rfl rfl rfl (Pur.move rfl) ?_
    refine JQ.no rfl rfl rfl ?_
    refine JQ.no rfl rfl rfl ?_
    refine JQ.no rfl rfl rfl ?_
    refine JQ.no rfl rfl rfl ?_
    refine JQ.no rfl rfl rfl ?_
    refine JQ.no rfl rfl rfl ?_
    refine JQ.no rfl rfl rfl ?_
    refine JQ.no rfl rfl rfl ?_
    refine JQ.pur rfl rfl rfl (Pur.pickT rfl rfl) ?_
    refine JQ.nil ?_
    refine J.condT rfl rfl ?_
    refine J.seq rfl ?_
    refine J.region rfl ?_
    refine JO.pur rfl rfl rfl (Pur.assign rfl) ?_
    refine JO.nil ?_
    refine J.ret rfl rfl ?_
    exact ⟨_, _, .inr ⟨ok_bad (.inl h10), rfl, rfl⟩, rfl, fun h hs => hs.tail.tail.tail.tail⟩
  · try simp only [decide_eq_true_eq, decide_eq_false_iff_not, Bool.not_eq_true', Bool.not_eq_false', Bool.and_eq_true, Bool.or_eq_true, Bool.and_eq_false_iff, Bool.or_eq_false_iff, Option.isNone_some, Option.isSome_some, Option.isNone_none, Option.isSome_none, Int.not_lt, Int.not_le, beq_iff_eq, beq_eq_false_iff_ne, bne_iff_ne, ne_eq, Bool.not_not, Decidable.not_not] at h10
    refine JQ.pur rfl rfl rfl (Pur.fieldAddr rfl) ?_
    refine JQ.pur rfl rfl rfl (Pur.load rfl (CellIn.blk rfl)) ?_
    refine JQ.pur rfl rfl rfl (Pur.move rfl) ?_
    refine JQ.pur rfl rfl rfl (Pur.nilCheck rfl) ?_
    refine JQ.pur rfl rfl rfl (Pur.fieldAddr rfl) ?_
    refine JQ.pur rfl rfl rfl (Pur.load rfl (CellIn.blk rfl)) ?_
    refine JQ.pur rfl rfl rfl (Pur.len rfl) ?_
    refine JQ.pur rfl rfl rfl (Pur.geq rfl rfl) ?_
    refine JQ.pur rfl rfl rfl (Pur.pickF rfl rfl) ?_
    refine JQ.pur rfl rfl rfl (Pur.move rfl) ?_
    refine JQ.splitB 20 rfl (fun h20 => ?_) (fun h20 => ?_)
    · try simp only [decide_eq_true_eq, decide_eq_false_iff_not, Bool.not_eq_true', Bool.not_eq_false', Bool.and_eq_true, Bool.or_eq_true, Bool.and_eq_false_iff, Bool.or_eq_false_iff, Option.isNone_some, Option.isSome_some, Option.isNone_none, Option.isSome_none, Int.not_lt, Int.not_le, beq_iff_eq, beq_eq_false_iff_ne, bne_iff_ne, ne_eq, Bool.not_not, Decidable.not_not] at h20
      refine JQ.no rfl rfl rfl ?_
      refine JQ.no rfl rfl rfl ?_
      refine JQ.no rfl rfl rfl ?_
      refine JQ.no rfl rfl rfl ?_
      refine JQ.no rfl rfl rfl ?_
      refine JQ.no rfl rfl rfl ?_
      refine JQ.no rfl rfl rfl ?_
      refine JQ.no rfl rfl rfl ?_
      refine JQ.pur rfl rfl rfl (Pur.pickT rfl rfl) ?_
      refine JQ.nil ?_
      refine J.condT rfl rfl ?_
      refine J.seq rfl ?_
      refine J.region rfl ?_
      refine JO.pur rfl rfl rfl (Pur.assign rfl) ?_
      refine JO.nil ?_
      refine J.ret rfl rfl ?_
      exact ⟨_, _, .inr ⟨ok_bad (.inr (.inl h20)), rfl, rfl⟩, rfl, fun h hs => hs.tail.tail.tail.tail⟩
    · try simp only [decide_eq_true_eq, decide_eq_false_iff_not, Bool.not_eq_true', Bool.not_eq_false', Bool.and_eq_true, Bool.or_eq_true, Bool.and_eq_false_iff, Bool.or_eq_false_iff, Option.isNone_some, Option.isSome_some, Option.isNone_none, Option.isSome_none, Int.not_lt, Int.not_le, beq_iff_eq, beq_eq_false_iff_ne, bne_iff_ne, ne_eq, Bool.not_not, Decidable.not_not] at h20
      refine JQ.pur rfl rfl rfl (Pur.move rfl) ?_
      refine JQ.pur rfl rfl rfl (Pur.nilCheck rfl) ?_
      refine JQ.pur rfl rfl rfl (Pur.fieldAddr rfl) ?_
      refine JQ.pur rfl rfl rfl (Pur.load rfl (CellIn.blk rfl)) ?_
      refine JQ.pur rfl rfl rfl (Pur.fieldAddr rfl) ?_
      refine JQ.pur rfl rfl rfl (Pur.load rfl (CellIn.blk rfl)) ?_
      refine JQ.pur rfl rfl rfl (Pur.idx rfl rfl rfl (by first | rfl | (simp; done) | omega) (Int.toNat_of_nonneg (by omega)).symm (by omega)) ?_
      refine JQ.pur rfl rfl rfl (Pur.load rfl (CellIn.el0 rfl (getD_get (d := true) (by omega)) rfl)) ?_
      refine JQ.pur rfl rfl rfl (Pur.pickF rfl rfl) ?_
      refine JQ.nil ?_
      refine J.splitB 29 rfl (fun h29 => ?_) (fun h29 => ?_)
      · try simp only [decide_eq_true_eq, decide_eq_false_iff_not, Bool.not_eq_true', Bool.not_eq_false', Bool.and_eq_true, Bool.or_eq_true, Bool.and_eq_false_iff, Bool.or_eq_false_iff, Option.isNone_some, Option.isSome_some, Option.isNone_none, Option.isSome_none, Int.not_lt, Int.not_le, beq_iff_eq, beq_eq_false_iff_ne, bne_iff_ne, ne_eq, Bool.not_not, Decidable.not_not] at h29
        refine J.condT rfl rfl ?_
        refine J.seq rfl ?_
        refine J.region rfl ?_
        refine JO.pur rfl rfl rfl (Pur.assign rfl) ?_
        refine JO.nil ?_
        refine J.ret rfl rfl ?_
        exact ⟨_, _, .inr ⟨ok_bad (.inr (.inr h29)), rfl, rfl⟩, rfl, fun h hs => hs.tail.tail.tail.tail⟩
      · try simp only [decide_eq_true_eq, decide_eq_false_iff_not, Bool.not_eq_true', Bool.not_eq_false', Bool.and_eq_true, Bool.or_eq_true, Bool.and_eq_false_iff, Bool.or_eq_false_iff, Option.isNone_some, Option.isSome_some, Option.isNone_none, Option.isSome_none, Int.not_lt, Int.not_le, beq_iff_eq, beq_eq_false_iff_ne, bne_iff_ne, ne_eq, Bool.not_not, Decidable.not_not] at h29
        refine J.condF rfl rfl ?_
        refine J.skip rfl ?_
        refine J.seq rfl ?_
        refine J.block rfl ?_
        refine J.seq rfl ?_
        refine J.region rfl ?_
        refine JO.pur rfl rfl rfl (Pur.fieldAddr rfl) ?_
        refine JO.pur rfl rfl rfl (Pur.load rfl (CellIn.blk rfl)) ?_
        refine JO.pur rfl rfl rfl (Pur.eqlT rfl rfl) ?_
        refine JO.pur rfl rfl rfl (Pur.assign rfl) ?_
        refine JO.nil ?_
        refine J.splitB 30 rfl (fun h30 => ?_) (fun h30 => ?_)
        · try simp only [decide_eq_true_eq, decide_eq_false_iff_not, Bool.not_eq_true', Bool.not_eq_false', Bool.and_eq_true, Bool.or_eq_true, Bool.and_eq_false_iff, Bool.or_eq_false_iff, Option.isNone_some, Option.isSome_some, Option.isNone_none, Option.isSome_none, Int.not_lt, Int.not_le, beq_iff_eq, beq_eq_false_iff_ne, bne_iff_ne, ne_eq, Bool.not_not, Decidable.not_not] at h30
          refine J.condT rfl rfl ?_
          refine J.seq rfl ?_
          refine J.quiet rfl Try.mixed (by kernel_rfl) ?_
          refine JQ.pur rfl rfl rfl (Pur.fieldAddr rfl) ?_
          refine JQ.pur rfl rfl rfl (Pur.load rfl (CellIn.blk rfl)) ?_
          refine JQ.pur rfl rfl rfl (Pur.move rfl) ?_
          refine JQ.pur rfl rfl rfl (Pur.nilCheck rfl) ?_
          refine JQ.pur rfl rfl rfl (Pur.fieldAddr rfl) ?_
          refine JQ.pur rfl rfl rfl (Pur.load rfl (CellIn.blk rfl)) ?_
          refine JQ.pur rfl rfl rfl (Pur.len rfl) ?_
          refine JQ.pur rfl rfl rfl (Pur.eqlI rfl rfl) ?_
          refine JQ.pur rfl rfl rfl (Pur.move rfl) ?_
          refine JQ.splitB 42 rfl (fun h42 => ?_) (fun h42 => ?_)
          · try simp only [decide_eq_true_eq, decide_eq_false_iff_not, Bool.not_eq_true', Bool.not_eq_false', Bool.and_eq_true, Bool.or_eq_true, Bool.and_eq_false_iff, Bool.or_eq_false_iff, Option.isNone_some, Option.isSome_some, Option.isNone_none, Option.isSome_none, Int.not_lt, Int.not_le, beq_iff_eq, beq_eq_false_iff_ne, bne_iff_ne, ne_eq, Bool.not_not, Decidable.not_not] at h42
            refine JQ.pur rfl rfl rfl (Pur.fieldAddr rfl) ?_
            refine JQ.pur rfl rfl rfl (Pur.load rfl (CellIn.blk rfl)) ?_
            refine JQ.pur rfl rfl rfl (Pur.eqlT rfl rfl) ?_
            refine JQ.pur rfl rfl rfl (Pur.pickT rfl rfl) ?_
            refine JQ.pur rfl rfl rfl (Pur.assign rfl) ?_
            refine JQ.nil ?_
            refine J.seq rfl ?_
            refine J.region rfl ?_
            refine JO.pur rfl rfl rfl (Pur.move rfl) ?_
            refine JO.pur rfl rfl rfl (Pur.move rfl) ?_
            refine JO.pur rfl rfl rfl (Pur.nilCheck rfl) ?_
            refine JO.pur rfl rfl rfl (Pur.fieldAddr rfl) ?_
            refine JO.pur rfl rfl rfl (Pur.load rfl (CellIn.blk rfl)) ?_
            refine JO.eff rfl rfl rfl (Eff.buildSlice boolE [false] rfl rfl rfl rfl rfl rfl rfl) ?_
            rintro _ _ ⟨b52, rfl, -, rfl⟩
            refine JO.eff rfl rfl rfl (Eff.append rfl rfl rfl rfl (by first | rfl | omega | (simp; done) | (simp; omega)) (by first | rfl | omega | (simp; done) | (simp; omega)) (by decide) (by simp; omega) (by simp; omega) (fun h => by cases h)) ?_
            rintro _ _ ⟨a53, c53, rfl, rfl⟩
            refine JO.pur rfl rfl rfl (Pur.nilCheck rfl) ?_
            refine JO.pur rfl rfl rfl (Pur.fieldAddr rfl) ?_
            refine JO.effN rfl rfl (Eff.storeB rfl rfl rfl .head) ?_
            rintro _ _ ⟨rfl, rfl⟩
            refine JO.nil ?_
            refine J.seq rfl ?_
            refine J.region rfl ?_
            refine JO.pur rfl rfl rfl (Pur.move rfl) ?_
            refine JO.pur rfl rfl rfl (Pur.assign rfl) ?_
            refine JO.nil ?_
            refine J.ret rfl rfl ?_
            have hF : e.act = sFork := h30
            have hA : ¬ noTask s e := by unfold noTask; simp only [not_or]; exact ⟨by omega, by omega, by simpa using h29⟩
            by_cases hc : e.cell = (⟨#[]⟩ : ByteArray)
            · exact ⟨_, _, .inl ⟨by rw [ok_fork hA hF]; simp [h42, hc], rfl, a53, c53, gm, by rw [af_fork hF]; exact hg, rfl⟩, congrArg Value.bool (by simp [hc]), fun h hs => by rw [af_fork hF]; simpa using hs.tail.tail⟩
            · exact ⟨_, _, .inr ⟨by rw [ok_fork hA hF]; simp [hc], rfl, rfl⟩, congrArg Value.bool (by simp [hc]), fun h hs => hs.tail.tail.tail.tail.tail⟩
          · try simp only [decide_eq_true_eq, decide_eq_false_iff_not, Bool.not_eq_true', Bool.not_eq_false', Bool.and_eq_true, Bool.or_eq_true, Bool.and_eq_false_iff, Bool.or_eq_false_iff, Option.isNone_some, Option.isSome_some, Option.isNone_none, Option.isSome_none, Int.not_lt, Int.not_le, beq_iff_eq, beq_eq_false_iff_ne, bne_iff_ne, ne_eq, Bool.not_not, Decidable.not_not] at h42
            refine JQ.no rfl rfl rfl ?_
            refine JQ.no rfl rfl rfl ?_
            refine JQ.no rfl rfl rfl ?_
            refine JQ.pur rfl rfl rfl (Pur.pickF rfl rfl) ?_
            refine JQ.pur rfl rfl rfl (Pur.assign rfl) ?_
            refine JQ.nil ?_
            refine J.seq rfl ?_
            refine J.region rfl ?_
            refine JO.pur rfl rfl rfl (Pur.move rfl) ?_
            refine JO.pur rfl rfl rfl (Pur.move rfl) ?_
            refine JO.pur rfl rfl rfl (Pur.nilCheck rfl) ?_
            refine JO.pur rfl rfl rfl (Pur.fieldAddr rfl) ?_
            refine JO.pur rfl rfl rfl (Pur.load rfl (CellIn.blk rfl)) ?_
            refine JO.eff rfl rfl rfl (Eff.buildSlice boolE [false] rfl rfl rfl rfl rfl rfl rfl) ?_
            rintro _ _ ⟨b52, rfl, -, rfl⟩
            refine JO.eff rfl rfl rfl (Eff.append rfl rfl rfl rfl (by first | rfl | omega | (simp; done) | (simp; omega)) (by first | rfl | omega | (simp; done) | (simp; omega)) (by decide) (by simp; omega) (by simp; omega) (fun h => by cases h)) ?_
            rintro _ _ ⟨a53, c53, rfl, rfl⟩
            refine JO.pur rfl rfl rfl (Pur.nilCheck rfl) ?_
            refine JO.pur rfl rfl rfl (Pur.fieldAddr rfl) ?_
            refine JO.effN rfl rfl (Eff.storeB rfl rfl rfl .head) ?_
            rintro _ _ ⟨rfl, rfl⟩
            refine JO.nil ?_
            refine J.seq rfl ?_
            refine J.region rfl ?_
            refine JO.pur rfl rfl rfl (Pur.move rfl) ?_
            refine JO.pur rfl rfl rfl (Pur.assign rfl) ?_
            refine JO.nil ?_
            refine J.ret rfl rfl ?_
            have hF : e.act = sFork := h30
            have hA : ¬ noTask s e := by unfold noTask; simp only [not_or]; exact ⟨by omega, by omega, by simpa using h29⟩
            exact ⟨_, _, .inr ⟨by rw [ok_fork hA hF]; simp [h42], rfl, rfl⟩, rfl, fun h hs => hs.tail.tail.tail.tail.tail⟩
        · try simp only [decide_eq_true_eq, decide_eq_false_iff_not, Bool.not_eq_true', Bool.not_eq_false', Bool.and_eq_true, Bool.or_eq_true, Bool.and_eq_false_iff, Bool.or_eq_false_iff, Option.isNone_some, Option.isSome_some, Option.isNone_none, Option.isSome_none, Int.not_lt, Int.not_le, beq_iff_eq, beq_eq_false_iff_ne, bne_iff_ne, ne_eq, Bool.not_not, Decidable.not_not] at h30
          refine J.condF rfl rfl ?_
          refine J.seq rfl ?_
          refine J.region rfl ?_
          refine JO.pur rfl rfl rfl (Pur.fieldAddr rfl) ?_
          refine JO.pur rfl rfl rfl (Pur.load rfl (CellIn.blk rfl)) ?_
          refine JO.pur rfl rfl rfl (Pur.eqlT rfl rfl) ?_
          refine JO.pur rfl rfl rfl (Pur.assign rfl) ?_
          refine JO.nil ?_
          refine J.splitB 57 rfl (fun h57 => ?_) (fun h57 => ?_)
          · try simp only [decide_eq_true_eq, decide_eq_false_iff_not, Bool.not_eq_true', Bool.not_eq_false', Bool.and_eq_true, Bool.or_eq_true, Bool.and_eq_false_iff, Bool.or_eq_false_iff, Option.isNone_some, Option.isSome_some, Option.isNone_none, Option.isSome_none, Int.not_lt, Int.not_le, beq_iff_eq, beq_eq_false_iff_ne, bne_iff_ne, ne_eq, Bool.not_not, Decidable.not_not] at h57
            refine J.condT rfl rfl ?_
            refine J.seq rfl ?_
            refine J.quiet rfl Try.mixed (by kernel_rfl) ?_
            refine JQ.pur rfl rfl rfl (Pur.fieldAddr rfl) ?_
            refine JQ.pur rfl rfl rfl (Pur.load rfl (CellIn.blk rfl)) ?_
            refine JQ.pur rfl rfl rfl (Pur.eqlT rfl rfl) ?_
            refine JQ.pur rfl rfl rfl (Pur.move rfl) ?_
            refine JQ.splitB 64 rfl (fun h64 => ?_) (fun h64 => ?_)
            · try simp only [decide_eq_true_eq, decide_eq_false_iff_not, Bool.not_eq_true', Bool.not_eq_false', Bool.and_eq_true, Bool.or_eq_true, Bool.and_eq_false_iff, Bool.or_eq_false_iff, Option.isNone_some, Option.isSome_some, Option.isNone_none, Option.isSome_none, Int.not_lt, Int.not_le, beq_iff_eq, beq_eq_false_iff_ne, bne_iff_ne, ne_eq, Bool.not_not, Decidable.not_not] at h64
              refine JQ.pur rfl rfl rfl (Pur.fieldAddr rfl) ?_
              refine JQ.pur rfl rfl rfl (Pur.load rfl (CellIn.blk rfl)) ?_
              refine JQ.pur rfl rfl rfl (Pur.geq rfl rfl) ?_
              refine JQ.pur rfl rfl rfl (Pur.pickT rfl rfl) ?_
              refine JQ.pur rfl rfl rfl (Pur.move rfl) ?_
              refine JQ.splitB 69 rfl (fun h69 => ?_) (fun h69 => ?_)
              · try simp only [decide_eq_true_eq, decide_eq_false_iff_not, Bool.not_eq_true', Bool.not_eq_false', Bool.and_eq_true, Bool.or_eq_true, Bool.and_eq_false_iff, Bool.or_eq_false_iff, Option.isNone_some, Option.isSome_some, Option.isNone_none, Option.isSome_none, Int.not_lt, Int.not_le, beq_iff_eq, beq_eq_false_iff_ne, bne_iff_ne, ne_eq, Bool.not_not, Decidable.not_not] at h69
                refine JQ.pur rfl rfl rfl (Pur.fieldAddr rfl) ?_
                refine JQ.pur rfl rfl rfl (Pur.load rfl (CellIn.blk rfl)) ?_
                refine JQ.pur rfl rfl rfl (Pur.move rfl) ?_
                refine JQ.pur rfl rfl rfl (Pur.nilCheck rfl) ?_
                refine JQ.pur rfl rfl rfl (Pur.fieldAddr rfl) ?_
                refine JQ.pur rfl rfl rfl (Pur.load rfl (CellIn.blk rfl)) ?_
                refine JQ.pur rfl rfl rfl (Pur.len rfl) ?_
                refine JQ.pur rfl rfl rfl (Pur.lss rfl rfl) ?_
                refine JQ.pur rfl rfl rfl (Pur.pickT rfl rfl) ?_
                refine JQ.pur rfl rfl rfl (Pur.move rfl) ?_
                refine JQ.splitB 79 rfl (fun h79 => ?_) (fun h79 => ?_)
                · try simp only [decide_eq_true_eq, decide_eq_false_iff_not, Bool.not_eq_true', Bool.not_eq_false', Bool.and_eq_true, Bool.or_eq_true, Bool.and_eq_false_iff, Bool.or_eq_false_iff, Option.isNone_some, Option.isSome_some, Option.isNone_none, Option.isSome_none, Int.not_lt, Int.not_le, beq_iff_eq, beq_eq_false_iff_ne, bne_iff_ne, ne_eq, Bool.not_not, Decidable.not_not] at h79
                  refine JQ.pur rfl rfl rfl (Pur.fieldAddr rfl) ?_
                  refine JQ.pur rfl rfl rfl (Pur.load rfl (CellIn.blk rfl)) ?_
                  refine JQ.pur rfl rfl rfl (Pur.fieldAddr rfl) ?_
                  refine JQ.pur rfl rfl rfl (Pur.load rfl (CellIn.blk rfl)) ?_
                  refine JQ.pur rfl rfl rfl (Pur.neqI rfl rfl) ?_
                  refine JQ.pur rfl rfl rfl (Pur.pickT rfl rfl) ?_
                  refine JQ.pur rfl rfl rfl (Pur.move rfl) ?_
                  refine JQ.splitB 86 rfl (fun h86 => ?_) (fun h86 => ?_)
                  · try simp only [decide_eq_true_eq, decide_eq_false_iff_not, Bool.not_eq_true', Bool.not_eq_false', Bool.and_eq_true, Bool.or_eq_true, Bool.and_eq_false_iff, Bool.or_eq_false_iff, Option.isNone_some, Option.isSome_some, Option.isNone_none, Option.isSome_none, Int.not_lt, Int.not_le, beq_iff_eq, beq_eq_false_iff_ne, bne_iff_ne, ne_eq, Bool.not_not, Decidable.not_not] at h86
                    refine JQ.pur rfl rfl rfl (Pur.move rfl) ?_
                    refine JQ.pur rfl rfl rfl (Pur.nilCheck rfl) ?_
                    refine JQ.pur rfl rfl rfl (Pur.fieldAddr rfl) ?_
                    refine JQ.pur rfl rfl rfl (Pur.load rfl (CellIn.blk rfl)) ?_
                    refine JQ.pur rfl rfl rfl (Pur.fieldAddr rfl) ?_
                    refine JQ.pur rfl rfl rfl (Pur.load rfl (CellIn.blk rfl)) ?_
                    refine JQ.pur rfl rfl rfl (Pur.idx rfl rfl rfl (by first | rfl | (simp; done) | omega) (Int.toNat_of_nonneg (by omega)).symm (by omega)) ?_
                    refine JQ.pur rfl rfl rfl (Pur.load rfl (CellIn.el0 rfl (getD_get (d := true) (by omega)) rfl)) ?_
                    refine JQ.pur rfl rfl rfl (Pur.not rfl) ?_
                    refine JQ.pur rfl rfl rfl (Pur.pickT rfl rfl) ?_
                    refine JQ.pur rfl rfl rfl (Pur.assign rfl) ?_
                    refine JQ.nil ?_
                    refine J.seq rfl ?_
                    refine J.seq rfl ?_
                    refine J.region rfl ?_
                    refine JO.pur rfl rfl rfl (Pur.move rfl) ?_
                    refine JO.nil ?_
                    refine J.splitB 97 rfl (fun h97 => ?_) (fun h97 => ?_)
                    · try simp only [decide_eq_true_eq, decide_eq_false_iff_not, Bool.not_eq_true', Bool.not_eq_false', Bool.and_eq_true, Bool.or_eq_true, Bool.and_eq_false_iff, Bool.or_eq_false_iff, Option.isNone_some, Option.isSome_some, Option.isNone_none, Option.isSome_none, Int.not_lt, Int.not_le, beq_iff_eq, beq_eq_false_iff_ne, bne_iff_ne, ne_eq, Bool.not_not, Decidable.not_not] at h97
                      refine J.condT rfl rfl ?_
                      refine J.mask0 (n := 8) [7] rfl Try.mixed rfl (by kernel_rfl) ?_
                      refine JM.take 0 (fun _ h => h) rfl (by kernel_rfl) rfl rfl rfl (m' := 1) rfl (Pur.move rfl) ?_
                      refine JM.take 1 (fun _ h => h) rfl (by kernel_rfl) rfl rfl rfl (m' := 3) rfl (Pur.nilCheck rfl) ?_
                      refine JM.take 2 (fun _ h => h) rfl (by kernel_rfl) rfl rfl rfl (m' := 7) rfl (Pur.fieldAddr rfl) ?_
                      refine JM.take 3 (fun _ h => h) rfl (by kernel_rfl) rfl rfl rfl (m' := 15) rfl (Pur.load rfl (CellIn.blk rfl)) ?_
                      refine JM.take 4 (fun _ h => h) rfl (by kernel_rfl) rfl rfl rfl (m' := 31) rfl (Pur.fieldAddr rfl) ?_
                      refine JM.take 5 (fun _ h => h) rfl (by kernel_rfl) rfl rfl rfl (m' := 63) rfl (Pur.load rfl (CellIn.blk rfl)) ?_
                      refine JM.take 6 (fun _ h => h) rfl (by kernel_rfl) rfl rfl rfl (m' := 127) rfl (Pur.idx rfl rfl rfl (by first | rfl | (simp; done) | omega) (Int.toNat_of_nonneg (by omega)).symm (by omega)) ?_
                      refine JM.one (i := 7) (by kernel_rfl) ?_
                      refine JMi.effN rfl rfl rfl (m' := 255) rfl (Eff.storeS0 (z' := true) rfl rfl rfl rfl (getD_get (d := true) (by omega)) .head) ?_
                      rintro _ _ ⟨rfl, rfl⟩
                      refine ⟨.inl (by simp), ?_⟩
                      refine JM.done rfl ?_
                      refine J.seq rfl ?_
                      refine J.region rfl ?_
                      refine JO.pur rfl rfl rfl (Pur.move rfl) ?_
                      refine JO.pur rfl rfl rfl (Pur.assign rfl) ?_
                      refine JO.nil ?_
                      refine J.ret rfl rfl ?_
                      have hJ : e.act = sJoin := h57
                      have hF : e.act ≠ sFork := h30
                      have hA : ¬ noTask s e := by unfold noTask; simp only [not_or]; exact ⟨by omega, by omega, by simpa using h29⟩
                      have hc : e.cell = (⟨#[]⟩ : ByteArray) := h64
                      have hj94 : s.joined.getD e.other.toNat true = false := by simpa using h97
                      exact ⟨_, _, .inl ⟨by rw [ok_join hA hF hJ, hj94]; simp [hc, h69, h79, h86], rfl, a, cap, gm, by rw [af_join hF hJ]; exact hg, rfl⟩, congrArg Value.bool (by rw [hj94]; rfl), fun h hs => by rw [af_join hF hJ]; simpa using hs.tail⟩
                    · try simp only [decide_eq_true_eq, decide_eq_false_iff_not, Bool.not_eq_true', Bool.not_eq_false', Bool.and_eq_true, Bool.or_eq_true, Bool.and_eq_false_iff, Bool.or_eq_false_iff, Option.isNone_some, Option.isSome_some, Option.isNone_none, Option.isSome_none, Int.not_lt, Int.not_le, beq_iff_eq, beq_eq_false_iff_ne, bne_iff_ne, ne_eq, Bool.not_not, Decidable.not_not] at h97
                      refine J.condF rfl rfl ?_
                      refine J.skip rfl ?_
                      refine J.seq rfl ?_
                      refine J.region rfl ?_
                      refine JO.pur rfl rfl rfl (Pur.move rfl) ?_
                      refine JO.pur rfl rfl rfl (Pur.assign rfl) ?_
                      refine JO.nil ?_
                      refine J.ret rfl rfl ?_
                      have hJ : e.act = sJoin := h57
                      have hF : e.act ≠ sFork := h30
                      have hA : ¬ noTask s e := by unfold noTask; simp only [not_or]; exact ⟨by omega, by omega, by simpa using h29⟩
                      have hj94 : s.joined.getD e.other.toNat true = true := by simpa using h97
                      exact ⟨_, _, .inr ⟨by rw [ok_join hA hF hJ, hj94]; simp, rfl, rfl⟩, congrArg Value.bool (by rw [hj94]; rfl), fun h hs => hs.tail.tail.tail.tail⟩
                  · try simp only [decide_eq_true_eq, decide_eq_false_iff_not, Bool.not_eq_true', Bool.not_eq_false', Bool.and_eq_true, Bool.or_eq_true, Bool.and_eq_false_iff, Bool.or_eq_false_iff, Option.isNone_some, Option.isSome_some, Option.isNone_none, Option.isSome_none, Int.not_lt, Int.not_le, beq_iff_eq, beq_eq_false_iff_ne, bne_iff_ne, ne_eq, Bool.not_not, Decidable.not_not] at h86
                    refine JQ.no rfl rfl rfl ?_
                    refine JQ.no rfl rfl rfl ?_
                    refine JQ.no rfl rfl rfl ?_
                    refine JQ.no rfl rfl rfl ?_
                    refine JQ.no rfl rfl rfl ?_
                    refine JQ.no rfl rfl rfl ?_
                    refine JQ.no rfl rfl rfl ?_
                    refine JQ.no rfl rfl rfl ?_
                    refine JQ.no rfl rfl rfl ?_
                    refine JQ.pur rfl rfl rfl (Pur.pickF rfl rfl) ?_
                    refine JQ.pur rfl rfl rfl (Pur.assign rfl) ?_
                    refine JQ.nil ?_
                    refine J.seq rfl ?_
                    refine J.seq rfl ?_
                    refine J.region rfl ?_
                    refine JO.pur rfl rfl rfl (Pur.move rfl) ?_
                    refine JO.nil ?_
                    refine J.condF rfl rfl ?_
                    refine J.skip rfl ?_
                    refine J.seq rfl ?_
                    refine J.region rfl ?_
                    refine JO.pur rfl rfl rfl (Pur.move rfl) ?_
                    refine JO.pur rfl rfl rfl (Pur.assign rfl) ?_
                    refine JO.nil ?_
                    refine J.ret rfl rfl ?_
                    have hJ : e.act = sJoin := h57
                    have hF : e.act ≠ sFork := h30
                    have hA : ¬ noTask s e := by unfold noTask; simp only [not_or]; exact ⟨by omega, by omega, by simpa using h29⟩
                    exact ⟨_, _, .inr ⟨by rw [ok_join hA hF hJ, decide_eq_false (p := e.other ≠ e.task) (by omega)]; simp, rfl, rfl⟩, rfl, fun h hs => hs.tail.tail.tail.tail⟩
                · try simp only [decide_eq_true_eq, decide_eq_false_iff_not, Bool.not_eq_true', Bool.not_eq_false', Bool.and_eq_true, Bool.or_eq_true, Bool.and_eq_false_iff, Bool.or_eq_false_iff, Option.isNone_some, Option.isSome_some, Option.isNone_none, Option.isSome_none, Int.not_lt, Int.not_le, beq_iff_eq, beq_eq_false_iff_ne, bne_iff_ne, ne_eq, Bool.not_not, Decidable.not_not] at h79
                  refine JQ.no rfl rfl rfl ?_
                  refine JQ.no rfl rfl rfl ?_
                  refine JQ.no rfl rfl rfl ?_
                  refine JQ.no rfl rfl rfl ?_
                  refine JQ.no rfl rfl rfl ?_
                  refine JQ.pur rfl rfl rfl (Pur.pickF rfl rfl) ?_
                  refine JQ.pur rfl rfl rfl (Pur.move rfl) ?_
                  refine JQ.no rfl rfl rfl ?_
                  refine JQ.no rfl rfl rfl ?_
                  refine JQ.no rfl rfl rfl ?_
                  refine JQ.no rfl rfl rfl ?_
                  refine JQ.no rfl rfl rfl ?_
                  refine JQ.no rfl rfl rfl ?_
                  refine JQ.no rfl rfl rfl ?_
                  refine JQ.no rfl rfl rfl ?_
                  refine JQ.no rfl rfl rfl ?_
                  refine JQ.pur rfl rfl rfl (Pur.pickF rfl rfl) ?_
                  refine JQ.pur rfl rfl rfl (Pur.assign rfl) ?_
                  refine JQ.nil ?_
                  refine J.seq rfl ?_
                  refine J.seq rfl ?_
                  refine J.region rfl ?_
                  refine JO.pur rfl rfl rfl (Pur.move rfl) ?_
                  refine JO.nil ?_
                  refine J.condF rfl rfl ?_
                  refine J.skip rfl ?_
                  refine J.seq rfl ?_
                  refine J.region rfl ?_
                  refine JO.pur rfl rfl rfl (Pur.move rfl) ?_
                  refine JO.pur rfl rfl rfl (Pur.assign rfl) ?_
                  refine JO.nil ?_
                  refine J.ret rfl rfl ?_
                  have hJ : e.act = sJoin := h57
                  have hF : e.act ≠ sFork := h30
                  have hA : ¬ noTask s e := by unfold noTask; simp only [not_or]; exact ⟨by omega, by omega, by simpa using h29⟩
                  exact ⟨_, _, .inr ⟨by rw [ok_join hA hF hJ, decide_eq_false (p := e.other < (s.joined.length : Int)) (by omega)]; simp, rfl, rfl⟩, rfl, fun h hs => hs.tail.tail.tail.tail⟩
              · try simp only [decide_eq_true_eq, decide_eq_false_iff_not, Bool.not_eq_true', Bool.not_eq_false', Bool.and_eq_true, Bool.or_eq_true, Bool.and_eq_false_iff, Bool.or_eq_false_iff, Option.isNone_some, Option.isSome_some, Option.isNone_none, Option.isSome_none, Int.not_lt, Int.not_le, beq_iff_eq, beq_eq_false_iff_ne, bne_iff_ne, ne_eq, Bool.not_not, Decidable.not_not] at h69
                refine JQ.no rfl rfl rfl ?_
                refine JQ.no rfl rfl rfl ?_
                refine JQ.no rfl rfl rfl ?_
                refine JQ.no rfl rfl rfl ?_
                refine JQ.no rfl rfl rfl ?_
                refine JQ.no rfl rfl rfl ?_
                refine JQ.no rfl rfl rfl ?_
                refine JQ.no rfl rfl rfl ?_
                refine JQ.pur rfl rfl rfl (Pur.pickF rfl rfl) ?_
                refine JQ.pur rfl rfl rfl (Pur.move rfl) ?_
                refine JQ.no rfl rfl rfl ?_
                refine JQ.no rfl rfl rfl ?_
                refine JQ.no rfl rfl rfl ?_
                refine JQ.no rfl rfl rfl ?_
                refine JQ.no rfl rfl rfl ?_
                refine JQ.pur rfl rfl rfl (Pur.pickF rfl rfl) ?_
                refine JQ.pur rfl rfl rfl (Pur.move rfl) ?_
                refine JQ.no rfl rfl rfl ?_
                refine JQ.no rfl rfl rfl ?_
                refine JQ.no rfl rfl rfl ?_
                refine JQ.no rfl rfl rfl ?_
                refine JQ.no rfl rfl rfl ?_
                refine JQ.no rfl rfl rfl ?_
                refine JQ.no rfl rfl rfl ?_
                refine JQ.no rfl rfl rfl ?_
                refine JQ.no rfl rfl rfl ?_
                refine JQ.pur rfl rfl rfl (Pur.pickF rfl rfl) ?_
                refine JQ.pur rfl rfl rfl (Pur.assign rfl) ?_
                refine JQ.nil ?_
                refine J.seq rfl ?_
                refine J.seq rfl ?_
                refine J.region rfl ?_
                refine JO.pur rfl rfl rfl (Pur.move rfl) ?_
                refine JO.nil ?_
                refine J.condF rfl rfl ?_
                refine J.skip rfl ?_
                refine J.seq rfl ?_
                refine J.region rfl ?_
                refine JO.pur rfl rfl rfl (Pur.move rfl) ?_
                refine JO.pur rfl rfl rfl (Pur.assign rfl) ?_
                refine JO.nil ?_
                refine J.ret rfl rfl ?_
                have hJ : e.act = sJoin := h57
                have hF : e.act ≠ sFork := h30
                have hA : ¬ noTask s e := by unfold noTask; simp only [not_or]; exact ⟨by omega, by omega, by simpa using h29⟩
                exact ⟨_, _, .inr ⟨by rw [ok_join hA hF hJ, decide_eq_false (p := 0 ≤ e.other) (by omega)]; simp, rfl, rfl⟩, rfl, fun h hs => hs.tail.tail.tail.tail⟩
            · try simp only [decide_eq_true_eq, decide_eq_false_iff_not, Bool.not_eq_true', Bool.not_eq_false', Bool.and_eq_true, Bool.or_eq_true, Bool.and_eq_false_iff, Bool.or_eq_false_iff, Option.isNone_some, Option.isSome_some, Option.isNone_none, Option.isSome_none, Int.not_lt, Int.not_le, beq_iff_eq, beq_eq_false_iff_ne, bne_iff_ne, ne_eq, Bool.not_not, Decidable.not_not] at h64
              refine JQ.no rfl rfl rfl ?_
              refine JQ.no rfl rfl rfl ?_
              refine JQ.no rfl rfl rfl ?_
              refine JQ.pur rfl rfl rfl (Pur.pickF rfl rfl) ?_
              refine JQ.pur rfl rfl rfl (Pur.move rfl) ?_
              refine JQ.no rfl rfl rfl ?_
              refine JQ.no rfl rfl rfl ?_
              refine JQ.no rfl rfl rfl ?_
              refine JQ.no rfl rfl rfl ?_
              refine JQ.no rfl rfl rfl ?_
              refine JQ.no rfl rfl rfl ?_
              refine JQ.no rfl rfl rfl ?_
              refine JQ.no rfl rfl rfl ?_
              refine JQ.pur rfl rfl rfl (Pur.pickF rfl rfl) ?_
              refine JQ.pur rfl rfl rfl (Pur.move rfl) ?_
              refine JQ.no rfl rfl rfl ?_
              refine JQ.no rfl rfl rfl ?_
              refine JQ.no rfl rfl rfl ?_
              refine JQ.no rfl rfl rfl ?_
              refine JQ.no rfl rfl rfl ?_
              refine JQ.pur rfl rfl rfl (Pur.pickF rfl rfl) ?_
              refine JQ.pur rfl rfl rfl (Pur.move rfl) ?_
              refine JQ.no rfl rfl rfl ?_
              refine JQ.no rfl rfl rfl ?_
              refine JQ.no rfl rfl rfl ?_
              refine JQ.no rfl rfl rfl ?_
              refine JQ.no rfl rfl rfl ?_
              refine JQ.no rfl rfl rfl ?_
              refine JQ.no rfl rfl rfl ?_
              refine JQ.no rfl rfl rfl ?_
              refine JQ.no rfl rfl rfl ?_
              refine JQ.pur rfl rfl rfl (Pur.pickF rfl rfl) ?_
              refine JQ.pur rfl rfl rfl (Pur.assign rfl) ?_
              refine JQ.nil ?_
              refine J.seq rfl ?_
              refine J.seq rfl ?_
              refine J.region rfl ?_
              refine JO.pur rfl rfl rfl (Pur.move rfl) ?_
              refine JO.nil ?_
              refine J.condF rfl rfl ?_
              refine J.skip rfl ?_
              refine J.seq rfl ?_
              refine J.region rfl ?_
              refine JO.pur rfl rfl rfl (Pur.move rfl) ?_
              refine JO.pur rfl rfl rfl (Pur.assign rfl) ?_
              refine JO.nil ?_
              refine J.ret rfl rfl ?_
              have hJ : e.act = sJoin := h57
              have hF : e.act ≠ sFork := h30
              have hA : ¬ noTask s e := by unfold noTask; simp only [not_or]; exact ⟨by omega, by omega, by simpa using h29⟩
              exact ⟨_, _, .inr ⟨by rw [ok_join hA hF hJ, decide_eq_false (p := e.cell = (⟨#[]⟩ : ByteArray)) h64]; simp, rfl, rfl⟩, rfl, fun h hs => hs.tail.tail.tail.tail⟩
          · try simp only [decide_eq_true_eq, decide_eq_false_iff_not, Bool.not_eq_true', Bool.not_eq_false', Bool.and_eq_true, Bool.or_eq_true, Bool.and_eq_false_iff, Bool.or_eq_false_iff, Option.isNone_some, Option.isSome_some, Option.isNone_none, Option.isSome_none, Int.not_lt, Int.not_le, beq_iff_eq, beq_eq_false_iff_ne, bne_iff_ne, ne_eq, Bool.not_not, Decidable.not_not] at h57
            refine J.condF rfl rfl ?_
            refine J.seq rfl ?_
            refine J.region rfl ?_
            refine JO.pur rfl rfl rfl (Pur.fieldAddr rfl) ?_
            refine JO.pur rfl rfl rfl (Pur.load rfl (CellIn.blk rfl)) ?_
            refine JO.effR rfl rfl rfl (Eff.call rfl (kinds_ok e.act)) ?_
            refine JO.pur rfl rfl rfl (Pur.not rfl) ?_
            refine JO.pur rfl rfl rfl (Pur.move rfl) ?_
            refine JO.splitB 111 rfl (fun h111 => ?_) (fun h111 => ?_)
            · try simp only [decide_eq_true_eq, decide_eq_false_iff_not, Bool.not_eq_true', Bool.not_eq_false', Bool.and_eq_true, Bool.or_eq_true, Bool.and_eq_false_iff, Bool.or_eq_false_iff, Option.isNone_some, Option.isSome_some, Option.isNone_none, Option.isSome_none, Int.not_lt, Int.not_le, beq_iff_eq, beq_eq_false_iff_ne, bne_iff_ne, ne_eq, Bool.not_not, Decidable.not_not] at h111
              refine JO.no rfl rfl rfl ?_
              refine JO.no rfl rfl rfl ?_
              refine JO.no rfl rfl rfl ?_
              refine JO.pur rfl rfl rfl (Pur.pickT rfl rfl) ?_
              refine JO.pur rfl rfl rfl (Pur.move rfl) ?_
              refine JO.no rfl rfl rfl ?_
              refine JO.no rfl rfl rfl ?_
              refine JO.no rfl rfl rfl ?_
              refine JO.pur rfl rfl rfl (Pur.pickT rfl rfl) ?_
              refine JO.pur rfl rfl rfl (Pur.move rfl) ?_
              refine JO.no rfl rfl rfl ?_
              refine JO.no rfl rfl rfl ?_
              refine JO.no rfl rfl rfl ?_
              refine JO.no rfl rfl rfl ?_
              refine JO.pur rfl rfl rfl (Pur.pickT rfl rfl) ?_
              refine JO.pur rfl rfl rfl (Pur.assign rfl) ?_
              refine JO.nil ?_
              refine J.condT rfl rfl ?_
              refine J.seq rfl ?_
              refine J.region rfl ?_
              refine JO.pur rfl rfl rfl (Pur.assign rfl) ?_
              refine JO.nil ?_
              refine J.ret rfl rfl ?_
              have hF : e.act ≠ sFork := h30
              have hJ : e.act ≠ sJoin := h57
              exact ⟨_, _, .inr ⟨ok_accBad hF hJ (.inl (by simpa using h111)), rfl, rfl⟩, rfl, fun h hs => hs.tail.tail.tail.tail⟩
            · try simp only [decide_eq_true_eq, decide_eq_false_iff_not, Bool.not_eq_true', Bool.not_eq_false', Bool.and_eq_true, Bool.or_eq_true, Bool.and_eq_false_iff, Bool.or_eq_false_iff, Option.isNone_some, Option.isSome_some, Option.isNone_none, Option.isSome_none, Int.not_lt, Int.not_le, beq_iff_eq, beq_eq_false_iff_ne, bne_iff_ne, ne_eq, Bool.not_not, Decidable.not_not] at h111
              refine JO.pur rfl rfl rfl (Pur.fieldAddr rfl) ?_
              refine JO.pur rfl rfl rfl (Pur.load rfl (CellIn.blk rfl)) ?_
              refine JO.pur rfl rfl rfl (Pur.neqI rfl rfl) ?_
              refine JO.pur rfl rfl rfl (Pur.pickF rfl rfl) ?_
              refine JO.pur rfl rfl rfl (Pur.move rfl) ?_
              refine JO.splitB 116 rfl (fun h116 => ?_) (fun h116 => ?_)
              · try simp only [decide_eq_true_eq, decide_eq_false_iff_not, Bool.not_eq_true', Bool.not_eq_false', Bool.and_eq_true, Bool.or_eq_true, Bool.and_eq_false_iff, Bool.or_eq_false_iff, Option.isNone_some, Option.isSome_some, Option.isNone_none, Option.isSome_none, Int.not_lt, Int.not_le, beq_iff_eq, beq_eq_false_iff_ne, bne_iff_ne, ne_eq, Bool.not_not, Decidable.not_not] at h116
                refine JO.no rfl rfl rfl ?_
                refine JO.no rfl rfl rfl ?_
                refine JO.no rfl rfl rfl ?_
                refine JO.pur rfl rfl rfl (Pur.pickT rfl rfl) ?_
                refine JO.pur rfl rfl rfl (Pur.move rfl) ?_
                refine JO.no rfl rfl rfl ?_
                refine JO.no rfl rfl rfl ?_
                refine JO.no rfl rfl rfl ?_
                refine JO.no rfl rfl rfl ?_
                refine JO.pur rfl rfl rfl (Pur.pickT rfl rfl) ?_
                refine JO.pur rfl rfl rfl (Pur.assign rfl) ?_
                refine JO.nil ?_
                refine J.condT rfl rfl ?_
                refine J.seq rfl ?_
                refine J.region rfl ?_
                refine JO.pur rfl rfl rfl (Pur.assign rfl) ?_
                refine JO.nil ?_
                refine J.ret rfl rfl ?_
                have hF : e.act ≠ sFork := h30
                have hJ : e.act ≠ sJoin := h57
                exact ⟨_, _, .inr ⟨ok_accBad hF hJ (.inr (.inl h116)), rfl, rfl⟩, rfl, fun h hs => hs.tail.tail.tail.tail⟩
              · try simp only [decide_eq_true_eq, decide_eq_false_iff_not, Bool.not_eq_true', Bool.not_eq_false', Bool.and_eq_true, Bool.or_eq_true, Bool.and_eq_false_iff, Bool.or_eq_false_iff, Option.isNone_some, Option.isSome_some, Option.isNone_none, Option.isSome_none, Int.not_lt, Int.not_le, beq_iff_eq, beq_eq_false_iff_ne, bne_iff_ne, ne_eq, Bool.not_not, Decidable.not_not] at h116
                refine JO.pur rfl rfl rfl (Pur.fieldAddr rfl) ?_
                refine JO.pur rfl rfl rfl (Pur.load rfl (CellIn.blk rfl)) ?_
                refine JO.pur rfl rfl rfl (Pur.eqlT rfl rfl) ?_
                refine JO.pur rfl rfl rfl (Pur.pickF rfl rfl) ?_
                refine JO.pur rfl rfl rfl (Pur.move rfl) ?_
                refine JO.splitB 121 rfl (fun h121 => ?_) (fun h121 => ?_)
                · try simp only [decide_eq_true_eq, decide_eq_false_iff_not, Bool.not_eq_true', Bool.not_eq_false', Bool.and_eq_true, Bool.or_eq_true, Bool.and_eq_false_iff, Bool.or_eq_false_iff, Option.isNone_some, Option.isSome_some, Option.isNone_none, Option.isSome_none, Int.not_lt, Int.not_le, beq_iff_eq, beq_eq_false_iff_ne, bne_iff_ne, ne_eq, Bool.not_not, Decidable.not_not] at h121
                  refine JO.no rfl rfl rfl ?_
                  refine JO.no rfl rfl rfl ?_
                  refine JO.no rfl rfl rfl ?_
                  refine JO.no rfl rfl rfl ?_
                  refine JO.pur rfl rfl rfl (Pur.pickT rfl rfl) ?_
                  refine JO.pur rfl rfl rfl (Pur.assign rfl) ?_
                  refine JO.nil ?_
                  refine J.condT rfl rfl ?_
                  refine J.seq rfl ?_
                  refine J.region rfl ?_
                  refine JO.pur rfl rfl rfl (Pur.assign rfl) ?_
                  refine JO.nil ?_
                  refine J.ret rfl rfl ?_
                  have hF : e.act ≠ sFork := h30
                  have hJ : e.act ≠ sJoin := h57
                  exact ⟨_, _, .inr ⟨ok_accBad hF hJ (.inr (.inr (.inl h121))), rfl, rfl⟩, rfl, fun h hs => hs.tail.tail.tail.tail⟩
                · try simp only [decide_eq_true_eq, decide_eq_false_iff_not, Bool.not_eq_true', Bool.not_eq_false', Bool.and_eq_true, Bool.or_eq_true, Bool.and_eq_false_iff, Bool.or_eq_false_iff, Option.isNone_some, Option.isSome_some, Option.isNone_none, Option.isSome_none, Int.not_lt, Int.not_le, beq_iff_eq, beq_eq_false_iff_ne, bne_iff_ne, ne_eq, Bool.not_not, Decidable.not_not] at h121
                  refine JO.pur rfl rfl rfl (Pur.fieldAddr rfl) ?_
                  refine JO.pur rfl rfl rfl (Pur.load rfl (CellIn.blk rfl)) ?_
                  refine JO.pur rfl rfl rfl (Pur.lenT rfl) ?_
                  refine JO.pur rfl rfl rfl (Pur.gtr rfl rfl) ?_
                  refine JO.pur rfl rfl rfl (Pur.pickF rfl rfl) ?_
                  refine JO.pur rfl rfl rfl (Pur.assign rfl) ?_
                  refine JO.nil ?_
                  refine J.splitB 106 rfl (fun h106 => ?_) (fun h106 => ?_)
                  · try simp only [decide_eq_true_eq, decide_eq_false_iff_not, Bool.not_eq_true', Bool.not_eq_false', Bool.and_eq_true, Bool.or_eq_true, Bool.and_eq_false_iff, Bool.or_eq_false_iff, Option.isNone_some, Option.isSome_some, Option.isNone_none, Option.isSome_none, Int.not_lt, Int.not_le, beq_iff_eq, beq_eq_false_iff_ne, bne_iff_ne, ne_eq, Bool.not_not, Decidable.not_not] at h106
                    refine J.condT rfl rfl ?_
                    refine J.seq rfl ?_
                    refine J.region rfl ?_
                    refine JO.pur rfl rfl rfl (Pur.assign rfl) ?_
                    refine JO.nil ?_
                    refine J.ret rfl rfl ?_
                    have hF : e.act ≠ sFork := h30
                    have hJ : e.act ≠ sJoin := h57
                    exact ⟨_, _, .inr ⟨ok_accBad hF hJ (.inr (.inr (.inr h106))), rfl, rfl⟩, rfl, fun h hs => hs.tail.tail.tail.tail⟩
                  · try simp only [decide_eq_true_eq, decide_eq_false_iff_not, Bool.not_eq_true', Bool.not_eq_false', Bool.and_eq_true, Bool.or_eq_true, Bool.and_eq_false_iff, Bool.or_eq_false_iff, Option.isNone_some, Option.isSome_some, Option.isNone_none, Option.isSome_none, Int.not_lt, Int.not_le, beq_iff_eq, beq_eq_false_iff_ne, bne_iff_ne, ne_eq, Bool.not_not, Decidable.not_not] at h106
                    refine J.condF rfl rfl ?_
                    refine J.seq rfl ?_
                    refine J.quiet rfl Try.mixed (by kernel_rfl) ?_
                    refine JQ.pur rfl rfl rfl (Pur.fieldAddr rfl) ?_
                    refine JQ.pur rfl rfl rfl (Pur.load rfl (CellIn.blk rfl)) ?_
                    refine JQ.pur rfl rfl rfl (Pur.eqlT rfl rfl) ?_
                    refine JQ.pur rfl rfl rfl (Pur.move rfl) ?_
                    refine JQ.splitB 131 rfl (fun h131 => ?_) (fun h131 => ?_)
                    · try simp only [decide_eq_true_eq, decide_eq_false_iff_not, Bool.not_eq_true', Bool.not_eq_false', Bool.and_eq_true, Bool.or_eq_true, Bool.and_eq_false_iff, Bool.or_eq_false_iff, Option.isNone_some, Option.isSome_some, Option.isNone_none, Option.isSome_none, Int.not_lt, Int.not_le, beq_iff_eq, beq_eq_false_iff_ne, bne_iff_ne, ne_eq, Bool.not_not, Decidable.not_not] at h131
                      refine JQ.pur rfl rfl rfl (Pur.move rfl) ?_
                      refine JQ.pur rfl rfl rfl (Pur.nilCheck rfl) ?_
                      refine JQ.pur rfl rfl rfl (Pur.fieldAddr rfl) ?_
                      refine JQ.pur rfl rfl rfl (Pur.load rfl (CellIn.blk rfl)) ?_
                      refine JQ.pur rfl rfl rfl (Pur.fieldAddr rfl) ?_
                      refine JQ.pur rfl rfl rfl (Pur.load rfl (CellIn.blk rfl)) ?_
                      refine JQ.pur rfl rfl rfl (Pur.lookup rfl rfl) ?_
                      refine JQ.setv (u' := .bool (hasCell s.given e.cell)) 138 rfl (hg e.cell) ?_
                      refine JQ.pur rfl rfl rfl (Pur.not rfl) ?_
                      refine JQ.pur rfl rfl rfl (Pur.pickT rfl rfl) ?_
                      refine JQ.pur rfl rfl rfl (Pur.assign rfl) ?_
                      refine JQ.nil ?_
                      refine J.splitB 127 rfl (fun h127 => ?_) (fun h127 => ?_)
                      · try simp only [decide_eq_true_eq, decide_eq_false_iff_not, Bool.not_eq_true', Bool.not_eq_false', Bool.and_eq_true, Bool.or_eq_true, Bool.and_eq_false_iff, Bool.or_eq_false_iff, Option.isNone_some, Option.isSome_some, Option.isNone_none, Option.isSome_none, Int.not_lt, Int.not_le, beq_iff_eq, beq_eq_false_iff_ne, bne_iff_ne, ne_eq, Bool.not_not, Decidable.not_not] at h127
                        refine J.condT rfl rfl ?_
                        refine J.seq rfl ?_
                        refine J.region rfl ?_
                        refine JO.pur rfl rfl rfl (Pur.assign rfl) ?_
                        refine JO.nil ?_
                        refine J.ret rfl rfl ?_
                        have hF : e.act ≠ sFork := h30
                        have hJ : e.act ≠ sJoin := h57
                        have hA : ¬ noTask s e := by unfold noTask; simp only [not_or]; exact ⟨by omega, by omega, by simpa using h29⟩
                        have hok := ok_acc hA hF hJ (by simpa using h111) (by simpa using h116) h121 h106
                        have hG : e.act = sGet := h131
                        exact ⟨_, _, .inr ⟨by rw [hok]; simp_all, rfl, rfl⟩, rfl, fun h hs => hs.tail.tail.tail.tail⟩
                      · try simp only [decide_eq_true_eq, decide_eq_false_iff_not, Bool.not_eq_true', Bool.not_eq_false', Bool.and_eq_true, Bool.or_eq_true, Bool.and_eq_false_iff, Bool.or_eq_false_iff, Option.isNone_some, Option.isSome_some, Option.isNone_none, Option.isSome_none, Int.not_lt, Int.not_le, beq_iff_eq, beq_eq_false_iff_ne, bne_iff_ne, ne_eq, Bool.not_not, Decidable.not_not] at h127
                        refine J.condF rfl rfl ?_
                        refine J.skip rfl ?_
                        refine J.inBlock ?_
                        refine J.seq rfl ?_
                        refine J.mask0 (n := 19) [18] rfl Try.mixed rfl (by kernel_rfl) ?_
                        refine JM.take 0 (fun _ h => h) rfl (by kernel_rfl) rfl rfl rfl (m' := 1) rfl (Pur.move rfl) ?_
                        refine JM.take 1 (fun _ h => h) rfl (by kernel_rfl) rfl rfl rfl (m' := 3) rfl (Pur.nilCheck rfl) ?_
                        refine JM.take 2 (fun _ h => h) rfl (by kernel_rfl) rfl rfl rfl (m' := 7) rfl (Pur.fieldAddr rfl) ?_
                        refine JM.take 3 (fun _ h => h) rfl (by kernel_rfl) rfl rfl rfl (m' := 15) rfl (Pur.load rfl (CellIn.blk rfl)) ?_
                        refine JM.take 4 (fun _ h => h) rfl (by kernel_rfl) rfl rfl rfl (m' := 31) rfl (Pur.fieldAddr rfl) ?_
                        refine JM.take 5 (fun _ h => h) rfl (by kernel_rfl) rfl rfl rfl (m' := 63) rfl (Pur.load rfl (CellIn.blk rfl)) ?_
                        refine JM.take 6 (fun _ h => h) rfl (by kernel_rfl) rfl rfl rfl (m' := 127) rfl (Pur.move rfl) ?_
                        refine JM.take 7 (fun _ h => h) rfl (by kernel_rfl) rfl rfl rfl (m' := 255) rfl (Pur.nilCheck rfl) ?_
                        refine JM.take 8 (fun _ h => h) rfl (by kernel_rfl) rfl rfl rfl (m' := 511) rfl (Pur.fieldAddr rfl) ?_
                        refine JM.take 9 (fun _ h => h) rfl (by kernel_rfl) rfl rfl rfl (m' := 1023) rfl (Pur.load rfl (CellIn.blk rfl)) ?_
                        refine JM.take 10 (fun _ h => h) rfl (by kernel_rfl) rfl rfl rfl (m' := 2047) rfl (Pur.fieldAddr rfl) ?_
                        refine JM.take 11 (fun _ h => h) rfl (by kernel_rfl) rfl rfl rfl (m' := 4095) rfl (Pur.load rfl (CellIn.blk rfl)) ?_
                        refine JM.take 12 (fun _ h => h) rfl (by kernel_rfl) rfl rfl rfl (m' := 8191) rfl (Pur.lookup rfl rfl) ?_
                        refine JM.setv (u' := .bool (hasCell s.given e.cell)) 153 rfl (hg e.cell) ?_
                        refine JM.take 13 (fun _ h => h) rfl (by kernel_rfl) rfl rfl rfl (m' := 16383) rfl (Pur.move rfl) ?_
                        refine JM.splitB 154 rfl (fun h154 => ?_) (fun h154 => ?_)
                        · try simp only [decide_eq_true_eq, decide_eq_false_iff_not, Bool.not_eq_true', Bool.not_eq_false', Bool.and_eq_true, Bool.or_eq_true, Bool.and_eq_false_iff, Bool.or_eq_false_iff, Option.isNone_some, Option.isSome_some, Option.isNone_none, Option.isSome_none, Int.not_lt, Int.not_le, beq_iff_eq, beq_eq_false_iff_ne, bne_iff_ne, ne_eq, Bool.not_not, Decidable.not_not] at h154
                          refine JM.takeNo 14 (fun _ h => h) rfl (by kernel_rfl) rfl rfl rfl (m' := 32767) rfl ?_
                          refine JM.takeNo 15 (fun _ h => h) rfl (by kernel_rfl) rfl rfl rfl (m' := 65535) rfl ?_
                          refine JM.takeNo 16 (fun _ h => h) rfl (by kernel_rfl) rfl rfl rfl (m' := 131071) rfl ?_
                          refine JM.take 17 (fun _ h => h) rfl (by kernel_rfl) rfl rfl rfl (m' := 262143) rfl (Pur.pickT rfl rfl) ?_
                          refine JM.one (i := 18) (by kernel_rfl) ?_
                          refine JMi.effN rfl rfl rfl (m' := 524287) rfl (Eff.mapUpdate rfl rfl rfl) ?_
                          rintro _ _ ⟨rfl, rfl⟩
                          refine ⟨.inl (by simp), ?_⟩
                          refine JM.done rfl ?_
                          refine J.seq rfl ?_
                          refine J.region rfl ?_
                          refine JO.pur rfl rfl rfl (Pur.assign rfl) ?_
                          refine JO.nil ?_
                          refine J.ret rfl rfl ?_
                          have hF : e.act ≠ sFork := h30
                          have hJ : e.act ≠ sJoin := h57
                          have hA : ¬ noTask s e := by unfold noTask; simp only [not_or]; exact ⟨by omega, by omega, by simpa using h29⟩
                          have hok := ok_acc hA hF hJ (by simpa using h111) (by simpa using h116) h121 h106
                          have hG : e.act = sGet := h131
                          by_cases hv : e.act = sGive
                          · exact ⟨_, _, .inl ⟨by rw [hok]; simp_all, rfl, a, cap, _, by rw [af_give hv]; exact rel_set (c := e.cell) (g' := e.cell :: s.given) (b := true) hg (fun x hx => by rw [hasCell_cons]; simp [Ne.symm hx]) (by rw [hasCell_cons]; simp), rfl⟩, rfl, fun h hs => by rw [af_give hv]; have hs := hs.tail; simpa [sGive, hv] using hs⟩
                          · exact ⟨_, _, .inl ⟨by rw [hok]; simp_all, rfl, a, cap, _, by rw [af_acc hF hJ hv]; exact rel_set (c := e.cell) (g' := s.given) (b := hasCell s.given e.cell) hg (fun x hx => rfl) rfl, rfl⟩, rfl, fun h hs => by rw [af_acc hF hJ hv]; have hs := hs.tail; first | (simp_all; done) | (rw [decide_eq_false (show ¬ e.act = (⟨#[103, 105, 118, 101]⟩ : ByteArray) from hv)] at hs; rw [h154]; exact hs)⟩
                        · try simp only [decide_eq_true_eq, decide_eq_false_iff_not, Bool.not_eq_true', Bool.not_eq_false', Bool.and_eq_true, Bool.or_eq_true, Bool.and_eq_false_iff, Bool.or_eq_false_iff, Option.isNone_some, Option.isSome_some, Option.isNone_none, Option.isSome_none, Int.not_lt, Int.not_le, beq_iff_eq, beq_eq_false_iff_ne, bne_iff_ne, ne_eq, Bool.not_not, Decidable.not_not] at h154
                          refine JM.take 14 (fun _ h => h) rfl (by kernel_rfl) rfl rfl rfl (m' := 32767) rfl (Pur.fieldAddr rfl) ?_
                          refine JM.take 15 (fun _ h => h) rfl (by kernel_rfl) rfl rfl rfl (m' := 65535) rfl (Pur.load rfl (CellIn.blk rfl)) ?_
                          refine JM.take 16 (fun _ h => h) rfl (by kernel_rfl) rfl rfl rfl (m' := 131071) rfl (Pur.eqlT rfl rfl) ?_
                          refine JM.take 17 (fun _ h => h) rfl (by kernel_rfl) rfl rfl rfl (m' := 262143) rfl (Pur.pickF rfl rfl) ?_
                          refine JM.one (i := 18) (by kernel_rfl) ?_
                          refine JMi.effN rfl rfl rfl (m' := 524287) rfl (Eff.mapUpdate rfl rfl rfl) ?_
                          rintro _ _ ⟨rfl, rfl⟩
                          refine ⟨.inl (by simp), ?_⟩
                          refine JM.done rfl ?_
                          refine J.seq rfl ?_
                          refine J.region rfl ?_
                          refine JO.pur rfl rfl rfl (Pur.assign rfl) ?_
                          refine JO.nil ?_
                          refine J.ret rfl rfl ?_
                          have hF : e.act ≠ sFork := h30
                          have hJ : e.act ≠ sJoin := h57
                          have hA : ¬ noTask s e := by unfold noTask; simp only [not_or]; exact ⟨by omega, by omega, by simpa using h29⟩
                          have hok := ok_acc hA hF hJ (by simpa using h111) (by simpa using h116) h121 h106
                          have hG : e.act = sGet := h131
                          by_cases hv : e.act = sGive
                          · exact ⟨_, _, .inl ⟨by rw [hok]; simp_all, rfl, a, cap, _, by rw [af_give hv]; exact rel_set (c := e.cell) (g' := e.cell :: s.given) (b := true) hg (fun x hx => by rw [hasCell_cons]; simp [Ne.symm hx]) (by rw [hasCell_cons]; simp), rfl⟩, rfl, fun h hs => by rw [af_give hv]; have hs := hs.tail; simpa [sGive, hv] using hs⟩
                          · exact ⟨_, _, .inl ⟨by rw [hok]; simp_all, rfl, a, cap, _, by rw [af_acc hF hJ hv]; exact rel_set (c := e.cell) (g' := s.given) (b := hasCell s.given e.cell) hg (fun x hx => rfl) rfl, rfl⟩, rfl, fun h hs => by rw [af_acc hF hJ hv]; have hs := hs.tail; first | (simp_all; done) | (rw [decide_eq_false (show ¬ e.act = (⟨#[103, 105, 118, 101]⟩ : ByteArray) from hv)] at hs; rw [h154]; exact hs)⟩
                    · try simp only [decide_eq_true_eq, decide_eq_false_iff_not, Bool.not_eq_true', Bool.not_eq_false', Bool.and_eq_true, Bool.or_eq_true, Bool.and_eq_false_iff, Bool.or_eq_false_iff, Option.isNone_some, Option.isSome_some, Option.isNone_none, Option.isSome_none, Int.not_lt, Int.not_le, beq_iff_eq, beq_eq_false_iff_ne, bne_iff_ne, ne_eq, Bool.not_not, Decidable.not_not] at h131
                      refine JQ.no rfl rfl rfl ?_
                      refine JQ.no rfl rfl rfl ?_
                      refine JQ.no rfl rfl rfl ?_
                      refine JQ.no rfl rfl rfl ?_
                      refine JQ.no rfl rfl rfl ?_
                      refine JQ.no rfl rfl rfl ?_
                      refine JQ.no rfl rfl rfl ?_
                      refine JQ.no rfl rfl rfl ?_
                      refine JQ.pur rfl rfl rfl (Pur.pickF rfl rfl) ?_
                      refine JQ.pur rfl rfl rfl (Pur.assign rfl) ?_
                      refine JQ.nil ?_
                      refine J.condF rfl rfl ?_
                      refine J.skip rfl ?_
                      refine J.inBlock ?_
                      refine J.seq rfl ?_
                      refine J.mask0 (n := 19) [18] rfl Try.mixed rfl (by kernel_rfl) ?_
                      refine JM.take 0 (fun _ h => h) rfl (by kernel_rfl) rfl rfl rfl (m' := 1) rfl (Pur.move rfl) ?_
                      refine JM.take 1 (fun _ h => h) rfl (by kernel_rfl) rfl rfl rfl (m' := 3) rfl (Pur.nilCheck rfl) ?_
                      refine JM.take 2 (fun _ h => h) rfl (by kernel_rfl) rfl rfl rfl (m' := 7) rfl (Pur.fieldAddr rfl) ?_
                      refine JM.take 3 (fun _ h => h) rfl (by kernel_rfl) rfl rfl rfl (m' := 15) rfl (Pur.load rfl (CellIn.blk rfl)) ?_
                      refine JM.take 4 (fun _ h => h) rfl (by kernel_rfl) rfl rfl rfl (m' := 31) rfl (Pur.fieldAddr rfl) ?_
                      refine JM.take 5 (fun _ h => h) rfl (by kernel_rfl) rfl rfl rfl (m' := 63) rfl (Pur.load rfl (CellIn.blk rfl)) ?_
                      refine JM.take 6 (fun _ h => h) rfl (by kernel_rfl) rfl rfl rfl (m' := 127) rfl (Pur.move rfl) ?_
                      refine JM.take 7 (fun _ h => h) rfl (by kernel_rfl) rfl rfl rfl (m' := 255) rfl (Pur.nilCheck rfl) ?_
                      refine JM.take 8 (fun _ h => h) rfl (by kernel_rfl) rfl rfl rfl (m' := 511) rfl (Pur.fieldAddr rfl) ?_
                      refine JM.take 9 (fun _ h => h) rfl (by kernel_rfl) rfl rfl rfl (m' := 1023) rfl (Pur.load rfl (CellIn.blk rfl)) ?_
                      refine JM.take 10 (fun _ h => h) rfl (by kernel_rfl) rfl rfl rfl (m' := 2047) rfl (Pur.fieldAddr rfl) ?_
                      refine JM.take 11 (fun _ h => h) rfl (by kernel_rfl) rfl rfl rfl (m' := 4095) rfl (Pur.load rfl (CellIn.blk rfl)) ?_
                      refine JM.take 12 (fun _ h => h) rfl (by kernel_rfl) rfl rfl rfl (m' := 8191) rfl (Pur.lookup rfl rfl) ?_
                      refine JM.setv (u' := .bool (hasCell s.given e.cell)) 153 rfl (hg e.cell) ?_
                      refine JM.take 13 (fun _ h => h) rfl (by kernel_rfl) rfl rfl rfl (m' := 16383) rfl (Pur.move rfl) ?_
                      refine JM.splitB 154 rfl (fun h154 => ?_) (fun h154 => ?_)
                      · try simp only [decide_eq_true_eq, decide_eq_false_iff_not, Bool.not_eq_true', Bool.not_eq_false', Bool.and_eq_true, Bool.or_eq_true, Bool.and_eq_false_iff, Bool.or_eq_false_iff, Option.isNone_some, Option.isSome_some, Option.isNone_none, Option.isSome_none, Int.not_lt, Int.not_le, beq_iff_eq, beq_eq_false_iff_ne, bne_iff_ne, ne_eq, Bool.not_not, Decidable.not_not] at h154
                        refine JM.takeNo 14 (fun _ h => h) rfl (by kernel_rfl) rfl rfl rfl (m' := 32767) rfl ?_
                        refine JM.takeNo 15 (fun _ h => h) rfl (by kernel_rfl) rfl rfl rfl (m' := 65535) rfl ?_
                        refine JM.takeNo 16 (fun _ h => h) rfl (by kernel_rfl) rfl rfl rfl (m' := 131071) rfl ?_
                        refine JM.take 17 (fun _ h => h) rfl (by kernel_rfl) rfl rfl rfl (m' := 262143) rfl (Pur.pickT rfl rfl) ?_
                        refine JM.one (i := 18) (by kernel_rfl) ?_
                        refine JMi.effN rfl rfl rfl (m' := 524287) rfl (Eff.mapUpdate rfl rfl rfl) ?_
                        rintro _ _ ⟨rfl, rfl⟩
                        refine ⟨.inl (by simp), ?_⟩
                        refine JM.done rfl ?_
                        refine J.seq rfl ?_
                        refine J.region rfl ?_
                        refine JO.pur rfl rfl rfl (Pur.assign rfl) ?_
                        refine JO.nil ?_
                        refine J.ret rfl rfl ?_
                        have hF : e.act ≠ sFork := h30
                        have hJ : e.act ≠ sJoin := h57
                        have hA : ¬ noTask s e := by unfold noTask; simp only [not_or]; exact ⟨by omega, by omega, by simpa using h29⟩
                        have hok := ok_acc hA hF hJ (by simpa using h111) (by simpa using h116) h121 h106
                        have hG : e.act ≠ sGet := h131
                        by_cases hv : e.act = sGive
                        · exact ⟨_, _, .inl ⟨by rw [hok]; simp [hG], rfl, a, cap, _, by rw [af_give hv]; exact rel_set (c := e.cell) (g' := e.cell :: s.given) (b := true) hg (fun x hx => by rw [hasCell_cons]; simp [Ne.symm hx]) (by rw [hasCell_cons]; simp), rfl⟩, rfl, fun h hs => by rw [af_give hv]; have hs := hs.tail; simpa [sGive, hv] using hs⟩
                        · exact ⟨_, _, .inl ⟨by rw [hok]; simp [hG], rfl, a, cap, _, by rw [af_acc hF hJ hv]; exact rel_set (c := e.cell) (g' := s.given) (b := hasCell s.given e.cell) hg (fun x hx => rfl) rfl, rfl⟩, rfl, fun h hs => by rw [af_acc hF hJ hv]; have hs := hs.tail; first | (simp_all; done) | (rw [decide_eq_false (show ¬ e.act = (⟨#[103, 105, 118, 101]⟩ : ByteArray) from hv)] at hs; rw [h154]; exact hs)⟩
                      · try simp only [decide_eq_true_eq, decide_eq_false_iff_not, Bool.not_eq_true', Bool.not_eq_false', Bool.and_eq_true, Bool.or_eq_true, Bool.and_eq_false_iff, Bool.or_eq_false_iff, Option.isNone_some, Option.isSome_some, Option.isNone_none, Option.isSome_none, Int.not_lt, Int.not_le, beq_iff_eq, beq_eq_false_iff_ne, bne_iff_ne, ne_eq, Bool.not_not, Decidable.not_not] at h154
                        refine JM.take 14 (fun _ h => h) rfl (by kernel_rfl) rfl rfl rfl (m' := 32767) rfl (Pur.fieldAddr rfl) ?_
                        refine JM.take 15 (fun _ h => h) rfl (by kernel_rfl) rfl rfl rfl (m' := 65535) rfl (Pur.load rfl (CellIn.blk rfl)) ?_
                        refine JM.take 16 (fun _ h => h) rfl (by kernel_rfl) rfl rfl rfl (m' := 131071) rfl (Pur.eqlT rfl rfl) ?_
                        refine JM.take 17 (fun _ h => h) rfl (by kernel_rfl) rfl rfl rfl (m' := 262143) rfl (Pur.pickF rfl rfl) ?_
                        refine JM.one (i := 18) (by kernel_rfl) ?_
                        refine JMi.effN rfl rfl rfl (m' := 524287) rfl (Eff.mapUpdate rfl rfl rfl) ?_
                        rintro _ _ ⟨rfl, rfl⟩
                        refine ⟨.inl (by simp), ?_⟩
                        refine JM.done rfl ?_
                        refine J.seq rfl ?_
                        refine J.region rfl ?_
                        refine JO.pur rfl rfl rfl (Pur.assign rfl) ?_
                        refine JO.nil ?_
                        refine J.ret rfl rfl ?_
                        have hF : e.act ≠ sFork := h30
                        have hJ : e.act ≠ sJoin := h57
                        have hA : ¬ noTask s e := by unfold noTask; simp only [not_or]; exact ⟨by omega, by omega, by simpa using h29⟩
                        have hok := ok_acc hA hF hJ (by simpa using h111) (by simpa using h116) h121 h106
                        have hG : e.act ≠ sGet := h131
                        by_cases hv : e.act = sGive
                        · exact ⟨_, _, .inl ⟨by rw [hok]; simp [hG], rfl, a, cap, _, by rw [af_give hv]; exact rel_set (c := e.cell) (g' := e.cell :: s.given) (b := true) hg (fun x hx => by rw [hasCell_cons]; simp [Ne.symm hx]) (by rw [hasCell_cons]; simp), rfl⟩, rfl, fun h hs => by rw [af_give hv]; have hs := hs.tail; simpa [sGive, hv] using hs⟩
                        · exact ⟨_, _, .inl ⟨by rw [hok]; simp [hG], rfl, a, cap, _, by rw [af_acc hF hJ hv]; exact rel_set (c := e.cell) (g' := s.given) (b := hasCell s.given e.cell) hg (fun x hx => rfl) rfl, rfl⟩, rfl, fun h hs => by rw [af_acc hF hJ hv]; have hs := hs.tail; first | (simp_all; done) | (rw [decide_eq_false (show ¬ e.act = (⟨#[103, 105, 118, 101]⟩ : ByteArray) from hv)] at hs; rw [h154]; exact hs)⟩

end Go.Proofs.Ytekgkamjbnfgiaa
