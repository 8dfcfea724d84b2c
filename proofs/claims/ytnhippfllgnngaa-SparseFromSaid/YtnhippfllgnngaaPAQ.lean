/-
  A part of the proof of the claim that this folder bears.
-/
import Derived.Test.YtnhippfllgnngaaPAP
import Derived.Test.YtnhippfllgnngaaPAO
/- The text SK3. -/
set_option linter.unusedVariables false
set_option linter.unusedSimpArgs false
set_option maxRecDepth 10000
namespace Go.Proofs.Ytnhippfllgnngaa
open Go Go.KK Dm

theorem less_ok {L : List Asn} {x y : Int} :
    CallS Try.prog 146 [.int .i64 x, .int .i64 y].toArray L (fun v M => v = .bool (decide (x < y)) ∧ M = L) := by
  refine CallS.ent ?_
  refine CallS.enter Try.func146 rfl rfl rfl rfl rfl ?_
  refine J.seq rfl ?_
  refine J.region rfl ?_
  refine JO.pur rfl rfl rfl (Pur.assign rfl) ?_
  refine JO.nil ?_
  refine J.seq rfl ?_
  refine J.region rfl ?_
  refine JO.pur rfl rfl rfl (Pur.move rfl) ?_
  refine JO.effR rfl rfl rfl (Eff.call rfl (isNaN_ok)) ?_
  refine JO.setv (u' := .bool false) 6 rfl (congrArg Value.bool (rfl)) ?_
  refine JO.pur rfl rfl rfl (Pur.move rfl) ?_
  refine JO.no rfl rfl rfl ?_
  refine JO.no rfl rfl rfl ?_
  refine JO.no rfl rfl rfl ?_
  refine JO.pur rfl rfl rfl (Pur.pickF rfl rfl) ?_
  refine JO.pur rfl rfl rfl (Pur.move rfl) ?_
  refine JO.pur rfl rfl rfl (Pur.move rfl) ?_
  refine JO.pur rfl rfl rfl (Pur.move rfl) ?_
  refine JO.pur rfl rfl rfl (Pur.lss rfl rfl) ?_
  refine JO.pur rfl rfl rfl (Pur.pickF rfl rfl) ?_
  refine JO.pur rfl rfl rfl (Pur.assign rfl) ?_
  refine JO.nil ?_
  refine J.ret rfl rfl ?_
  refine ⟨_, _, ⟨rfl, rfl⟩, rfl, SubC.out⟩

def sortB (xs : List Int) : Prop := ∀ i, i < xs.length → 1 ≤ i → xs.getD (i - 1) 0 ≤ xs.getD i 0
instance (xs : List Int) : Decidable (sortB xs) := inferInstanceAs (Decidable (∀ i, i < xs.length → _))
theorem isSorted_ok {L : List Asn} {a : Option Addr} {n cap : Nat} {xs : List Int} [SlIn intE L a xs] (hn : n = xs.length) (hb : xs.length ≤ 1000000) :
    CallS Try.prog 93 [.slice a n cap].toArray L (fun v M => v = .bool (decide (sortB xs)) ∧ M = L) := by
  subst hn
  refine CallS.ent ?_
  refine CallS.enter Try.func93 rfl rfl rfl rfl rfl ?_
  refine J.seq rfl ?_
  refine J.region rfl ?_
  refine JO.pur rfl rfl rfl (Pur.assign rfl) ?_
  refine JO.nil ?_
  refine J.seq rfl ?_
  refine J.seq rfl ?_
  refine J.region rfl ?_
  refine JO.pur rfl rfl rfl (Pur.move rfl) ?_
  refine JO.pur rfl rfl rfl (Pur.len rfl) ?_
  refine JO.pur rfl rfl rfl (Pur.sub rfl rfl (wr64 (by omega))) ?_
  refine JO.pur rfl rfl rfl (Pur.assign rfl) ?_
  refine JO.nil ?_
  refine J.block rfl ?_
  refine J.loopF (ι := Nat) (fun q => q ≤ xs.length ∧ ∀ i, q ≤ i → i < xs.length → 1 ≤ i → xs.getD (i - 1) 0 ≤ xs.getD i 0) (fun q => [(3, .int .i64 ((q : Int) - 1))]) [(0, _)] (fun q => L) (fun q => q) xs.length rfl (.cons rfl rfl .nil) (.cons rfl rfl .nil) (by first | exact fun _ h => h | exact SubC.out | (dsimp only; exact SubC.out)) ⟨Nat.le_refl _, fun i h1 h2 => by omega⟩ ?_
  rintro k ⟨hk, hok⟩ ihk
  try dsimp only
  refine J.seq rfl ?_
  refine J.seq rfl ?_
  refine J.region rfl ?_
  refine JO.pur rfl rfl rfl (Pur.move rfl) ?_
  refine JO.pur rfl rfl rfl (Pur.gtr rfl rfl) ?_
  refine JO.nil ?_
  refine J.splitB 8 rfl (fun h8 => ?_) (fun h8 => ?_)
  · try simp only [decide_eq_true_eq, decide_eq_false_iff_not, Bool.not_eq_true', Bool.not_eq_false', Bool.and_eq_true, Bool.or_eq_true, Bool.and_eq_false_iff, Bool.or_eq_false_iff, Option.isNone_some, Option.isSome_some, Option.isNone_none, Option.isSome_none, Int.not_lt, Int.not_le, beq_iff_eq, beq_eq_false_iff_ne, bne_iff_ne, ne_eq, Bool.not_not, Decidable.not_not] at h8
    have hk2 : 2 ≤ k := by omega
    have e1 : ((k : Int) - 1) = ((k - 1 : Nat) : Int) := by omega
    have e2 : ((k : Int) - 1 - 1) = ((k - 2 : Nat) : Int) := by omega
    refine J.condT rfl rfl ?_
    refine J.skip rfl ?_
    refine J.seq rfl ?_
    refine J.block rfl ?_
    refine J.seq rfl ?_
    refine J.mask0 (n := 10) [9] rfl Try.mixed rfl (by kernel_rfl) ?_
    refine JM.take 0 (fun _ h => h) rfl (by kernel_rfl) rfl rfl rfl (m' := 1) rfl (Pur.move rfl) ?_
    refine JM.take 1 (fun _ h => h) rfl (by kernel_rfl) rfl rfl rfl (m' := 3) rfl (Pur.move rfl) ?_
    refine JM.take 2 (fun _ h => h) rfl (by kernel_rfl) rfl rfl rfl (m' := 7) rfl (Pur.idx rfl rfl rfl (by first | rfl | (simp; done) | omega) e1 (by omega)) ?_
    refine JM.take 3 (fun _ h => h) rfl (by kernel_rfl) rfl rfl rfl (m' := 15) rfl (Pur.load rfl (CellIn.el0 rfl (getD_at' 0 (by omega)) rfl)) ?_
    refine JM.setv (u' := .int .i64 (xs.getD (k - 1) 0)) 14 rfl rfl ?_
    refine JM.take 4 (fun _ h => h) rfl (by kernel_rfl) rfl rfl rfl (m' := 31) rfl (Pur.move rfl) ?_
    refine JM.take 5 (fun _ h => h) rfl (by kernel_rfl) rfl rfl rfl (m' := 63) rfl (Pur.move rfl) ?_
    refine JM.take 6 (fun _ h => h) rfl (by kernel_rfl) rfl rfl rfl (m' := 127) rfl (Pur.sub rfl rfl (wr64 (by omega))) ?_
    refine JM.take 7 (fun _ h => h) rfl (by kernel_rfl) rfl rfl rfl (m' := 255) rfl (Pur.idx rfl rfl rfl (by first | rfl | (simp; done) | omega) e2 (by omega)) ?_
    refine JM.take 8 (fun _ h => h) rfl (by kernel_rfl) rfl rfl rfl (m' := 511) rfl (Pur.load rfl (CellIn.el0 rfl (getD_at' 0 (by omega)) rfl)) ?_
    refine JM.setv (u' := .int .i64 (xs.getD (k - 2) 0)) 19 rfl rfl ?_
    refine JM.one (i := 9) (by kernel_rfl) ?_
    refine JMi.effR (fun _ h => h) rfl rfl rfl rfl (m' := 1023) rfl (Eff.call rfl (less_ok)) ?_
    refine JM.done rfl ?_
    refine J.splitB 20 rfl (fun h20 => ?_) (fun h20 => ?_)
    · try simp only [decide_eq_true_eq, decide_eq_false_iff_not, Bool.not_eq_true', Bool.not_eq_false', Bool.and_eq_true, Bool.or_eq_true, Bool.and_eq_false_iff, Bool.or_eq_false_iff, Option.isNone_some, Option.isSome_some, Option.isNone_none, Option.isSome_none, Int.not_lt, Int.not_le, beq_iff_eq, beq_eq_false_iff_ne, bne_iff_ne, ne_eq, Bool.not_not, Decidable.not_not] at h20
      refine J.condT rfl rfl ?_
      refine J.seq rfl ?_
      refine J.region rfl ?_
      refine JO.pur rfl rfl rfl (Pur.assign rfl) ?_
      refine JO.nil ?_
      refine J.ret rfl rfl ?_
      refine ⟨_, _, ⟨rfl, rfl⟩, congrArg Value.bool ((decide_eq_false (fun g => by have := g (k - 1) (by omega) (by omega); rw [show k - 1 - 1 = k - 2 by omega] at this; omega)).symm), SubC.out⟩
    · try simp only [decide_eq_true_eq, decide_eq_false_iff_not, Bool.not_eq_true', Bool.not_eq_false', Bool.and_eq_true, Bool.or_eq_true, Bool.and_eq_false_iff, Bool.or_eq_false_iff, Option.isNone_some, Option.isSome_some, Option.isNone_none, Option.isSome_none, Int.not_lt, Int.not_le, beq_iff_eq, beq_eq_false_iff_ne, bne_iff_ne, ne_eq, Bool.not_not, Decidable.not_not] at h20
      have hok2 : ∀ i, k - 1 ≤ i → i < xs.length → 1 ≤ i → xs.getD (i - 1) 0 ≤ xs.getD i 0 := fun i h1 h2 h3 => by
        by_cases e : i = k - 1
        · subst e; have : k - 1 - 1 = k - 2 := by omega
          rw [this]; omega
        · exact hok i (by omega) h2 h3
      refine J.condF rfl rfl ?_
      refine J.skip rfl ?_
      refine J.inBlock ?_
      refine J.region rfl ?_
      refine JO.pur rfl rfl rfl (Pur.move rfl) ?_
      refine JO.pur rfl rfl rfl (Pur.sub rfl rfl (wr64 (by omega))) ?_
      refine JO.pur rfl rfl rfl (Pur.assign rfl) ?_
      refine JO.nil ?_
      exact J.weaken (.cons rfl (congrArg (Value.int .i64) (by omega)) (.cons rfl rfl .nil)) (by first | exact fun _ h => h | exact SubC.out | (dsimp only; exact SubC.out)) (ihk (k - 1) ⟨by omega, hok2⟩ (by omega))
  · try simp only [decide_eq_true_eq, decide_eq_false_iff_not, Bool.not_eq_true', Bool.not_eq_false', Bool.and_eq_true, Bool.or_eq_true, Bool.and_eq_false_iff, Bool.or_eq_false_iff, Option.isNone_some, Option.isSome_some, Option.isNone_none, Option.isSome_none, Int.not_lt, Int.not_le, beq_iff_eq, beq_eq_false_iff_ne, bne_iff_ne, ne_eq, Bool.not_not, Decidable.not_not] at h8
    refine J.condF rfl rfl ?_
    refine J.exit rfl rfl ?_
    refine J.seq rfl ?_
    refine J.region rfl ?_
    refine JO.pur rfl rfl rfl (Pur.assign rfl) ?_
    refine JO.nil ?_
    refine J.ret rfl rfl ?_
    refine ⟨_, _, ⟨rfl, rfl⟩, congrArg Value.bool ((decide_eq_true (fun i h1 h2 => hok i (by omega) h1 h2)).symm), SubC.out⟩

end Go.Proofs.Ytnhippfllgnngaa

/- The text SpPlain5. -/
set_option linter.unusedVariables false
set_option linter.unusedSimpArgs false
/-! From lists that are compressed by rows. -/
namespace Go.Proofs.Ytnhippfllgnngaa
open Go Go.KK Dm
abbrev SpRF := (List Rg × List (List Int)) × Int
theorem cntD_two {d : List Rg} (h : d.length = 2) : cntD d = cnt (d.getD 0 default) * cnt (d.getD 1 default) := by
  match d, h with
  | [a, b], _ => unfold cntD; simp
theorem sortB_le {xs : List Int} (h : sortB xs) : ∀ j i, i ≤ j → j < xs.length → xs.getD i 0 ≤ xs.getD j 0 := by
  intro j
  induction j with
  | zero => intro i hi hj; rw [show i = 0 by omega]; omega
  | succ j ih =>
    intro i hi hj
    by_cases e : i = j + 1
    · rw [e]; omega
    · have h1 := ih i (by omega) (by omega)
      have h2 := h (j + 1) hj (by omega)
      rw [Nat.add_sub_cancel] at h2; omega
/-- The lists' form. -/
def chkF (R : Nat) (starts cols : List Int) : Prop := starts.length = R + 1 ∧ starts.getD 0 0 = 0 ∧ starts.getD R 0 = (cols.length : Int) ∧ cols.length ≤ 400 ∧ sortB starts
instance (R : Nat) (starts cols : List Int) : Decidable (chkF R starts cols) := inferInstanceAs (Decidable (_ ∧ _))
/-- The row that a place of the list of columns is in. -/
def rowAt (starts : List Int) (i : Nat) : Nat := (starts.countP fun s => decide (s ≤ (i : Int))) - 1
theorem rowAt_eq {R : Nat} {starts cols : List Int} (h : chkF R starts cols) {k i : Nat} (hk : k < R) (h1 : starts.getD k 0 ≤ (i : Int)) (h2 : (i : Int) < starts.getD (k + 1) 0) : rowAt starts i = k := by
  obtain ⟨hl, _, _, _, hs⟩ := h
  have : starts.countP (fun s => decide (s ≤ (i : Int))) = k + 1 := by
    conv => lhs; rw [← List.take_append_drop (k + 1) starts, List.countP_append]
    have a1 : (starts.take (k + 1)).countP (fun s => decide (s ≤ (i : Int))) = (starts.take (k + 1)).length := List.countP_eq_length.2 fun y hy => by
      obtain ⟨j, hj, e⟩ := List.getElem_of_mem hy
      rw [List.length_take] at hj
      rw [List.getElem_take] at e
      have := sortB_le hs k j (by omega) (by omega)
      rw [List.getD_eq_getElem?_getD, List.getElem?_eq_getElem (by omega), Option.getD_some, e] at this
      exact decide_eq_true (by omega)
    have a2 : (starts.drop (k + 1)).countP (fun s => decide (s ≤ (i : Int))) = 0 := List.countP_eq_zero.2 fun y hy => by
      obtain ⟨j, hj, e⟩ := List.getElem_of_mem hy
      rw [List.length_drop] at hj
      rw [List.getElem_drop] at e
      have := sortB_le hs (k + 1 + j) (k + 1) (by omega) (by omega)
      have e2 : starts.getD (k + 1 + j) 0 = y := by rw [List.getD_eq_getElem?_getD, List.getElem?_eq_getElem (by omega), Option.getD_some, e]
      rw [e2] at this
      simp; omega
    rw [a1, a2, List.length_take]; omega
  unfold rowAt; rw [this]; rfl
/-- The indexes that the lists name. -/
def fromK (rs : List Rg) (starts cols : List Int) (n : Nat) : List (List Int) := (List.range n).map fun i => ixD (canD rs) (rowAt starts i * cnt ((canD rs).getD 1 default) + (cols.getD i 0).toNat)
theorem fromK_len (rs : List Rg) (starts cols : List Int) (n : Nat) : (fromK rs starts cols n).length = n := by simp [fromK]
theorem fromK_succ (rs : List Rg) (starts cols : List Int) (n : Nat) : fromK rs starts cols (n + 1) = fromK rs starts cols n ++ [ixD (canD rs) (rowAt starts n * cnt ((canD rs).getD 1 default) + (cols.getD n 0).toNat)] := by unfold fromK; rw [List.range_succ, List.map_append]; rfl
def goodC (rs : List Rg) (cols : List Int) : Prop := ∀ i, i < cols.length → 0 ≤ cols.getD i 0 ∧ cols.getD i 0 < (cnt ((canD rs).getD 1 default) : Int)
instance (rs : List Rg) (cols : List Int) : Decidable (goodC rs cols) := inferInstanceAs (Decidable (∀ i, i < cols.length → _))
def frmS (rs : List Rg) (starts cols : List Int) : SpRF := if ¬ okD rs then (([], []), 50) else if rs.length ≠ 2 then (([], []), 2) else
  if ¬ (chkF (cnt ((canD rs).getD 0 default)) starts cols ∧ goodC rs cols ∧ okS rs (fromK rs starts cols cols.length)) then (([], []), 5) else ((rs, fromK rs starts cols cols.length), 0)
end Go.Proofs.Ytnhippfllgnngaa

/- The text SJ1. -/
set_option linter.unusedVariables false
set_option linter.unusedSimpArgs false
set_option maxRecDepth 10000
namespace Go.Proofs.Ytnhippfllgnngaa
open Go Go.KK Dm

theorem cloneR {L : List Asn} {a : Option Addr} {n cap : Nat} {xs : List Rg} [SlIn rgE L a xs] (hn : n = xs.length) (hb : xs.length ≤ 1000000) (hnil : a = none → n = 0 ∧ cap = 0) :
    CallS Try.prog 147 [.slice a n cap].toArray L (fun v M => ∃ a' cap', (v = .slice a' n cap' ∧ (a = none → a' = none)) ∧ M = sl rgE a' cap' xs :: L) := by
  subst hn
  refine CallS.ent ?_
  refine CallS.enter Try.func147 rfl rfl rfl rfl rfl ?_
  refine J.seq rfl ?_
  refine J.region rfl ?_
  refine JO.pur rfl rfl rfl (Pur.assign rfl) ?_
  refine JO.nil ?_
  refine J.seq rfl ?_
  refine J.seq rfl ?_
  refine J.region rfl ?_
  refine JO.pur rfl rfl rfl (Pur.move rfl) ?_
  refine JO.pur rfl rfl rfl (Pur.eqlSlNil rfl) ?_
  refine JO.nil ?_
  refine J.splitB 4 rfl (fun h4 => ?_) (fun h4 => ?_)
  · try simp only [decide_eq_true_eq, decide_eq_false_iff_not, Bool.not_eq_true', Bool.not_eq_false', Bool.and_eq_true, Bool.or_eq_true, Bool.and_eq_false_iff, Bool.or_eq_false_iff, Option.isNone_some, Option.isSome_some, Option.isNone_none, Option.isSome_none, Int.not_lt, Int.not_le, beq_iff_eq, beq_eq_false_iff_ne, bne_iff_ne, ne_eq, Bool.not_not, Decidable.not_not] at h4
    have ha : a = none := by cases a with | none => rfl | some p => simp at h4
    subst ha
    obtain ⟨e1, e2⟩ := hnil rfl
    have e3 : xs = [] := List.eq_nil_of_length_eq_zero (by omega)
    subst e2; subst e3
    refine J.condT rfl rfl ?_
    refine J.seq rfl ?_
    refine J.region rfl ?_
    refine JO.pur rfl rfl rfl (Pur.assign rfl) ?_
    refine JO.nil ?_
    refine J.ret rfl rfl ?_
    exact ⟨_, _, ⟨none, 0, ⟨rfl, fun _ => rfl⟩, rfl⟩, rfl, fun h hs => sl_nil_new hs⟩
  · try simp only [decide_eq_true_eq, decide_eq_false_iff_not, Bool.not_eq_true', Bool.not_eq_false', Bool.and_eq_true, Bool.or_eq_true, Bool.and_eq_false_iff, Bool.or_eq_false_iff, Option.isNone_some, Option.isSome_some, Option.isNone_none, Option.isSome_none, Int.not_lt, Int.not_le, beq_iff_eq, beq_eq_false_iff_ne, bne_iff_ne, ne_eq, Bool.not_not, Decidable.not_not] at h4
    refine J.condF rfl rfl ?_
    refine J.skip rfl ?_
    refine J.seq rfl ?_
    refine J.region rfl ?_
    refine JO.eff rfl rfl rfl (Eff.buildSlice rgE [] rfl rfl rfl rfl rfl rfl rfl) ?_
    rintro _ _ ⟨b5, rfl, -, rfl⟩
    refine JO.pur rfl rfl rfl (Pur.move rfl) ?_
    refine JO.eff rfl rfl rfl (Eff.append rfl rfl rfl rfl (by first | rfl | omega | (simp; done) | (simp; omega)) (by first | rfl | omega | (simp; done) | (simp; omega)) (by decide) (by simp; omega) (by simp; omega) hnil) ?_
    rintro _ _ ⟨a7, c7, rfl, rfl⟩
    refine JO.pur rfl rfl rfl (Pur.assign rfl) ?_
    refine JO.nil ?_
    refine J.ret rfl rfl ?_
    refine ⟨_, _, ⟨a7, c7, ⟨rfl, fun e => ?_⟩, rfl⟩, ?_, fun h hs => ?_⟩
    · rw [e] at h4; simp at h4
    · show Value.slice _ _ _ = Value.slice _ _ _
      simp
    · simpa using hs

theorem slIn_some {α : Type} {E : Enc α} {L : List Asn} {a : Option Addr} {xs : List α} [hs : SlIn E L a xs] (h1 : 1 ≤ xs.length) {h : Hp} (s : Sat h L) : a ≠ none := by
  rcases hs.out h s with h0 | ⟨b, off, C, T, fz, ha, _⟩
  · rw [h0] at h1; simp at h1
  · rw [ha]; simp
theorem SlIn.lift {α : Type} {E : Enc α} {L M : List Asn} {a : Option Addr} {xs : List α} (hs : SlIn E L a xs) (hm : ∀ h, Sat h M → Sat h L) : SlIn E M a xs := ⟨fun h s => hs.out h (hm h s)⟩
theorem BlkIn.lift {L M : List Asn} {b : Nat} {ob : Obj} (hs : BlkIn L b ob) (hm : ∀ h, Sat h M → Sat h L) : BlkIn M b ob := ⟨fun h s => hs.out h (hm h s)⟩
theorem cloneD {L : List Asn} {a : Option Addr} {n cap : Nat} {rs : List Rg} [SlIn rgE L a rs] (hn : n = rs.length) (hok : okD rs) :
    CallS Try.prog 94 [.agg #[.slice a n cap]].toArray L (fun v M => ∃ a' c', v = .agg #[.slice a' rs.length c'] ∧ M = sl rgE a' c' rs :: L) := by
  subst hn
  refine CallS.fact (fun h s => slIn_some (E := rgE) (a := a) (xs := rs) hok.1 s) fun hne => ?_
  refine CallS.ent ?_
  refine CallS.enter Try.func94 rfl rfl rfl rfl rfl ?_
  refine J.seq rfl ?_
  refine J.region rfl ?_
  refine JO.eff rfl rfl rfl (Eff.box (cs := [_]) rfl rfl) ?_
  rintro _ _ ⟨b1, rfl, rfl⟩
  refine JO.eff rfl rfl rfl (Eff.alloc (cs := [_]) rfl) ?_
  rintro _ _ ⟨b2, rfl, rfl⟩
  refine JO.nil ?_
  refine J.seq rfl ?_
  refine J.region rfl ?_
  refine JO.pur rfl rfl rfl (Pur.fieldAddr rfl) ?_
  refine JO.pur rfl rfl rfl (Pur.load rfl (CellIn.blk rfl)) ?_
  refine JO.eff rfl rfl rfl (Eff.call rfl (cloneR (xs := rs) rfl (by have := hok.2.1; omega) (fun e => absurd e hne))) ?_
  rintro _ _ ⟨a5, c5, ⟨rfl, -⟩, rfl⟩
  refine JO.pur rfl rfl rfl (Pur.build (cs := [_]) rfl rfl) ?_
  refine JO.effN rfl rfl (Eff.storeBA (cs' := [_]) rfl rfl (by rfl) (by rfl) (by rfl)) ?_
  rintro _ _ ⟨rfl, rfl⟩
  refine JO.nil ?_
  refine J.retC rfl (.cell rfl (ld_agg rfl CellsIn.blk) .nil) ?_
  refine ⟨_, _, ⟨a5, c5, rfl, rfl⟩, rfl, SubC.out⟩

theorem cloneDr {L : List Asn} {a : Option Addr} {n cap : Nat} {rs : List Rg} [SlIn rgE L a rs] (hn : n = rs.length) (hok : okD rs) :
    CallS Try.prog 152 [.agg #[.slice a n cap]].toArray L (fun v M => ∃ a' c', v = .agg #[.slice a' rs.length c'] ∧ M = sl rgE a' c' rs :: L) := by
  subst hn
  refine CallS.fact (fun h s => slIn_some (E := rgE) (a := a) (xs := rs) hok.1 s) fun hne => ?_
  refine CallS.ent ?_
  refine CallS.enter Try.func152 rfl rfl rfl rfl rfl ?_
  refine J.seq rfl ?_
  refine J.region rfl ?_
  refine JO.eff rfl rfl rfl (Eff.box (cs := [_]) rfl rfl) ?_
  rintro _ _ ⟨b1, rfl, rfl⟩
  refine JO.eff rfl rfl rfl (Eff.alloc (cs := [_]) rfl) ?_
  rintro _ _ ⟨b2, rfl, rfl⟩
  refine JO.nil ?_
  refine J.seq rfl ?_
  refine J.region rfl ?_
  refine JO.eff rfl rfl rfl (Eff.buildSlice rgE ([] : List Rg) rfl rfl rfl rfl rfl rfl rfl) ?_
  rintro _ _ ⟨b3, rfl, -, rfl⟩
  refine JO.pur rfl rfl rfl (Pur.fieldAddr rfl) ?_
  refine JO.pur rfl rfl rfl (Pur.load rfl (CellIn.blk rfl)) ?_
  refine JO.eff rfl rfl rfl (Eff.append rfl rfl rfl rfl (by first | rfl | omega | (simp; done) | (simp; omega)) (by first | rfl | omega | (simp; done) | (simp; omega)) (by decide) (by have := hok.2.1; simp; omega) (by have := hok.2.1; simp; omega) (fun e => absurd e hne)) ?_
  rintro _ _ ⟨a6, c6, rfl, rfl⟩
  refine JO.setv (u' := .slice a6 rs.length c6) 6 rfl (by simp) ?_
  refine JO.pur rfl rfl rfl (Pur.build (cs := [_]) rfl rfl) ?_
  refine JO.effN rfl rfl (Eff.storeBA (cs' := [_]) rfl rfl (by rfl) (by rfl) (by rfl)) ?_
  rintro _ _ ⟨rfl, rfl⟩
  refine JO.nil ?_
  refine J.retC rfl (.cell rfl (ld_agg rfl CellsIn.blk) .nil) ?_
  refine ⟨_, _, ⟨a6, c6, rfl, rfl⟩, rfl, fun h s => ?_⟩
  rw [List.nil_append] at s
  exact SubC.out h s

theorem copied_ok {L : List Asn} {b : Option Addr} {m cq : Nat} {x : List Int} [SlIn intE L b x] (hm : m = x.length) (hb : x.length ≤ 1000000) (hnil : b = none → x.length = 0 ∧ cq = 0) :
    CallS Try.prog 154 [.slice b m cq].toArray L (fun v M => ∃ a' c', v = .slice a' x.length c' ∧ M = sl intE a' c' x :: L) := by
  subst hm
  refine CallS.ent ?_
  refine CallS.enter Try.func154 rfl rfl rfl rfl rfl ?_
  refine J.seq rfl ?_
  refine J.region rfl ?_
  refine JO.pur rfl rfl rfl (Pur.assign rfl) ?_
  refine JO.nil ?_
  refine J.seq rfl ?_
  refine J.region rfl ?_
  refine JO.eff rfl rfl rfl (Eff.buildSlice intE ([] : List Int) rfl rfl rfl rfl rfl rfl rfl) ?_
  rintro _ _ ⟨b3, rfl, -, rfl⟩
  refine JO.pur rfl rfl rfl (Pur.move rfl) ?_
  refine JO.eff rfl rfl rfl (Eff.append rfl rfl rfl rfl (by first | rfl | omega | (simp; done) | (simp; omega)) (by first | rfl | omega | (simp; done) | (simp; omega)) (by decide) (by simp; omega) (by simp; omega) hnil) ?_
  rintro _ _ ⟨a5, c5, rfl, rfl⟩
  refine JO.setv (u' := .slice a5 x.length c5) 5 rfl (by simp) ?_
  refine JO.pur rfl rfl rfl (Pur.assign rfl) ?_
  refine JO.nil ?_
  refine J.ret rfl rfl ?_
  refine ⟨_, _, ⟨a5, c5, rfl, rfl⟩, rfl, fun h s => ?_⟩
  rw [List.nil_append] at s
  exact SubC.out h s

theorem some_ok {L : List Asn} {a la : Option Addr} {n cap ln lc : Nat} {rs : List Rg} {hs : List Hdr} {xss : List (List Int)} [SlIn rgE L a rs] [SlIn hE L la hs] [RowsR intE L hs xss] {g : Nat} {caps : List Value} {p : List Int → Bool} [hg : Body Try.prog g] (hn : n = rs.length) (hl : ln = hs.length) (hok : okD rs) (hb4 : xss.length ≤ 400) (hrow : ∀ x ∈ xss, x.length ≤ 1000) (hcl : ∀ {M : List Asn} {ya : Option Addr} {yc : Nat} {y : List Int}, y ∈ xss → SlIn intE M ya y → (∀ h, Sat h M → Sat h L) → CallS Try.prog g ([Value.slice ya y.length yc] ++ caps).toArray M (fun v N => v = .bool (p y) ∧ N = M)) :
    CallS Try.prog 99 [.agg #[.slice a n cap, .slice la ln lc], .func (.func g) #[] caps.toArray].toArray L (fun v M => ∃ pa pc qa qc hs', v = .agg #[.slice pa rs.length pc, .slice qa (xss.filter p).length qc] ∧ M = sl rgE pa pc rs :: sl hE qa qc hs' :: rows intE hs' (xss.filter p) :: L) := by
  subst hn
  subst hl
  refine CallS.fact (fun h s => RowsR.len (E := intE) (hs := hs) (xss := xss) s) fun hnn => ?_
  have hhl : hs.length = xss.length := rows_len hnn
  refine CallS.ent ?_
  refine CallS.enter Try.func99 rfl rfl rfl rfl rfl ?_
  refine J.seq rfl ?_
  refine J.region rfl ?_
  refine JO.eff rfl rfl rfl (Eff.box (cs := [_, _]) rfl rfl) ?_
  rintro _ _ ⟨b2, rfl, rfl⟩
  refine JO.eff rfl rfl rfl (Eff.alloc (cs := [_, _]) rfl) ?_
  rintro _ _ ⟨b4, rfl, rfl⟩
  refine JO.nil ?_
  refine J.seq rfl ?_
  refine J.region rfl ?_
  refine JO.pur rfl rfl rfl (Pur.fieldAddr rfl) ?_
  refine JO.pur rfl rfl rfl (Pur.loadA rfl rfl rfl (CellsIn.sub1 rfl)) ?_
  refine JO.eff rfl rfl rfl (Eff.call rfl (cloneD (rs := rs) rfl hok)) ?_
  rintro _ _ ⟨a10, c10, rfl, rfl⟩
  refine JO.pur rfl rfl rfl (Pur.build (cs := [_, _]) rfl rfl) ?_
  refine JO.eff rfl rfl rfl (Eff.alloc (cs := [_, _]) rfl) ?_
  rintro _ _ ⟨b5, rfl, rfl⟩
  refine JO.effN rfl rfl (Eff.storeBA (cs' := [_, _]) rfl rfl (by rfl) (by rfl) (by rfl)) ?_
  rintro _ _ ⟨rfl, rfl⟩
  refine JO.nil ?_
  refine J.seq rfl ?_
  refine J.seq rfl ?_
  refine J.region rfl ?_
  refine JO.pur rfl rfl rfl (Pur.fieldAddr rfl) ?_
  refine JO.pur rfl rfl rfl (Pur.load rfl (CellIn.blk rfl)) ?_
  refine JO.pur rfl rfl rfl (Pur.len rfl) ?_
  refine JO.pur rfl rfl rfl (Pur.move rfl) ?_
  refine JO.nil ?_
  refine J.block rfl ?_
  refine J.loopF (ι := Nat × Option Addr × Nat × List Hdr) (fun q => q.1 ≤ xss.length ∧ q.2.2.2.length = ((xss.take (q.1)).filter p).length) (fun q => [(15, .int .i64 (q.1 : Int))]) [(1, _), (4, _), (5, _), (13, _), (14, _)] (fun q => blk b5 (.cells #[.slice a10 rs.length c10, .slice q.2.1 ((xss.take (q.1)).filter p).length q.2.2.1] 27) :: sl hE q.2.1 q.2.2.1 q.2.2.2 :: rows intE q.2.2.2 ((xss.take (q.1)).filter p) :: sl rgE a10 c10 rs :: blk b4 (.cells #[.slice none 0 0, .slice none 0 0] 27) :: blk b2 (.cells #[.slice a rs.length cap, .slice la hs.length lc] 27) :: L) (fun q => xss.length - q.1) (0, none, 0, []) rfl (.cons rfl rfl (.cons rfl rfl (.cons rfl rfl (.cons rfl rfl (.cons rfl rfl .nil))))) (.cons rfl rfl .nil) (fun h s => by have s2 := sl_nil_new (E := hE) (rows_nil (E := intE) s); dsimp only; rw [List.take_zero, List.filter_nil]; exact SubC.out (L := sl hE none 0 [] :: rows intE [] [] :: _) h s2) ⟨Nat.zero_le _, rfl⟩ ?_
  rintro ⟨k, a0, c0, hs0⟩ ⟨hk, hh0⟩ ih0
  try dsimp only
  dsimp only at hk hh0
  refine J.seq rfl ?_
  refine J.region rfl ?_
  refine JO.pur rfl rfl rfl (Pur.lss rfl rfl) ?_
  refine JO.nil ?_
  refine J.seq rfl ?_
  refine J.splitB 16 rfl (fun h16 => ?_) (fun h16 => ?_)
  · try simp only [decide_eq_true_eq, decide_eq_false_iff_not, Bool.not_eq_true', Bool.not_eq_false', Bool.and_eq_true, Bool.or_eq_true, Bool.and_eq_false_iff, Bool.or_eq_false_iff, Option.isNone_some, Option.isSome_some, Option.isNone_none, Option.isSome_none, Int.not_lt, Int.not_le, beq_iff_eq, beq_eq_false_iff_ne, bne_iff_ne, ne_eq, Bool.not_not, Decidable.not_not] at h16
    have hkl : k < xss.length := by omega
    obtain ⟨y, hX⟩ : ∃ y, xss[k]? = some y := ⟨_, List.getElem?_eq_getElem (by omega)⟩
    obtain ⟨hd, hH⟩ : ∃ hd, hs[k]? = some hd := ⟨_, List.getElem?_eq_getElem (by omega)⟩
    have hdn := hdr_n hnn hH hX
    have hym := List.mem_of_getElem? hX
    have hyl := hrow y hym
    have htk : xss.take (k + 1) = xss.take k ++ [y] := take_get hX
    refine J.fact (fun h s => RowsR.fit (E := intE) (hs := hs) (xss := xss) s hH hX) fun hfit => ?_
    have hfl : ((xss.take (k)).filter p).length ≤ 400 := Nat.le_trans (List.length_filter_le _ _) (by rw [List.length_take]; omega)
    refine J.condT rfl rfl ?_
    refine J.skip rfl ?_
    refine J.seq rfl ?_
    refine J.block rfl ?_
    refine J.seq rfl ?_
    refine J.region rfl ?_
    refine JO.pur rfl rfl rfl (Pur.idx rfl rfl rfl (by first | rfl | (simp; done) | omega) rfl (by omega)) ?_
    refine JO.pur rfl rfl rfl (Pur.load rfl (CellIn.el0 rfl hH rfl)) ?_
    refine JO.setv (u' := .slice hd.a y.length hd.cap) 18 rfl (by rw [← hdn]) ?_
    refine JO.pur rfl rfl rfl (Pur.assign rfl) ?_
    refine JO.nil ?_
    refine J.seq rfl ?_
    refine J.region rfl ?_
    refine JO.pur rfl rfl rfl (Pur.move rfl) ?_
    refine JO.pur rfl rfl rfl (Pur.move rfl) ?_
    refine JO.effR rfl rfl rfl (Eff.callV rfl rfl (hcl (y := y) hym (RowsR.row (E := intE) inferInstance hH hX) (fun h s => SubC.out h s))) ?_
    refine JO.nil ?_
    refine J.splitB 21 rfl (fun h21 => ?_) (fun h21 => ?_)
    · try simp only [decide_eq_true_eq, decide_eq_false_iff_not, Bool.not_eq_true', Bool.not_eq_false', Bool.and_eq_true, Bool.or_eq_true, Bool.and_eq_false_iff, Bool.or_eq_false_iff, Option.isNone_some, Option.isSome_some, Option.isNone_none, Option.isSome_none, Int.not_lt, Int.not_le, beq_iff_eq, beq_eq_false_iff_ne, bne_iff_ne, ne_eq, Bool.not_not, Decidable.not_not] at h21
      have hst : ((xss.take (k + 1)).filter p) = ((xss.take (k)).filter p) ++ [y] := by rw [htk, List.filter_append]; simp [h21]
      refine J.condT rfl rfl ?_
      refine J.mask0 (n := 8) [5, 7] rfl Try.mixed rfl (by kernel_rfl) ?_
      refine JM.take 0 (fun _ h => h) rfl (by kernel_rfl) rfl rfl rfl (m' := 1) rfl (Pur.fieldAddr rfl) ?_
      refine JM.take 1 (fun _ h => h) rfl (by kernel_rfl) rfl rfl rfl (m' := 3) rfl (Pur.load rfl (CellIn.blk rfl)) ?_
      refine JM.take 2 (fun _ h => h) rfl (by kernel_rfl) rfl rfl rfl (m' := 7) rfl (Pur.move rfl) ?_
      refine JM.one (i := 3) (by kernel_rfl) ?_
      refine JMi.eff rfl rfl rfl rfl (m' := 15) rfl (Eff.call rfl (@cloneI _ _ _ _ y (RowsR.row (E := intE) inferInstance hH hX) rfl (by omega) (fun e => by have := hfit.1 e; rw [hdn] at this; exact this))) ?_
      rintro _ _ ⟨a25, c25, ⟨rfl, -⟩, rfl⟩
      refine ⟨.inr (fun _ h => h.tail), ?_⟩
      refine JM.one (i := 4) (by kernel_rfl) ?_
      refine JMi.eff rfl rfl rfl rfl (m' := 31) rfl (Eff.buildSlice hE [⟨a25, y.length, c25⟩] rfl rfl rfl rfl rfl rfl rfl) ?_
      rintro _ _ ⟨b26, rfl, -, rfl⟩
      refine ⟨.inr (fun _ h => h.tail.tail), ?_⟩
      refine JM.one (i := 5) (by kernel_rfl) ?_
      refine JMi.eff rfl rfl rfl rfl (m' := 63) rfl (Eff.append rfl rfl rfl rfl (by first | rfl | omega | (simp; done) | (simp; omega)) (by first | rfl | omega | (simp; done) | (simp; omega)) (by decide) (by simp; omega) (by simp; omega) (fun h => by cases h)) ?_
      rintro _ _ ⟨a27, c27, rfl, rfl⟩
      refine ⟨.inl (by simp), ?_⟩
      refine JM.takeF 6 (.inl (by kernel_rfl)) rfl (by kernel_rfl) rfl rfl rfl (m' := 127) rfl (Pur.fieldAddr rfl) ?_
      refine JM.one (i := 7) (by kernel_rfl) ?_
      refine JMi.effN rfl rfl rfl (m' := 255) rfl (Eff.storeB rfl rfl rfl (.tail .head)) ?_
      rintro _ _ ⟨rfl, rfl⟩
      refine ⟨.inl (by simp), ?_⟩
      refine JM.done rfl ?_
      refine J.inBlock ?_
      refine J.region rfl ?_
      refine JO.pur rfl rfl rfl (Pur.add rfl rfl (wr64 (by omega))) ?_
      refine JO.pur rfl rfl rfl (Pur.move rfl) ?_
      refine JO.nil ?_
      exact J.weaken (.cons rfl (congrArg (Value.int .i64) (by first | rfl | (dsimp only; omega))) (.cons rfl rfl (.cons rfl rfl (.cons rfl rfl (.cons rfl rfl (.cons rfl rfl .nil)))))) (fun h s => by have s2 := snoc_row (E := intE) (a := a25) (n := y.length) (cap := c25) (xs := y) (hs := hs0) (xss := (xss.take k).filter p) rfl s; dsimp only; rw [hst]; simp only [List.length_append, List.length_cons, List.length_nil, hh0] at s2 ⊢; exact SubC.out h s2) (ih0 (k + 1, a27, c27, hs0 ++ [⟨a25, y.length, c25⟩]) ⟨by dsimp only; omega, by dsimp only; rw [hst]; simp [hh0]⟩ (by dsimp only; omega))
    · try simp only [decide_eq_true_eq, decide_eq_false_iff_not, Bool.not_eq_true', Bool.not_eq_false', Bool.and_eq_true, Bool.or_eq_true, Bool.and_eq_false_iff, Bool.or_eq_false_iff, Option.isNone_some, Option.isSome_some, Option.isNone_none, Option.isSome_none, Int.not_lt, Int.not_le, beq_iff_eq, beq_eq_false_iff_ne, bne_iff_ne, ne_eq, Bool.not_not, Decidable.not_not] at h21
      have hst : ((xss.take (k + 1)).filter p) = ((xss.take (k)).filter p) := by rw [htk, List.filter_append]; simp [h21]
      refine J.condF rfl rfl ?_
      refine J.skip rfl ?_
      refine J.inBlock ?_
      refine J.region rfl ?_
      refine JO.pur rfl rfl rfl (Pur.add rfl rfl (wr64 (by omega))) ?_
      refine JO.pur rfl rfl rfl (Pur.move rfl) ?_
      refine JO.nil ?_
      exact J.weaken (.cons rfl (congrArg (Value.int .i64) (by first | rfl | (dsimp only; omega))) (.cons rfl rfl (.cons rfl rfl (.cons rfl rfl (.cons rfl rfl (.cons rfl rfl .nil)))))) (fun h s => by dsimp only; rw [hst]; exact SubC.out h s) (ih0 (k + 1, a0, c0, hs0) ⟨by dsimp only; omega, by dsimp only; rw [hst]; exact hh0⟩ (by dsimp only; omega))
  · try simp only [decide_eq_true_eq, decide_eq_false_iff_not, Bool.not_eq_true', Bool.not_eq_false', Bool.and_eq_true, Bool.or_eq_true, Bool.and_eq_false_iff, Bool.or_eq_false_iff, Option.isNone_some, Option.isSome_some, Option.isNone_none, Option.isSome_none, Int.not_lt, Int.not_le, beq_iff_eq, beq_eq_false_iff_ne, bne_iff_ne, ne_eq, Bool.not_not, Decidable.not_not] at h16
    have hke : k = xss.length := by omega
    refine J.condF rfl rfl ?_
    refine J.exit rfl rfl ?_
    refine J.seq rfl ?_
    refine J.region rfl ?_
    refine JO.pur rfl rfl rfl (Pur.loadA rfl rfl rfl CellsIn.blk) ?_
    refine JO.effN rfl rfl (Eff.storeBA (cs' := [_, _]) rfl rfl (by rfl) (by rfl) (by rfl)) ?_
    rintro _ _ ⟨rfl, rfl⟩
    refine JO.nil ?_
    refine J.retC rfl (.cell rfl (ld_agg rfl CellsIn.blk) .nil) ?_
    have hff : (xss.take k).filter p = xss.filter p := by rw [hke, List.take_length]
    refine ⟨_, _, ⟨a10, c10, a0, c0, hs0, rfl, rfl⟩, by rw [← hff]; rfl, fun h s => ?_⟩
    rw [← hff]
    exact SubC.out h s

end Go.Proofs.Ytnhippfllgnngaa

/- The text SJ2. -/
set_option linter.unusedVariables false
set_option linter.unusedSimpArgs false
set_option maxRecDepth 10000
namespace Go.Proofs.Ytnhippfllgnngaa
open Go Go.KK Dm

/-- The sparse domain of some places. -/
def madeL (rs : List Rg) (ts : List Int) : List (List Int) := ((List.range (cntD rs)).filter fun (i : Nat) => decide ((i : Int) ∈ ts)).map (ixD rs)
def madeK (rs : List Rg) (ts : List Int) (k : Nat) : List (List Int) := ((List.range k).filter fun (i : Nat) => decide ((i : Int) ∈ ts)).map (ixD rs)
theorem madeK_all (rs : List Rg) (ts : List Int) : madeK rs ts (cntD rs) = madeL rs ts := rfl
theorem madeK_yes {rs : List Rg} {ts : List Int} {k : Nat} (h : (k : Int) ∈ ts) : madeK rs ts (k + 1) = madeK rs ts k ++ [ixD rs k] := by
  unfold madeK
  rw [List.range_succ, List.filter_append, List.map_append]
  simp [h]
theorem madeK_no {rs : List Rg} {ts : List Int} {k : Nat} (h : ¬ (k : Int) ∈ ts) : madeK rs ts (k + 1) = madeK rs ts k := by
  unfold madeK
  rw [List.range_succ, List.filter_append, List.map_append]
  simp [h]
theorem madeK_len (rs : List Rg) (ts : List Int) (k : Nat) : (madeK rs ts k).length ≤ k := by
  unfold madeK; rw [List.length_map]; exact Nat.le_trans (List.length_filter_le _ _) (by simp)
def hasL (n : Nat) (ts : List Int) : List Bool := (List.range n).map fun (i : Nat) => decide ((i : Int) ∈ ts)
theorem hasL_nil (n : Nat) : hasL n [] = List.replicate n false := by
  apply List.ext_getElem?
  intro j
  unfold hasL
  rw [List.getElem?_map, List.getElem?_replicate]
  by_cases h : j < n
  · rw [List.getElem?_range h, if_pos h]; simp
  · rw [List.getElem?_eq_none (by simp; omega), if_neg h]; rfl
theorem hasL_len (n : Nat) (ts : List Int) : (hasL n ts).length = n := by simp [hasL]
theorem hasL_get {n : Nat} {ts : List Int} {k : Nat} (h : k < n) : (hasL n ts)[k]? = some (decide ((k : Int) ∈ ts)) := by
  unfold hasL; rw [List.getElem?_map, List.getElem?_range h]; rfl
theorem hasL_snoc {n : Nat} {ts : List Int} {t : Nat} (h : t < n) : (hasL n ts).set t true = hasL n (ts ++ [(t : Int)]) := by
  apply List.ext_getElem?
  intro j
  rw [List.getElem?_set]
  by_cases hj : j < n
  · rw [hasL_get hj, hasL_get hj]
    by_cases e : t = j
    · subst e; rw [if_pos rfl, if_pos (by rw [hasL_len]; exact h)]; simp
    · rw [if_neg e]
      have : ((j : Int) ∈ ts ++ [(t : Int)]) ↔ (j : Int) ∈ ts := by
        simp only [List.mem_append, List.mem_singleton]
        constructor
        · rintro (g | g)
          · exact g
          · exact absurd (Int.ofNat.inj g).symm e
        · exact .inl
      exact congrArg some (decide_eq_decide.2 this.symm)
  · rw [List.getElem?_eq_none (by rw [hasL_len]; omega), List.getElem?_eq_none (by rw [hasL_len]; omega)]
    split
    · rename_i e; subst e; exact absurd h hj
    · rfl
theorem made_ok {L : List Asn} {a ta : Option Addr} {n cap tn tc : Nat} {rs : List Rg} {ts : List Int} [SlIn rgE L a rs] [SlIn intE L ta ts] (hn : n = rs.length) (htn : tn = ts.length) (hok : okD rs) (htb : ts.length ≤ 100000000) (hin : ∀ t ∈ ts, 0 ≤ t ∧ t < (cntD rs : Int)) :
    CallS Try.prog 98 [.agg #[.slice a n cap], .slice ta tn tc].toArray L (fun v M => ∃ pa pc qa qc hs', v = .agg #[.slice pa rs.length pc, .slice qa (madeL rs ts).length qc] ∧ M = sl rgE pa pc rs :: sl hE qa qc hs' :: rows intE hs' (madeL rs ts) :: L) := by
  subst hn
  subst htn
  have hc4 := hok.2.2.2
  have hl3 := hok.2.1
  have hl1 := hok.1
  refine CallS.ent ?_
  refine CallS.enter Try.func98 rfl rfl rfl rfl rfl ?_
  refine J.seq rfl ?_
  refine J.region rfl ?_
  refine JO.eff rfl rfl rfl (Eff.box (cs := [_]) rfl rfl) ?_
  rintro _ _ ⟨b2, rfl, rfl⟩
  refine JO.eff rfl rfl rfl (Eff.alloc (cs := [_, _]) rfl) ?_
  rintro _ _ ⟨b4, rfl, rfl⟩
  refine JO.nil ?_
  refine J.seq rfl ?_
  refine J.region rfl ?_
  refine JO.pur rfl rfl rfl (Pur.loadA rfl rfl rfl CellsIn.blk) ?_
  refine JO.eff rfl rfl rfl (Eff.call rfl (cloneDr (rs := rs) rfl hok)) ?_
  rintro _ _ ⟨a14, c14, rfl, rfl⟩
  refine JO.pur rfl rfl rfl (Pur.build (cs := [_, _]) rfl rfl) ?_
  refine JO.eff rfl rfl rfl (Eff.alloc (cs := [_, _]) rfl) ?_
  rintro _ _ ⟨b5, rfl, rfl⟩
  refine JO.effN rfl rfl (Eff.storeBA (cs' := [_, _]) rfl rfl (by rfl) (by rfl) (by rfl)) ?_
  rintro _ _ ⟨rfl, rfl⟩
  refine JO.nil ?_
  refine J.seq rfl ?_
  refine J.region rfl ?_
  refine JO.pur rfl rfl rfl (Pur.loadA rfl rfl rfl CellsIn.blk) ?_
  refine JO.effR rfl rfl rfl (Eff.call rfl (r_Count (rs := rs) rfl)) ?_
  refine JO.pur rfl rfl rfl (Pur.move rfl) ?_
  refine JO.pur rfl rfl rfl (Pur.extract rfl rfl) ?_
  refine JO.setv (u' := .int .i64 ((cntD rs : Nat) : Int)) 19 rfl (congrArg (Value.int .i64) (show ctV rs = _ by unfold ctV; rw [if_pos hok])) ?_
  refine JO.pur rfl rfl rfl (Pur.extract rfl rfl) ?_
  refine JO.pur rfl rfl rfl (Pur.assign rfl) ?_
  refine JO.pur rfl rfl rfl (Pur.assign rfl) ?_
  refine JO.nil ?_
  refine J.seq rfl ?_
  refine J.region rfl ?_
  refine JO.pur rfl rfl rfl (Pur.move rfl) ?_
  refine JO.eff rfl rfl rfl (Eff.make boE false rfl rfl rfl rfl rfl (by decide) (by omega) (by omega)) ?_
  rintro _ _ ⟨b22, rfl, rfl⟩
  refine JO.pur rfl rfl rfl (Pur.assign rfl) ?_
  refine JO.nil ?_
  refine J.seq rfl ?_
  refine J.seq rfl ?_
  refine J.region rfl ?_
  refine JO.pur rfl rfl rfl (Pur.assign rfl) ?_
  refine JO.nil ?_
  refine J.block rfl ?_
  refine J.loopF (ι := Nat) (fun q => q ≤ ts.length) (fun q => [(9, .int .i64 (q : Int))]) [(1, _), (2, _), (4, _), (5, _), (6, _), (8, _)] (fun q => sl boE (some ⟨b22, 0, none⟩) (cntD rs) (hasL (cntD rs) (ts.take q)) :: blk b5 (.cells #[.slice a14 rs.length c14, .slice none 0 0] 27) :: sl rgE a14 c14 rs :: blk b4 (.cells #[.slice none 0 0, .slice none 0 0] 27) :: blk b2 (.cells #[.slice a rs.length cap] 24) :: L) (fun q => ts.length - q) 0 rfl (.cons rfl rfl (.cons rfl rfl (.cons rfl rfl (.cons rfl rfl (.cons rfl rfl (.cons rfl rfl .nil)))))) (.cons rfl rfl .nil) (fun h s => by rw [List.take_zero, hasL_nil]; exact SubC.out h s) (Nat.zero_le _) ?_
  rintro k hk ihk
  try dsimp only
  refine J.seq rfl ?_
  refine J.seq rfl ?_
  refine J.region rfl ?_
  refine JO.pur rfl rfl rfl (Pur.move rfl) ?_
  refine JO.pur rfl rfl rfl (Pur.move rfl) ?_
  refine JO.pur rfl rfl rfl (Pur.len rfl) ?_
  refine JO.pur rfl rfl rfl (Pur.lss rfl rfl) ?_
  refine JO.nil ?_
  refine J.splitB 26 rfl (fun h26 => ?_) (fun h26 => ?_)
  · try simp only [decide_eq_true_eq, decide_eq_false_iff_not, Bool.not_eq_true', Bool.not_eq_false', Bool.and_eq_true, Bool.or_eq_true, Bool.and_eq_false_iff, Bool.or_eq_false_iff, Option.isNone_some, Option.isSome_some, Option.isNone_none, Option.isSome_none, Int.not_lt, Int.not_le, beq_iff_eq, beq_eq_false_iff_ne, bne_iff_ne, ne_eq, Bool.not_not, Decidable.not_not] at h26
    have hkl : k < ts.length := by omega
    obtain ⟨t, hT⟩ : ∃ t, ts[k]? = some t := ⟨_, List.getElem?_eq_getElem hkl⟩
    obtain ⟨ht0, ht1⟩ := hin t (List.mem_of_getElem? hT)
    obtain ⟨tt, rfl⟩ : ∃ tt : Nat, t = (tt : Int) := ⟨t.toNat, by omega⟩
    have htl : tt < cntD rs := by omega
    have htk : ts.take (k + 1) = ts.take k ++ [(tt : Int)] := take_get hT
    have hhl := hasL_len (cntD rs) (ts.take k)
    refine J.condT rfl rfl ?_
    refine J.skip rfl ?_
    refine J.seq rfl ?_
    refine J.block rfl ?_
    refine J.region rfl ?_
    refine JO.pur rfl rfl rfl (Pur.move rfl) ?_
    refine JO.pur rfl rfl rfl (Pur.move rfl) ?_
    refine JO.pur rfl rfl rfl (Pur.move rfl) ?_
    refine JO.pur rfl rfl rfl (Pur.idx rfl rfl rfl (by first | rfl | (simp; done) | omega) rfl (by omega)) ?_
    refine JO.pur rfl rfl rfl (Pur.load rfl (CellIn.el0 rfl hT rfl)) ?_
    refine JO.pur rfl rfl rfl (Pur.idx rfl rfl rfl (by first | rfl | (simp; done) | omega) rfl (by omega)) ?_
    refine JO.effN rfl rfl (Eff.storeS0 (z' := true) rfl rfl rfl rfl (List.getElem?_eq_getElem (by omega)) .head) ?_
    rintro _ _ ⟨rfl, rfl⟩
    refine JO.nil ?_
    refine J.inBlock ?_
    refine J.region rfl ?_
    refine JO.pur rfl rfl rfl (Pur.move rfl) ?_
    refine JO.pur rfl rfl rfl (Pur.add rfl rfl (wr64 (by omega))) ?_
    refine JO.pur rfl rfl rfl (Pur.assign rfl) ?_
    refine JO.nil ?_
    exact J.weaken (.cons rfl (congrArg (Value.int .i64) (by first | rfl | (dsimp only; omega))) (.cons rfl rfl (.cons rfl rfl (.cons rfl rfl (.cons rfl rfl (.cons rfl rfl (.cons rfl rfl .nil))))))) (fun h s => by rw [htk, ← hasL_snoc htl]; exact SubC.out h s) (ihk (k + 1) (by omega) (by omega))
  · try simp only [decide_eq_true_eq, decide_eq_false_iff_not, Bool.not_eq_true', Bool.not_eq_false', Bool.and_eq_true, Bool.or_eq_true, Bool.and_eq_false_iff, Bool.or_eq_false_iff, Option.isNone_some, Option.isSome_some, Option.isNone_none, Option.isSome_none, Int.not_lt, Int.not_le, beq_iff_eq, beq_eq_false_iff_ne, bne_iff_ne, ne_eq, Bool.not_not, Decidable.not_not] at h26
    have hke : k = ts.length := by omega
    subst hke
    rw [List.take_length]
    refine J.condF rfl rfl ?_
    refine J.exit rfl rfl ?_
    refine J.seq rfl ?_
    refine J.seq rfl ?_
    refine J.region rfl ?_
    refine JO.pur rfl rfl rfl (Pur.assign rfl) ?_
    refine JO.nil ?_
    refine J.block rfl ?_
    refine J.loopF (ι := Nat × Option Addr × Nat × List Hdr) (fun q => q.1 ≤ cntD rs ∧ q.2.2.2.length = (madeK rs ts q.1).length) (fun q => [(10, .int .i64 (q.1 : Int))]) [(2, _), (4, _), (5, _), (6, _), (8, _)] (fun q => blk b5 (.cells #[.slice a14 rs.length c14, .slice q.2.1 (madeK rs ts q.1).length q.2.2.1] 27) :: sl hE q.2.1 q.2.2.1 q.2.2.2 :: rows intE q.2.2.2 (madeK rs ts q.1) :: sl boE (some ⟨b22, 0, none⟩) (cntD rs) (hasL (cntD rs) ts) :: sl rgE a14 c14 rs :: blk b4 (.cells #[.slice none 0 0, .slice none 0 0] 27) :: blk b2 (.cells #[.slice a rs.length cap] 24) :: L) (fun q => cntD rs - q.1) (0, none, 0, []) rfl (.cons rfl rfl (.cons rfl rfl (.cons rfl rfl (.cons rfl rfl (.cons rfl rfl .nil))))) (.cons rfl rfl .nil) (fun h s => by have s2 := sl_nil_new (E := hE) (rows_nil (E := intE) s); dsimp only; rw [show madeK rs ts 0 = [] from rfl]; exact SubC.out (L := sl hE none 0 [] :: rows intE [] [] :: _) h s2) ⟨Nat.zero_le _, rfl⟩ ?_
    rintro ⟨j, a0, c0, hs0⟩ ⟨hj, hh0⟩ ihj
    try dsimp only
    dsimp only at hj hh0
    refine J.seq rfl ?_
    refine J.seq rfl ?_
    refine J.region rfl ?_
    refine JO.pur rfl rfl rfl (Pur.move rfl) ?_
    refine JO.pur rfl rfl rfl (Pur.move rfl) ?_
    refine JO.pur rfl rfl rfl (Pur.lss rfl rfl) ?_
    refine JO.nil ?_
    refine J.splitB 37 rfl (fun h37 => ?_) (fun h37 => ?_)
    · try simp only [decide_eq_true_eq, decide_eq_false_iff_not, Bool.not_eq_true', Bool.not_eq_false', Bool.and_eq_true, Bool.or_eq_true, Bool.and_eq_false_iff, Bool.or_eq_false_iff, Option.isNone_some, Option.isSome_some, Option.isNone_none, Option.isSome_none, Int.not_lt, Int.not_le, beq_iff_eq, beq_eq_false_iff_ne, bne_iff_ne, ne_eq, Bool.not_not, Decidable.not_not] at h37
      have hjl : j < cntD rs := by omega
      have hhl := hasL_len (cntD rs) ts
      have hhg := hasL_get (ts := ts) hjl
      have hxl := ixD_len hjl
      have hml := madeK_len rs ts j
      refine J.condT rfl rfl ?_
      refine J.skip rfl ?_
      refine J.seq rfl ?_
      refine J.block rfl ?_
      refine J.seq rfl ?_
      refine J.region rfl ?_
      refine JO.pur rfl rfl rfl (Pur.move rfl) ?_
      refine JO.pur rfl rfl rfl (Pur.move rfl) ?_
      refine JO.pur rfl rfl rfl (Pur.idx rfl rfl rfl (by first | rfl | (simp; done) | omega) rfl (by omega)) ?_
      refine JO.pur rfl rfl rfl (Pur.load rfl (CellIn.el0 rfl hhg rfl)) ?_
      refine JO.nil ?_
      refine J.splitB 43 rfl (fun h43 => ?_) (fun h43 => ?_)
      · try simp only [decide_eq_true_eq, decide_eq_false_iff_not, Bool.not_eq_true', Bool.not_eq_false', Bool.and_eq_true, Bool.or_eq_true, Bool.and_eq_false_iff, Bool.or_eq_false_iff, Option.isNone_some, Option.isSome_some, Option.isNone_none, Option.isSome_none, Int.not_lt, Int.not_le, beq_iff_eq, beq_eq_false_iff_ne, bne_iff_ne, ne_eq, Bool.not_not, Decidable.not_not] at h43
        have hst := madeK_yes (rs := rs) h43
        obtain ⟨y, hy⟩ : ∃ y, y = ixD rs j := ⟨_, rfl⟩
        rw [← hy] at hst hxl
        have hith : ithV rs ((j : Nat) : Int) = (y, 0) := by unfold ithV; rw [if_neg (not_not_intro hok), if_neg (by omega), hy]; rfl
        refine J.condT rfl rfl ?_
        refine J.seq rfl ?_
        refine J.region rfl ?_
        refine JO.pur rfl rfl rfl (Pur.loadA rfl rfl rfl CellsIn.blk) ?_
        refine JO.pur rfl rfl rfl (Pur.move rfl) ?_
        refine JO.eff rfl rfl rfl (Eff.call rfl (r_Ith (rs := rs) (i := ((j : Nat) : Int)) rfl)) ?_
        rintro _ _ ⟨a47, c47, rfl, rfl⟩
        rw [hith]
        refine JO.pur rfl rfl rfl (Pur.move rfl) ?_
        refine JO.pur rfl rfl rfl (Pur.extract rfl rfl) ?_
        refine JO.setv (u' := .slice a47 y.length c47) 48 rfl rfl ?_
        refine JO.pur rfl rfl rfl (Pur.extract rfl rfl) ?_
        refine JO.pur rfl rfl rfl (Pur.assign rfl) ?_
        refine JO.pur rfl rfl rfl (Pur.assign rfl) ?_
        refine JO.nil ?_
        refine J.fact (fun h s => slIn_some (E := intE) (a := a47) (xs := y) (by omega) s) fun hne47 => ?_
        have hnl : a47 = none → y.length = 0 ∧ c47 = 0 := fun e => absurd e hne47
        refine J.mask0 (n := 8) [5, 7] rfl Try.mixed rfl (by kernel_rfl) ?_
        refine JM.take 0 (fun _ h => h) rfl (by kernel_rfl) rfl rfl rfl (m' := 1) rfl (Pur.fieldAddr rfl) ?_
        refine JM.take 1 (fun _ h => h) rfl (by kernel_rfl) rfl rfl rfl (m' := 3) rfl (Pur.load rfl (CellIn.blk rfl)) ?_
        refine JM.take 2 (fun _ h => h) rfl (by kernel_rfl) rfl rfl rfl (m' := 7) rfl (Pur.move rfl) ?_
        refine JM.one (i := 3) (by kernel_rfl) ?_
        refine JMi.eff rfl rfl rfl rfl (m' := 15) rfl (Eff.call rfl (copied_ok (x := y) rfl (by omega) hnl)) ?_
        rintro _ _ ⟨a53, c53, rfl, rfl⟩
        refine ⟨.inr (fun _ h => h.tail), ?_⟩
        refine JM.one (i := 4) (by kernel_rfl) ?_
        refine JMi.eff rfl rfl rfl rfl (m' := 31) rfl (Eff.buildSlice hE [⟨a53, y.length, c53⟩] rfl rfl rfl rfl rfl rfl rfl) ?_
        rintro _ _ ⟨b54, rfl, -, rfl⟩
        refine ⟨.inr (fun _ h => h.tail.tail), ?_⟩
        refine JM.one (i := 5) (by kernel_rfl) ?_
        refine JMi.eff rfl rfl rfl rfl (m' := 63) rfl (Eff.append rfl rfl rfl rfl (by first | rfl | omega | (simp; done) | (simp; omega)) (by first | rfl | omega | (simp; done) | (simp; omega)) (by decide) (by simp; omega) (by simp; omega) (fun h => by cases h)) ?_
        rintro _ _ ⟨a55, c55, rfl, rfl⟩
        refine ⟨.inl (by simp), ?_⟩
        refine JM.takeF 6 (.inl (by kernel_rfl)) rfl (by kernel_rfl) rfl rfl rfl (m' := 127) rfl (Pur.fieldAddr rfl) ?_
        refine JM.one (i := 7) (by kernel_rfl) ?_
        refine JMi.effN rfl rfl rfl (m' := 255) rfl (Eff.storeB rfl rfl rfl (.tail .head)) ?_
        rintro _ _ ⟨rfl, rfl⟩
        refine ⟨.inl (by simp), ?_⟩
        refine JM.done rfl ?_
        refine J.inBlock ?_
        refine J.region rfl ?_
        refine JO.pur rfl rfl rfl (Pur.move rfl) ?_
        refine JO.pur rfl rfl rfl (Pur.add rfl rfl (wr64 (by omega))) ?_
        refine JO.pur rfl rfl rfl (Pur.assign rfl) ?_
        refine JO.nil ?_
        exact J.weaken (.cons rfl (congrArg (Value.int .i64) (by first | rfl | (dsimp only; omega))) (.cons rfl rfl (.cons rfl rfl (.cons rfl rfl (.cons rfl rfl (.cons rfl rfl .nil)))))) (fun h s => by have s2 := snoc_row (E := intE) (a := a53) (n := y.length) (cap := c53) (xs := y) (hs := hs0) (xss := madeK rs ts j) rfl s; dsimp only; rw [hst]; simp only [List.length_append, List.length_cons, List.length_nil, hh0] at s2 ⊢; exact SubC.out h s2) (ihj (j + 1, a55, c55, hs0 ++ [⟨a53, y.length, c53⟩]) ⟨by dsimp only; omega, by dsimp only; rw [hst]; simp [hh0]⟩ (by dsimp only; omega))
      · try simp only [decide_eq_true_eq, decide_eq_false_iff_not, Bool.not_eq_true', Bool.not_eq_false', Bool.and_eq_true, Bool.or_eq_true, Bool.and_eq_false_iff, Bool.or_eq_false_iff, Option.isNone_some, Option.isSome_some, Option.isNone_none, Option.isSome_none, Int.not_lt, Int.not_le, beq_iff_eq, beq_eq_false_iff_ne, bne_iff_ne, ne_eq, Bool.not_not, Decidable.not_not] at h43
        have hst := madeK_no (rs := rs) h43
        refine J.condF rfl rfl ?_
        refine J.skip rfl ?_
        refine J.inBlock ?_
        refine J.region rfl ?_
        refine JO.pur rfl rfl rfl (Pur.move rfl) ?_
        refine JO.pur rfl rfl rfl (Pur.add rfl rfl (wr64 (by omega))) ?_
        refine JO.pur rfl rfl rfl (Pur.assign rfl) ?_
        refine JO.nil ?_
        exact J.weaken (.cons rfl (congrArg (Value.int .i64) (by first | rfl | (dsimp only; omega))) (.cons rfl rfl (.cons rfl rfl (.cons rfl rfl (.cons rfl rfl (.cons rfl rfl .nil)))))) (fun h s => by dsimp only; rw [hst]; exact SubC.out h s) (ihj (j + 1, a0, c0, hs0) ⟨by dsimp only; omega, by dsimp only; rw [hst]; exact hh0⟩ (by dsimp only; omega))
    · try simp only [decide_eq_true_eq, decide_eq_false_iff_not, Bool.not_eq_true', Bool.not_eq_false', Bool.and_eq_true, Bool.or_eq_true, Bool.and_eq_false_iff, Bool.or_eq_false_iff, Option.isNone_some, Option.isSome_some, Option.isNone_none, Option.isSome_none, Int.not_lt, Int.not_le, beq_iff_eq, beq_eq_false_iff_ne, bne_iff_ne, ne_eq, Bool.not_not, Decidable.not_not] at h37
      have hje : j = cntD rs := by omega
      refine J.condF rfl rfl ?_
      refine J.exit rfl rfl ?_
      refine J.seq rfl ?_
      refine J.region rfl ?_
      refine JO.pur rfl rfl rfl (Pur.loadA rfl rfl rfl CellsIn.blk) ?_
      refine JO.effN rfl rfl (Eff.storeBA (cs' := [_, _]) rfl rfl (by rfl) (by rfl) (by rfl)) ?_
      rintro _ _ ⟨rfl, rfl⟩
      refine JO.nil ?_
      refine J.retC rfl (.cell rfl (ld_agg rfl CellsIn.blk) .nil) ?_
      refine ⟨_, _, ⟨a14, c14, a0, c0, hs0, rfl, rfl⟩, by rw [← madeK_all, ← hje]; rfl, fun h s => ?_⟩
      rw [← madeK_all, ← hje]
      exact SubC.out h s

end Go.Proofs.Ytnhippfllgnngaa
