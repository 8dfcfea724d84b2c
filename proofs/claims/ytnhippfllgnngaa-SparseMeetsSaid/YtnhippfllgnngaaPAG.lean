/-
  A part of the proof of the claim that this folder bears.
-/
import Derived.Test.YtnhippfllgnngaaPAF
import Derived.Test.YtnhippfllgnngaaPAE
import Derived.Test.YtnhippfllgnngaaKC
/- The text SD1. -/
set_option linter.unusedVariables false
set_option linter.unusedSimpArgs false
set_option maxRecDepth 10000
namespace Go.Proofs.Ytnhippfllgnngaa
open Go Go.KK Dm

instance (r s : Rg) : Decidable (wiR r s) := inferInstanceAs (Decidable (∀ i, i < cnt r → _))
instance (a b : List Rg) : Decidable (wiD a b) := inferInstanceAs (Decidable (∀ x ∈ idx a, _))
/-- The error of two domains that must have one rank. -/
def twoV (a b : List Rg) : Int := if ¬ (okD a ∧ okD b) then 40 else if a.length ≠ b.length then 2 else 0
def witV (a b : List Rg) : Bool × Int := if twoV a b ≠ 0 then (false, twoV a b) else (decide (wiD a b), 0)
theorem r_two {L : List Asn} {a b : Option Addr} {n cap m cq : Nat} {rs ss : List Rg} [SlIn rgE L a rs] [SlIn rgE L b ss] (hn : n = rs.length) (hm : m = ss.length) :
    CallS Try.prog 135 [.agg #[.slice a n cap], .agg #[.slice b m cq]].toArray L (fun v M => v = .int .i64 (twoV rs ss) ∧ M = L) := by
  subst hn
  subst hm
  refine CallS.ent ?_
  refine CallS.enter Try.func135 rfl rfl rfl rfl rfl ?_
  refine J.seq rfl ?_
  refine J.region rfl ?_
  refine JO.eff rfl rfl rfl (Eff.box (cs := [_]) rfl rfl) ?_
  rintro _ _ ⟨b2, rfl, rfl⟩
  refine JO.eff rfl rfl rfl (Eff.box (cs := [_]) rfl rfl) ?_
  rintro _ _ ⟨b3, rfl, rfl⟩
  refine JO.pur rfl rfl rfl (Pur.assign rfl) ?_
  refine JO.nil ?_
  refine J.seq rfl ?_
  refine J.block rfl ?_
  refine J.seq rfl ?_
  refine J.region rfl ?_
  refine JO.pur rfl rfl rfl (Pur.loadA rfl rfl rfl CellsIn.blk) ?_
  refine JO.effR rfl rfl rfl (Eff.call rfl (r_Valid (rs := rs) rfl)) ?_
  refine JO.pur rfl rfl rfl (Pur.not rfl) ?_
  refine JO.pur rfl rfl rfl (Pur.move rfl) ?_
  refine JO.setv (u' := .bool (!decide (okD rs))) 9 rfl rfl ?_
  refine JO.splitB 9 rfl (fun h9 => ?_) (fun h9 => ?_)
  · try simp only [decide_eq_true_eq, decide_eq_false_iff_not, Bool.not_eq_true', Bool.not_eq_false', Bool.and_eq_true, Bool.or_eq_true, Bool.and_eq_false_iff, Bool.or_eq_false_iff, Option.isNone_some, Option.isSome_some, Option.isNone_none, Option.isSome_none, Int.not_lt, Int.not_le, beq_iff_eq, beq_eq_false_iff_ne, bne_iff_ne, ne_eq, Bool.not_not, Decidable.not_not] at h9
    have hbad : ¬ okD rs := by simpa using h9
    refine JO.no rfl rfl rfl ?_
    refine JO.no rfl rfl rfl ?_
    refine JO.no rfl rfl rfl ?_
    refine JO.pur rfl rfl rfl (Pur.pickT rfl rfl) ?_
    refine JO.pur rfl rfl rfl (Pur.assign rfl) ?_
    refine JO.nil ?_
    refine J.condT rfl rfl ?_
    refine J.seq rfl ?_
    refine J.region rfl ?_
    refine JO.pur rfl rfl rfl (Pur.assign rfl) ?_
    refine JO.nil ?_
    refine J.ret rfl rfl ?_
    refine ⟨_, _, ⟨rfl, rfl⟩, congrArg (Value.int .i64) (show _ = twoV rs ss from ?_), SubC.out⟩
    unfold twoV; rw [if_pos (fun g => hbad g.1)]
  · try simp only [decide_eq_true_eq, decide_eq_false_iff_not, Bool.not_eq_true', Bool.not_eq_false', Bool.and_eq_true, Bool.or_eq_true, Bool.and_eq_false_iff, Bool.or_eq_false_iff, Option.isNone_some, Option.isSome_some, Option.isNone_none, Option.isSome_none, Int.not_lt, Int.not_le, beq_iff_eq, beq_eq_false_iff_ne, bne_iff_ne, ne_eq, Bool.not_not, Decidable.not_not] at h9
    have hg1 : okD rs := by simpa using h9
    refine JO.pur rfl rfl rfl (Pur.loadA rfl rfl rfl CellsIn.blk) ?_
    refine JO.effR rfl rfl rfl (Eff.call rfl (r_Valid (rs := ss) rfl)) ?_
    refine JO.pur rfl rfl rfl (Pur.not rfl) ?_
    refine JO.pur rfl rfl rfl (Pur.pickF rfl rfl) ?_
    refine JO.pur rfl rfl rfl (Pur.assign rfl) ?_
    refine JO.nil ?_
    refine J.splitB 5 rfl (fun h5 => ?_) (fun h5 => ?_)
    · try simp only [decide_eq_true_eq, decide_eq_false_iff_not, Bool.not_eq_true', Bool.not_eq_false', Bool.and_eq_true, Bool.or_eq_true, Bool.and_eq_false_iff, Bool.or_eq_false_iff, Option.isNone_some, Option.isSome_some, Option.isNone_none, Option.isSome_none, Int.not_lt, Int.not_le, beq_iff_eq, beq_eq_false_iff_ne, bne_iff_ne, ne_eq, Bool.not_not, Decidable.not_not] at h5
      have hbad : ¬ okD ss := by simpa using h5
      refine J.condT rfl rfl ?_
      refine J.seq rfl ?_
      refine J.region rfl ?_
      refine JO.pur rfl rfl rfl (Pur.assign rfl) ?_
      refine JO.nil ?_
      refine J.ret rfl rfl ?_
      refine ⟨_, _, ⟨rfl, rfl⟩, congrArg (Value.int .i64) (show _ = twoV rs ss from ?_), SubC.out⟩
      unfold twoV; rw [if_pos (fun g => hbad g.2)]
    · try simp only [decide_eq_true_eq, decide_eq_false_iff_not, Bool.not_eq_true', Bool.not_eq_false', Bool.and_eq_true, Bool.or_eq_true, Bool.and_eq_false_iff, Bool.or_eq_false_iff, Option.isNone_some, Option.isSome_some, Option.isNone_none, Option.isSome_none, Int.not_lt, Int.not_le, beq_iff_eq, beq_eq_false_iff_ne, bne_iff_ne, ne_eq, Bool.not_not, Decidable.not_not] at h5
      have hg2 : okD ss := by simpa using h5
      refine J.condF rfl rfl ?_
      refine J.seq rfl ?_
      refine J.region rfl ?_
      refine JO.pur rfl rfl rfl (Pur.fieldAddr rfl) ?_
      refine JO.pur rfl rfl rfl (Pur.load rfl (CellIn.blk rfl)) ?_
      refine JO.pur rfl rfl rfl (Pur.len rfl) ?_
      refine JO.pur rfl rfl rfl (Pur.fieldAddr rfl) ?_
      refine JO.pur rfl rfl rfl (Pur.load rfl (CellIn.blk rfl)) ?_
      refine JO.pur rfl rfl rfl (Pur.len rfl) ?_
      refine JO.pur rfl rfl rfl (Pur.neqI rfl rfl) ?_
      refine JO.pur rfl rfl rfl (Pur.assign rfl) ?_
      refine JO.nil ?_
      refine J.splitB 14 rfl (fun h14 => ?_) (fun h14 => ?_)
      · try simp only [decide_eq_true_eq, decide_eq_false_iff_not, Bool.not_eq_true', Bool.not_eq_false', Bool.and_eq_true, Bool.or_eq_true, Bool.and_eq_false_iff, Bool.or_eq_false_iff, Option.isNone_some, Option.isSome_some, Option.isNone_none, Option.isSome_none, Int.not_lt, Int.not_le, beq_iff_eq, beq_eq_false_iff_ne, bne_iff_ne, ne_eq, Bool.not_not, Decidable.not_not] at h14
        have hle : rs.length ≠ ss.length := by omega
        refine J.condT rfl rfl ?_
        refine J.seq rfl ?_
        refine J.region rfl ?_
        refine JO.pur rfl rfl rfl (Pur.assign rfl) ?_
        refine JO.nil ?_
        refine J.ret rfl rfl ?_
        refine ⟨_, _, ⟨rfl, rfl⟩, congrArg (Value.int .i64) (show _ = twoV rs ss from ?_), SubC.out⟩
        unfold twoV; rw [if_neg (not_not_intro ⟨hg1, hg2⟩), if_pos hle]
      · try simp only [decide_eq_true_eq, decide_eq_false_iff_not, Bool.not_eq_true', Bool.not_eq_false', Bool.and_eq_true, Bool.or_eq_true, Bool.and_eq_false_iff, Bool.or_eq_false_iff, Option.isNone_some, Option.isSome_some, Option.isNone_none, Option.isSome_none, Int.not_lt, Int.not_le, beq_iff_eq, beq_eq_false_iff_ne, bne_iff_ne, ne_eq, Bool.not_not, Decidable.not_not] at h14
        have hle : rs.length = ss.length := by omega
        refine J.condF rfl rfl ?_
        refine J.skip rfl ?_
        refine J.inBlock ?_
        refine J.seq rfl ?_
        refine J.region rfl ?_
        refine JO.pur rfl rfl rfl (Pur.assign rfl) ?_
        refine JO.nil ?_
        refine J.ret rfl rfl ?_
        refine ⟨_, _, ⟨rfl, rfl⟩, congrArg (Value.int .i64) (show _ = twoV rs ss from ?_), SubC.out⟩
        unfold twoV; rw [if_neg (not_not_intro ⟨hg1, hg2⟩), if_neg (not_not_intro hle)]

end Go.Proofs.Ytnhippfllgnngaa

/- The text SD2. -/
set_option linter.unusedVariables false
set_option linter.unusedSimpArgs false
set_option maxRecDepth 10000
namespace Go.Proofs.Ytnhippfllgnngaa
open Go Go.KK Dm

theorem cloneI {L : List Asn} {a : Option Addr} {n cap : Nat} {xs : List Int} [SlIn intE L a xs] (hn : n = xs.length) (hb : xs.length ≤ 17592186044416) (hnil : a = none → n = 0 ∧ cap = 0) :
    CallS Try.prog 110 [.slice a n cap].toArray L (fun v M => ∃ a' cap', (v = .slice a' n cap' ∧ (a = none → a' = none)) ∧ M = sl intE a' cap' xs :: L) := by
  subst hn
  refine CallS.ent ?_
  refine CallS.enter Try.func110 rfl rfl rfl rfl rfl ?_
  refine J.seq rfl ?_
  refine J.region rfl ?_
  refine JO.pur rfl rfl rfl (Pur.assign rfl) ?_
  refine JO.nil ?_
  refine J.seq rfl ?_
  refine J.seq rfl ?_
  refine J.region rfl ?_
  refine JO.pur rfl rfl rfl (Pur.move rfl) ?_
  refine JO.pur rfl rfl rfl (Pur.eqlSlNil rfl) ?_
  refine JO.nil ?_
  refine J.splitB 4 rfl (fun h4 => ?_) (fun h4 => ?_)
  · try simp only [decide_eq_true_eq, decide_eq_false_iff_not, Bool.not_eq_true', Bool.not_eq_false', Bool.and_eq_true, Bool.or_eq_true, Bool.and_eq_false_iff, Bool.or_eq_false_iff, Option.isNone_some, Option.isSome_some, Option.isNone_none, Option.isSome_none, Int.not_lt, Int.not_le, beq_iff_eq, beq_eq_false_iff_ne, bne_iff_ne, ne_eq, Bool.not_not, Decidable.not_not] at h4
    have ha : a = none := by cases a with | none => rfl | some p => simp at h4
    subst ha
    obtain ⟨e1, e2⟩ := hnil rfl
    have e3 : xs = [] := List.eq_nil_of_length_eq_zero (by omega)
    subst e2; subst e3
    refine J.condT rfl rfl ?_
    refine J.seq rfl ?_
    refine J.region rfl ?_
    refine JO.pur rfl rfl rfl (Pur.assign rfl) ?_
    refine JO.nil ?_
    refine J.ret rfl rfl ?_
    exact ⟨_, _, ⟨none, 0, ⟨rfl, fun _ => rfl⟩, rfl⟩, rfl, fun h hs => sl_nil_new hs⟩
  · try simp only [decide_eq_true_eq, decide_eq_false_iff_not, Bool.not_eq_true', Bool.not_eq_false', Bool.and_eq_true, Bool.or_eq_true, Bool.and_eq_false_iff, Bool.or_eq_false_iff, Option.isNone_some, Option.isSome_some, Option.isNone_none, Option.isSome_none, Int.not_lt, Int.not_le, beq_iff_eq, beq_eq_false_iff_ne, bne_iff_ne, ne_eq, Bool.not_not, Decidable.not_not] at h4
    refine J.condF rfl rfl ?_
    refine J.skip rfl ?_
    refine J.seq rfl ?_
    refine J.region rfl ?_
    refine JO.eff rfl rfl rfl (Eff.buildSlice intE [] rfl rfl rfl rfl rfl rfl rfl) ?_
    rintro _ _ ⟨b5, rfl, -, rfl⟩
    refine JO.pur rfl rfl rfl (Pur.move rfl) ?_
    refine JO.eff rfl rfl rfl (Eff.append rfl rfl rfl rfl (by first | rfl | omega | (simp; done) | (simp; omega)) (by first | rfl | omega | (simp; done) | (simp; omega)) (by decide) (by simp; omega) (by simp; omega) hnil) ?_
    rintro _ _ ⟨a7, c7, rfl, rfl⟩
    refine JO.pur rfl rfl rfl (Pur.assign rfl) ?_
    refine JO.nil ?_
    refine J.ret rfl rfl ?_
    refine ⟨_, _, ⟨a7, c7, ⟨rfl, fun e => ?_⟩, rfl⟩, ?_, fun h hs => ?_⟩
    · rw [e] at h4; simp at h4
    · show Value.slice _ _ _ = Value.slice _ _ _
      simp
    · simpa using hs

def stE : Enc ByteArray := ⟨9, 1, fun s => [.string s], fun _ => rfl, fun s v h => by
  simp only [List.mem_cons, List.not_mem_nil, or_false] at h; rcases h with rfl; rfl⟩
def domE : Enc Hdr := hdrE 24
theorem plD_can {d : List Rg} (h : okRs d) (hd : d ≠ []) (x : List Int) : plD (canD d) x = plD d x := by
  have key : ∀ n, plD (canD d) x = some n ↔ plD d x = some n := fun n => by rw [plD_iff (canD_ok h), plD_iff h, canD_idx h hd]
  cases e : plD d x with
  | none =>
    cases e2 : plD (canD d) x with
    | none => rfl
    | some n => have := (key n).1 e2; rw [e] at this; cases this
  | some n => exact (key n).2 e
def askV (ss : List ByteArray) (ds : List (List Rg)) : Int := if ¬ (∀ z ∈ ss, okL z) then 60 else if ¬ (∀ d ∈ ds, okD d) then 40 else 0
end Go.Proofs.Ytnhippfllgnngaa

/- The text SpPlain. -/
set_option linter.unusedVariables false
set_option linter.unusedSimpArgs false
/-! Sparse domains, plain. -/
namespace Go.Proofs.Ytnhippfllgnngaa
open Go Go.KK Dm
/-- The place of an index, 0 where it has none. -/
def atS (rs : List Rg) (x : List Int) : Int := (((plD rs x).getD 0 : Nat) : Int)
def lastS (rs : List Rg) (xss : List (List Int)) (j : Nat) : Int := if j = 0 then -1 else atS rs (xss.getD (j - 1) [])
def stepS (rs : List Rg) (xss : List (List Int)) (j : Nat) : Prop := (plD rs (xss.getD j [])).isSome = true ∧ lastS rs xss j < atS rs (xss.getD j [])
instance (rs : List Rg) (xss : List (List Int)) (j : Nat) : Decidable (stepS rs xss j) := inferInstanceAs (Decidable (_ ∧ _))
def okS (rs : List Rg) (xss : List (List Int)) : Prop := okD rs ∧ xss.length ≤ 400 ∧ ∀ j, j < xss.length → stepS rs xss j
instance (rs : List Rg) (xss : List (List Int)) : Decidable (okS rs xss) := inferInstanceAs (Decidable (_ ∧ _))
theorem atS_nonneg (rs : List Rg) (x : List Int) : 0 ≤ atS rs x := Int.natCast_nonneg _
theorem plV_ok {rs : List Rg} (h : okD rs) (x : List Int) : ((plV rs x).2 = 0 ↔ (plD rs x).isSome = true) ∧ ((plD rs x).isSome = true → plV rs x = (atS rs x, 0)) := by
  unfold plV atS
  rw [if_neg (not_not_intro h)]
  by_cases hl : x.length = rs.length
  · rw [if_neg (not_not_intro hl)]
    cases e : plD rs x with
    | none => simp
    | some n => simp
  · rw [if_pos hl]
    have : plD rs x = none := by unfold plD; rw [if_neg hl]
    simp [this]
theorem getD_at' {α : Type} {l : List α} {k : Nat} (d : α) (h : k < l.length) : l[k]? = some (l.getD k d) := by
  rw [List.getD_eq_getElem?_getD, List.getElem?_eq_getElem h]; rfl
theorem okS_some {rs : List Rg} {xss : List (List Int)} (h : okS rs xss) {x : List Int} (hx : x ∈ xss) : (plD rs x).isSome = true := by
  obtain ⟨j, hj, e⟩ := List.getElem_of_mem hx
  have := (h.2.2 j hj).1
  rwa [List.getD_eq_getElem?_getD, List.getElem?_eq_getElem hj, Option.getD_some, e] at this
theorem okS_len {rs : List Rg} {xss : List (List Int)} (h : okS rs xss) {x : List Int} (hx : x ∈ xss) : x.length = rs.length := by
  have := okS_some h hx
  unfold plD at this
  by_cases e : x.length = rs.length
  · exact e
  · rw [if_neg e] at this; cases this
theorem atS_inj {rs : List Rg} (h : okRs rs) {x y : List Int} (hx : (plD rs x).isSome = true) (hy : (plD rs y).isSome = true) (e : atS rs x = atS rs y) : x = y := by
  obtain ⟨n, hn⟩ := Option.isSome_iff_exists.1 hx
  obtain ⟨m, hm⟩ := Option.isSome_iff_exists.1 hy
  unfold atS at e
  rw [hn, hm] at e
  have e2 : n = m := Int.ofNat.inj e
  subst e2
  have a1 := (plD_iff h).1 hn
  have a2 := (plD_iff h).1 hm
  rw [a1] at a2; exact Option.some.inj a2
/-- Ascending places. -/
theorem okS_asc {rs : List Rg} {xss : List (List Int)} (h : okS rs xss) : ∀ j i, i < j → j < xss.length → atS rs (xss.getD i []) < atS rs (xss.getD j []) := by
  intro j
  induction j with
  | zero => intro i hi; omega
  | succ j ih =>
    intro i hi hj
    have h1 := (h.2.2 (j + 1) hj).2
    unfold lastS at h1
    rw [if_neg (by omega), Nat.add_sub_cancel] at h1
    by_cases e : i = j
    · subst e; exact h1
    · have := ih i (by omega) (by omega); omega
/-- The places of a list, if all have one. -/
def plcV (rs : List Rg) (l : List (List Int)) : List Int × Bool := if ∀ x ∈ l, (plV rs x).2 = 0 then (l.map (atS rs), true) else ([], false)
/-- Which one of a list an index is, or where it would stand. -/
def fndV (rs : List Rg) (xss : List (List Int)) (x : List Int) : Int × Bool := if (plV rs x).2 ≠ 0 then (0, false) else (((xss.countP fun y => decide (atS rs y < atS rs x) : Nat) : Int), decide (x ∈ xss))
theorem okS_iff {rs : List Rg} {xss : List (List Int)} (h1 : okD rs) (h2 : xss.length ≤ 400) : okS rs xss ↔ (∀ x ∈ xss, (plV rs x).2 = 0) ∧ ∀ j, 1 ≤ j → j < xss.length → atS rs (xss.getD (j - 1) []) < atS rs (xss.getD j []) := by
  constructor
  · intro h
    refine ⟨fun x hx => (plV_ok h1 x).1.2 (okS_some h hx), fun j hj hl => okS_asc h j (j - 1) (by omega) hl⟩
  · rintro ⟨h3, h4⟩
    refine ⟨h1, h2, fun j hj => ⟨?_, ?_⟩⟩
    · refine (plV_ok h1 _).1.1 (h3 _ ?_)
      rw [List.getD_eq_getElem?_getD, List.getElem?_eq_getElem hj]; exact List.getElem_mem hj
    · unfold lastS
      by_cases e : j = 0
      · rw [if_pos e]; have := atS_nonneg rs (xss.getD j []); omega
      · rw [if_neg e]; exact h4 j (by omega) hj
/-- What the reference has found out about the first ones. -/
def okN (rs : List Rg) (xss : List (List Int)) (q : Nat) : Bool := (plcV rs xss).2 && decide (∀ j, j < q → (1 ≤ j ∧ j < (plcV rs xss).1.length) → (plcV rs xss).1.getD (j - 1) 0 < (plcV rs xss).1.getD j 0)
theorem plcV_yes {rs : List Rg} {l : List (List Int)} (h : ∀ x ∈ l, (plV rs x).2 = 0) : plcV rs l = (l.map (atS rs), true) := if_pos h
theorem plcV_no {rs : List Rg} {l : List (List Int)} (h : ¬ ∀ x ∈ l, (plV rs x).2 = 0) : plcV rs l = ([], false) := if_neg h
theorem map_getD {rs : List Rg} {l : List (List Int)} {j : Nat} (h : j < l.length) : (l.map (atS rs)).getD j 0 = atS rs (l.getD j []) := by
  rw [List.getD_eq_getElem?_getD, List.getElem?_map, List.getElem?_eq_getElem h, List.getD_eq_getElem?_getD, List.getElem?_eq_getElem h]; rfl
theorem okN_one (rs : List Rg) (xss : List (List Int)) : okN rs xss 1 = (plcV rs xss).2 := by
  unfold okN
  rw [decide_eq_true (fun j h1 h2 => by omega), Bool.and_true]
theorem okN_succ {rs : List Rg} {xss : List (List Int)} {q : Nat} (h : okN rs xss q = true) (hq : 1 ≤ q) (hl : q < (plcV rs xss).1.length) : okN rs xss (q + 1) = decide ((plcV rs xss).1.getD (q - 1) 0 < (plcV rs xss).1.getD q 0) := by
  unfold okN at h ⊢
  simp only [Bool.and_eq_true, decide_eq_true_eq] at h
  rw [h.1, Bool.true_and]
  refine decide_eq_decide.2 ⟨fun g => g q (by omega) ⟨hq, hl⟩, fun g j hj h1 => ?_⟩
  by_cases e : j = q
  · subst e; exact g
  · exact h.2 j (by omega) h1
theorem okN_end {rs : List Rg} {xss : List (List Int)} {q : Nat} (h1 : okD rs) (h2 : xss.length ≤ 400) (h : okN rs xss q = false ∨ (plcV rs xss).1.length ≤ q) : okN rs xss q = decide (okS rs xss) := by
  by_cases hp : ∀ x ∈ xss, (plV rs x).2 = 0
  · have hpv := plcV_yes hp
    have key : okN rs xss q = decide (∀ j, j < q → (1 ≤ j ∧ j < xss.length) → atS rs (xss.getD (j - 1) []) < atS rs (xss.getD j [])) := by
      unfold okN
      rw [hpv]
      simp only [Bool.true_and, List.length_map]
      refine decide_eq_decide.2 ⟨fun g j hj hl => ?_, fun g j hj hl => ?_⟩
      · have := g j hj hl; rwa [map_getD hl.2, map_getD (by omega)] at this
      · rw [map_getD hl.2, map_getD (by omega)]; exact g j hj hl
    rw [key] at h ⊢
    refine decide_eq_decide.2 ⟨fun g => ?_, fun g j hj hl => ((okS_iff h1 h2).1 g).2 j hl.1 hl.2⟩
    rcases h with h | h
    · exact absurd g (of_decide_eq_false h)
    · rw [hpv] at h
      simp only [List.length_map] at h
      exact (okS_iff h1 h2).2 ⟨hp, fun j hj hl => g j (by omega) ⟨hj, hl⟩⟩
  · rw [decide_eq_false (fun hs => hp ((okS_iff h1 h2).1 hs).1)]
    unfold okN; rw [plcV_no hp]; rfl
end Go.Proofs.Ytnhippfllgnngaa

/- The text SH1. -/
set_option linter.unusedVariables false
set_option linter.unusedSimpArgs false
set_option maxRecDepth 10000
namespace Go.Proofs.Ytnhippfllgnngaa
open Go Go.KK Dm

instance : IntT Try.prog 3 .i64 := ⟨Try.underlying3⟩
instance : IntT Try.prog 154 .u64 := ⟨Try.underlying154⟩
def cmpZ (a b : Int) : Int := if a < b then -1 else if b < a then 1 else 0
theorem getD_of' {α : Type} {l : List α} {k : Nat} {x d : α} (h : l[k]? = some x) : l.getD k d = x := by rw [List.getD_eq_getElem?_getD, h]; rfl
theorem isNaN_ok {L : List Asn} {z : Int} :
    CallS Try.prog 169 [.int .i64 z].toArray L (fun v M => v = .bool false ∧ M = L) := by
  refine CallS.ent ?_
  refine CallS.enter Try.func169 rfl rfl rfl rfl rfl ?_
  refine J.seq rfl ?_
  refine J.region rfl ?_
  refine JO.pur rfl rfl rfl (Pur.assign rfl) ?_
  refine JO.nil ?_
  refine J.seq rfl ?_
  refine J.region rfl ?_
  refine JO.pur rfl rfl rfl (Pur.move rfl) ?_
  refine JO.pur rfl rfl rfl (Pur.move rfl) ?_
  refine JO.pur rfl rfl rfl (Pur.neqI rfl rfl) ?_
  refine JO.pur rfl rfl rfl (Pur.assign rfl) ?_
  refine JO.nil ?_
  refine J.ret rfl rfl ?_
  refine ⟨_, _, ⟨rfl, rfl⟩, congrArg Value.bool (by simp), SubC.out⟩

theorem cmp_ok {L : List Asn} {x y : Int} :
    CallS Try.prog 141 [.int .i64 x, .int .i64 y].toArray L (fun v M => v = .int .i64 (cmpZ x y) ∧ M = L) := by
  refine CallS.ent ?_
  refine CallS.enter Try.func141 rfl rfl rfl rfl rfl ?_
  refine J.seq rfl ?_
  refine J.region rfl ?_
  refine JO.pur rfl rfl rfl (Pur.assign rfl) ?_
  refine JO.nil ?_
  refine J.seq rfl ?_
  refine J.region rfl ?_
  refine JO.pur rfl rfl rfl (Pur.move rfl) ?_
  refine JO.effR rfl rfl rfl (Eff.call rfl (isNaN_ok)) ?_
  refine JO.setv (u' := .bool false) 8 rfl (congrArg Value.bool (rfl)) ?_
  refine JO.pur rfl rfl rfl (Pur.assign rfl) ?_
  refine JO.nil ?_
  refine J.seq rfl ?_
  refine J.region rfl ?_
  refine JO.pur rfl rfl rfl (Pur.move rfl) ?_
  refine JO.effR rfl rfl rfl (Eff.call rfl (isNaN_ok)) ?_
  refine JO.setv (u' := .bool false) 10 rfl (congrArg Value.bool (rfl)) ?_
  refine JO.pur rfl rfl rfl (Pur.assign rfl) ?_
  refine JO.nil ?_
  refine J.seq rfl ?_
  refine J.seq rfl ?_
  refine J.region rfl ?_
  refine JO.pur rfl rfl rfl (Pur.move rfl) ?_
  refine JO.nil ?_
  refine J.condF rfl rfl ?_
  refine J.skip rfl ?_
  refine J.seq rfl ?_
  refine J.seq rfl ?_
  refine J.region rfl ?_
  refine JO.pur rfl rfl rfl (Pur.move rfl) ?_
  refine JO.nil ?_
  refine J.condF rfl rfl ?_
  refine J.skip rfl ?_
  refine J.seq rfl ?_
  refine J.seq rfl ?_
  refine J.region rfl ?_
  refine JO.pur rfl rfl rfl (Pur.move rfl) ?_
  refine JO.pur rfl rfl rfl (Pur.move rfl) ?_
  refine JO.pur rfl rfl rfl (Pur.lss rfl rfl) ?_
  refine JO.nil ?_
  refine J.splitB 16 rfl (fun h16 => ?_) (fun h16 => ?_)
  · try simp only [decide_eq_true_eq, decide_eq_false_iff_not, Bool.not_eq_true', Bool.not_eq_false', Bool.and_eq_true, Bool.or_eq_true, Bool.and_eq_false_iff, Bool.or_eq_false_iff, Option.isNone_some, Option.isSome_some, Option.isNone_none, Option.isSome_none, Int.not_lt, Int.not_le, beq_iff_eq, beq_eq_false_iff_ne, bne_iff_ne, ne_eq, Bool.not_not, Decidable.not_not] at h16
    refine J.condT rfl rfl ?_
    refine J.seq rfl ?_
    refine J.region rfl ?_
    refine JO.pur rfl rfl rfl (Pur.assign rfl) ?_
    refine JO.nil ?_
    refine J.ret rfl rfl ?_
    refine ⟨_, _, ⟨rfl, rfl⟩, congrArg (Value.int .i64) (by unfold cmpZ; first | rw [if_pos (by omega)] | rw [if_neg (by omega), if_pos (by omega)] | rw [if_neg (by omega), if_neg (by omega)]), SubC.out⟩
  · try simp only [decide_eq_true_eq, decide_eq_false_iff_not, Bool.not_eq_true', Bool.not_eq_false', Bool.and_eq_true, Bool.or_eq_true, Bool.and_eq_false_iff, Bool.or_eq_false_iff, Option.isNone_some, Option.isSome_some, Option.isNone_none, Option.isSome_none, Int.not_lt, Int.not_le, beq_iff_eq, beq_eq_false_iff_ne, bne_iff_ne, ne_eq, Bool.not_not, Decidable.not_not] at h16
    refine J.condF rfl rfl ?_
    refine J.skip rfl ?_
    refine J.seq rfl ?_
    refine J.seq rfl ?_
    refine J.region rfl ?_
    refine JO.pur rfl rfl rfl (Pur.move rfl) ?_
    refine JO.pur rfl rfl rfl (Pur.move rfl) ?_
    refine JO.pur rfl rfl rfl (Pur.gtr rfl rfl) ?_
    refine JO.nil ?_
    refine J.splitB 19 rfl (fun h19 => ?_) (fun h19 => ?_)
    · try simp only [decide_eq_true_eq, decide_eq_false_iff_not, Bool.not_eq_true', Bool.not_eq_false', Bool.and_eq_true, Bool.or_eq_true, Bool.and_eq_false_iff, Bool.or_eq_false_iff, Option.isNone_some, Option.isSome_some, Option.isNone_none, Option.isSome_none, Int.not_lt, Int.not_le, beq_iff_eq, beq_eq_false_iff_ne, bne_iff_ne, ne_eq, Bool.not_not, Decidable.not_not] at h19
      refine J.condT rfl rfl ?_
      refine J.seq rfl ?_
      refine J.region rfl ?_
      refine JO.pur rfl rfl rfl (Pur.assign rfl) ?_
      refine JO.nil ?_
      refine J.ret rfl rfl ?_
      refine ⟨_, _, ⟨rfl, rfl⟩, congrArg (Value.int .i64) (by unfold cmpZ; first | rw [if_pos (by omega)] | rw [if_neg (by omega), if_pos (by omega)] | rw [if_neg (by omega), if_neg (by omega)]), SubC.out⟩
    · try simp only [decide_eq_true_eq, decide_eq_false_iff_not, Bool.not_eq_true', Bool.not_eq_false', Bool.and_eq_true, Bool.or_eq_true, Bool.and_eq_false_iff, Bool.or_eq_false_iff, Option.isNone_some, Option.isSome_some, Option.isNone_none, Option.isSome_none, Int.not_lt, Int.not_le, beq_iff_eq, beq_eq_false_iff_ne, bne_iff_ne, ne_eq, Bool.not_not, Decidable.not_not] at h19
      refine J.condF rfl rfl ?_
      refine J.skip rfl ?_
      refine J.seq rfl ?_
      refine J.region rfl ?_
      refine JO.pur rfl rfl rfl (Pur.assign rfl) ?_
      refine JO.nil ?_
      refine J.ret rfl rfl ?_
      refine ⟨_, _, ⟨rfl, rfl⟩, congrArg (Value.int .i64) (by unfold cmpZ; first | rw [if_pos (by omega)] | rw [if_neg (by omega), if_pos (by omega)] | rw [if_neg (by omega), if_neg (by omega)]), SubC.out⟩

theorem places_ok {L : List Asn} {a la : Option Addr} {n cap ln lc : Nat} {rs : List Rg} {hs : List Hdr} {xss : List (List Int)} [SlIn rgE L a rs] [SlIn hE L la hs] [RowsR intE L hs xss] (hn : n = rs.length) (hl : ln = hs.length) (hxb : xss.length ≤ 1000000) :
    CallS Try.prog 90 [.agg #[.slice a n cap], .slice la ln lc].toArray L (fun v M => ∃ a' c', v = .tuple #[.slice a' (plcV rs xss).1.length c', .bool (plcV rs xss).2] ∧ M = sl intE a' c' (plcV rs xss).1 :: L) := by
  subst hn
  subst hl
  refine CallS.fact (fun h s => RowsR.len (E := intE) (hs := hs) (xss := xss) s) fun hnn => ?_
  have hhl : hs.length = xss.length := rows_len hnn
  refine CallS.ent ?_
  refine CallS.enter Try.func90 rfl rfl rfl rfl rfl ?_
  refine J.seq rfl ?_
  refine J.region rfl ?_
  refine JO.eff rfl rfl rfl (Eff.box (cs := [_]) rfl rfl) ?_
  rintro _ _ ⟨b2, rfl, rfl⟩
  refine JO.pur rfl rfl rfl (Pur.assign rfl) ?_
  refine JO.pur rfl rfl rfl (Pur.assign rfl) ?_
  refine JO.nil ?_
  refine J.seq rfl ?_
  refine J.region rfl ?_
  refine JO.pur rfl rfl rfl (Pur.assign rfl) ?_
  refine JO.nil ?_
  refine J.seq rfl ?_
  refine J.seq rfl ?_
  refine J.region rfl ?_
  refine JO.pur rfl rfl rfl (Pur.assign rfl) ?_
  refine JO.nil ?_
  refine J.block rfl ?_
  refine J.loopF (ι := Nat × Option Addr × Nat) (fun q => q.1 ≤ xss.length ∧ ∀ j x, j < q.1 → xss[j]? = some x → (plV rs x).2 = 0) (fun q => [(6, .slice q.2.1 q.1 q.2.2), (7, .int .i64 (q.1 : Int))]) [(1, _), (2, _)] (fun q => sl intE q.2.1 q.2.2 ((xss.map (atS rs)).take q.1) :: blk b2 (.cells #[.slice a rs.length cap] 24) :: L) (fun q => xss.length - q.1) (0, none, 0) rfl (.cons rfl rfl (.cons rfl rfl .nil)) (.cons rfl rfl (.cons rfl rfl .nil)) (fun h s => by have s2 := sl_nil_new (E := intE) s; exact SubC.out (L := sl intE none 0 [] :: _) (M := sl intE none 0 [] :: _) h s2) ⟨Nat.zero_le _, fun j x hj => absurd hj (Nat.not_lt_zero j)⟩ ?_
  rintro ⟨k, a6, c6⟩ ⟨hk, hok⟩ ih0
  try dsimp only
  dsimp only at hk hok
  have htl : ((xss.map (atS rs)).take k).length = k := by rw [List.length_take, List.length_map]; omega
  refine J.seq rfl ?_
  refine J.seq rfl ?_
  refine J.region rfl ?_
  refine JO.pur rfl rfl rfl (Pur.move rfl) ?_
  refine JO.pur rfl rfl rfl (Pur.move rfl) ?_
  refine JO.pur rfl rfl rfl (Pur.len rfl) ?_
  refine JO.pur rfl rfl rfl (Pur.lss rfl rfl) ?_
  refine JO.nil ?_
  refine J.splitB 13 rfl (fun h13 => ?_) (fun h13 => ?_)
  · try simp only [decide_eq_true_eq, decide_eq_false_iff_not, Bool.not_eq_true', Bool.not_eq_false', Bool.and_eq_true, Bool.or_eq_true, Bool.and_eq_false_iff, Bool.or_eq_false_iff, Option.isNone_some, Option.isSome_some, Option.isNone_none, Option.isSome_none, Int.not_lt, Int.not_le, beq_iff_eq, beq_eq_false_iff_ne, bne_iff_ne, ne_eq, Bool.not_not, Decidable.not_not] at h13
    have hkl : k < xss.length := by omega
    obtain ⟨x, hX⟩ : ∃ x, xss[k]? = some x := ⟨_, List.getElem?_eq_getElem (by omega)⟩
    obtain ⟨hd, hH⟩ : ∃ hd, hs[k]? = some hd := ⟨_, List.getElem?_eq_getElem (by omega)⟩
    have hdn := hdr_n hnn hH hX
    have hxm := List.mem_of_getElem? hX
    have hxg : xss.getD k [] = x := getD_of' hX
    refine J.condT rfl rfl ?_
    refine J.skip rfl ?_
    refine J.seq rfl ?_
    refine J.block rfl ?_
    refine J.seq rfl ?_
    refine J.mask0 (n := 11) [] rfl Try.mixed rfl (by kernel_rfl) ?_
    refine JM.take 0 (fun _ h => h) rfl (by kernel_rfl) rfl rfl rfl (m' := 1) rfl (Pur.loadA rfl rfl rfl CellsIn.blk) ?_
    refine JM.take 1 (fun _ h => h) rfl (by kernel_rfl) rfl rfl rfl (m' := 3) rfl (Pur.move rfl) ?_
    refine JM.take 2 (fun _ h => h) rfl (by kernel_rfl) rfl rfl rfl (m' := 7) rfl (Pur.move rfl) ?_
    refine JM.take 3 (fun _ h => h) rfl (by kernel_rfl) rfl rfl rfl (m' := 15) rfl (Pur.idx rfl rfl rfl (by first | rfl | (simp; done) | omega) rfl (by omega)) ?_
    refine JM.take 4 (fun _ h => h) rfl (by kernel_rfl) rfl rfl rfl (m' := 31) rfl (Pur.load rfl (CellIn.el0 rfl hH rfl)) ?_
    refine JM.setv (u' := .slice hd.a hd.n hd.cap) 21 rfl rfl ?_
    refine JM.one (i := 5) (by kernel_rfl) ?_
    refine JMi.effR (fun _ h => h) rfl rfl rfl rfl (m' := 63) rfl (Eff.call rfl (@r_Place _ _ _ _ _ _ _ rs x inferInstance (RowsR.row (E := intE) inferInstance hH hX) rfl hdn)) ?_
    refine JM.take 6 (fun _ h => h) rfl (by kernel_rfl) rfl rfl rfl (m' := 127) rfl (Pur.move rfl) ?_
    refine JM.take 7 (fun _ h => h) rfl (by kernel_rfl) rfl rfl rfl (m' := 255) rfl (Pur.extract rfl rfl) ?_
    refine JM.take 8 (fun _ h => h) rfl (by kernel_rfl) rfl rfl rfl (m' := 511) rfl (Pur.extract rfl rfl) ?_
    refine JM.take 9 (fun _ h => h) rfl (by kernel_rfl) rfl rfl rfl (m' := 1023) rfl (Pur.assign rfl) ?_
    refine JM.take 10 (fun _ h => h) rfl (by kernel_rfl) rfl rfl rfl (m' := 2047) rfl (Pur.assign rfl) ?_
    refine JM.done rfl ?_
    refine J.seq rfl ?_
    refine J.seq rfl ?_
    refine J.region rfl ?_
    refine JO.pur rfl rfl rfl (Pur.move rfl) ?_
    refine JO.pur rfl rfl rfl (Pur.neqI rfl rfl) ?_
    refine JO.nil ?_
    refine J.splitB 26 rfl (fun h26 => ?_) (fun h26 => ?_)
    · try simp only [decide_eq_true_eq, decide_eq_false_iff_not, Bool.not_eq_true', Bool.not_eq_false', Bool.and_eq_true, Bool.or_eq_true, Bool.and_eq_false_iff, Bool.or_eq_false_iff, Option.isNone_some, Option.isSome_some, Option.isNone_none, Option.isSome_none, Int.not_lt, Int.not_le, beq_iff_eq, beq_eq_false_iff_ne, bne_iff_ne, ne_eq, Bool.not_not, Decidable.not_not] at h26
      have hbad : (plV rs x).2 ≠ 0 := by simpa using h26
      refine J.condT rfl rfl ?_
      refine J.seq rfl ?_
      refine J.region rfl ?_
      refine JO.pur rfl rfl rfl (Pur.assign rfl) ?_
      refine JO.pur rfl rfl rfl (Pur.assign rfl) ?_
      refine JO.nil ?_
      refine J.ret rfl rfl ?_
      have hv : plcV rs xss = ([], false) := plcV_no (fun g => hbad (g x hxm))
      refine ⟨_, _, ⟨none, 0, rfl, rfl⟩, by rw [hv]; rfl, fun h s => ?_⟩
      rw [hv]; exact sl_nil_new (SubC.out h s)
    · try simp only [decide_eq_true_eq, decide_eq_false_iff_not, Bool.not_eq_true', Bool.not_eq_false', Bool.and_eq_true, Bool.or_eq_true, Bool.and_eq_false_iff, Bool.or_eq_false_iff, Option.isNone_some, Option.isSome_some, Option.isNone_none, Option.isSome_none, Int.not_lt, Int.not_le, beq_iff_eq, beq_eq_false_iff_ne, bne_iff_ne, ne_eq, Bool.not_not, Decidable.not_not] at h26
      have hgd : (plV rs x).2 = 0 := by simpa using h26
      have hok2 : ∀ j y, j < k + 1 → xss[j]? = some y → (plV rs y).2 = 0 := fun j y hj hy => by
        rcases Nat.lt_or_ge j k with h | h
        · exact hok j y h hy
        · obtain rfl : j = k := by omega
          rw [hX] at hy; obtain rfl := Option.some.inj hy; exact hgd
      have hpa : (plV rs x).1 = atS rs x := by
        by_cases hd' : okD rs
        · rw [(plV_ok hd' x).2 ((plV_ok hd' x).1.1 hgd)]
        · unfold plV at hgd; rw [if_pos hd'] at hgd; cases hgd
      have hap1 : (xss.map (atS rs)).take (k + 1) = (xss.map (atS rs)).take k ++ [(plV rs x).1] := take_get (by rw [List.getElem?_map, hX, hpa]; rfl)
      refine J.condF rfl rfl ?_
      refine J.skip rfl ?_
      refine J.region rfl ?_
      refine JO.pur rfl rfl rfl (Pur.move rfl) ?_
      refine JO.pur rfl rfl rfl (Pur.move rfl) ?_
      refine JO.eff rfl rfl rfl (Eff.buildSlice intE [(plV rs x).1] rfl rfl rfl rfl rfl rfl rfl) ?_
      rintro _ _ ⟨b29, rfl, -, rfl⟩
      refine JO.eff rfl rfl rfl (Eff.append rfl rfl rfl rfl (by first | rfl | omega | (simp; done) | (simp; omega)) (by first | rfl | omega | (simp; done) | (simp; omega)) (by decide) (by simp; omega) (by simp; omega) (fun h => by cases h)) ?_
      rintro _ _ ⟨a30, c30, rfl, rfl⟩
      refine JO.pur rfl rfl rfl (Pur.assign rfl) ?_
      refine JO.nil ?_
      refine J.inBlock ?_
      refine J.region rfl ?_
      refine JO.pur rfl rfl rfl (Pur.move rfl) ?_
      refine JO.pur rfl rfl rfl (Pur.add rfl rfl (wr64 (by omega))) ?_
      refine JO.pur rfl rfl rfl (Pur.assign rfl) ?_
      refine JO.nil ?_
      exact J.weaken (.cons rfl (by show Value.slice a30 _ c30 = Value.slice a30 (k + 1) c30; rw [htl]; rfl) (.cons rfl (congrArg (Value.int .i64) (by first | rfl | (dsimp only; omega))) (.cons rfl rfl (.cons rfl rfl .nil)))) (fun h s => by rw [← hap1] at s; exact SubC.out h s) (ih0 (k + 1, a30, c30) ⟨by dsimp only; omega, hok2⟩ (by dsimp only; omega))
  · try simp only [decide_eq_true_eq, decide_eq_false_iff_not, Bool.not_eq_true', Bool.not_eq_false', Bool.and_eq_true, Bool.or_eq_true, Bool.and_eq_false_iff, Bool.or_eq_false_iff, Option.isNone_some, Option.isSome_some, Option.isNone_none, Option.isSome_none, Int.not_lt, Int.not_le, beq_iff_eq, beq_eq_false_iff_ne, bne_iff_ne, ne_eq, Bool.not_not, Decidable.not_not] at h13
    have hke : k = xss.length := by omega
    refine J.condF rfl rfl ?_
    refine J.exit rfl rfl ?_
    refine J.seq rfl ?_
    refine J.region rfl ?_
    refine JO.pur rfl rfl rfl (Pur.move rfl) ?_
    refine JO.pur rfl rfl rfl (Pur.assign rfl) ?_
    refine JO.pur rfl rfl rfl (Pur.assign rfl) ?_
    refine JO.nil ?_
    refine J.ret rfl rfl ?_
    have hv : plcV rs xss = ((xss.map (atS rs)), true) := plcV_yes (fun x hx => by obtain ⟨j, hj, e⟩ := List.getElem_of_mem hx; exact hok j x (by omega) (by rw [List.getElem?_eq_getElem hj, e]))
    refine ⟨_, _, ⟨a6, c6, rfl, rfl⟩, by rw [hv]; simp only [List.length_map]; rw [hke]; rfl, fun h s => ?_⟩
    rw [hke, show xss.length = (xss.map (atS rs)).length by simp, List.take_length] at s
    rw [hv]
    exact SubC.out h s

theorem s_Valid {L : List Asn} {a la : Option Addr} {n cap ln lc : Nat} {rs : List Rg} {hs : List Hdr} {xss : List (List Int)} [SlIn rgE L a rs] [SlIn hE L la hs] [RowsR intE L hs xss] (hn : n = rs.length) (hl : ln = hs.length) :
    CallS Try.prog 26 [.agg #[.slice a n cap, .slice la ln lc]].toArray L (fun v M => v = .bool (decide (okS rs xss)) ∧ M = L) := by
  subst hn
  subst hl
  refine CallS.fact (fun h s => RowsR.len (E := intE) (hs := hs) (xss := xss) s) fun hnn => ?_
  have hhl : hs.length = xss.length := rows_len hnn
  refine CallS.ent ?_
  refine CallS.enter Try.func26 rfl rfl rfl rfl rfl ?_
  refine J.seq rfl ?_
  refine J.region rfl ?_
  refine JO.eff rfl rfl rfl (Eff.box (cs := [_, _]) rfl rfl) ?_
  rintro _ _ ⟨b1, rfl, rfl⟩
  refine JO.pur rfl rfl rfl (Pur.assign rfl) ?_
  refine JO.nil ?_
  refine J.seq rfl ?_
  refine J.seq rfl ?_
  refine J.region rfl ?_
  refine JO.pur rfl rfl rfl (Pur.fieldAddr rfl) ?_
  refine JO.pur rfl rfl rfl (Pur.loadA rfl rfl rfl (CellsIn.sub1 rfl)) ?_
  refine JO.effR rfl rfl rfl (Eff.call rfl (d_Valid (rs := rs) rfl)) ?_
  refine JO.pur rfl rfl rfl (Pur.not rfl) ?_
  refine JO.pur rfl rfl rfl (Pur.move rfl) ?_
  refine JO.splitB 12 rfl (fun h12 => ?_) (fun h12 => ?_)
  · try simp only [decide_eq_true_eq, decide_eq_false_iff_not, Bool.not_eq_true', Bool.not_eq_false', Bool.and_eq_true, Bool.or_eq_true, Bool.and_eq_false_iff, Bool.or_eq_false_iff, Option.isNone_some, Option.isSome_some, Option.isNone_none, Option.isSome_none, Int.not_lt, Int.not_le, beq_iff_eq, beq_eq_false_iff_ne, bne_iff_ne, ne_eq, Bool.not_not, Decidable.not_not] at h12
    refine JO.no rfl rfl rfl ?_
    refine JO.no rfl rfl rfl ?_
    refine JO.no rfl rfl rfl ?_
    refine JO.no rfl rfl rfl ?_
    refine JO.pur rfl rfl rfl (Pur.pickT rfl rfl) ?_
    refine JO.nil ?_
    refine J.condT rfl rfl ?_
    refine J.seq rfl ?_
    refine J.region rfl ?_
    refine JO.pur rfl rfl rfl (Pur.assign rfl) ?_
    refine JO.nil ?_
    refine J.ret rfl rfl ?_
    refine ⟨_, _, ⟨rfl, rfl⟩, congrArg Value.bool ((decide_eq_false (fun g => h12 g.1)).symm), SubC.out⟩
  · try simp only [decide_eq_true_eq, decide_eq_false_iff_not, Bool.not_eq_true', Bool.not_eq_false', Bool.and_eq_true, Bool.or_eq_true, Bool.and_eq_false_iff, Bool.or_eq_false_iff, Option.isNone_some, Option.isSome_some, Option.isNone_none, Option.isSome_none, Int.not_lt, Int.not_le, beq_iff_eq, beq_eq_false_iff_ne, bne_iff_ne, ne_eq, Bool.not_not, Decidable.not_not] at h12
    have hgd : okD rs := h12
    refine JO.pur rfl rfl rfl (Pur.fieldAddr rfl) ?_
    refine JO.pur rfl rfl rfl (Pur.load rfl (CellIn.blk rfl)) ?_
    refine JO.pur rfl rfl rfl (Pur.len rfl) ?_
    refine JO.pur rfl rfl rfl (Pur.gtr rfl rfl) ?_
    refine JO.pur rfl rfl rfl (Pur.pickF rfl rfl) ?_
    refine JO.nil ?_
    refine J.splitB 17 rfl (fun h17 => ?_) (fun h17 => ?_)
    · try simp only [decide_eq_true_eq, decide_eq_false_iff_not, Bool.not_eq_true', Bool.not_eq_false', Bool.and_eq_true, Bool.or_eq_true, Bool.and_eq_false_iff, Bool.or_eq_false_iff, Option.isNone_some, Option.isSome_some, Option.isNone_none, Option.isSome_none, Int.not_lt, Int.not_le, beq_iff_eq, beq_eq_false_iff_ne, bne_iff_ne, ne_eq, Bool.not_not, Decidable.not_not] at h17
      refine J.condT rfl rfl ?_
      refine J.seq rfl ?_
      refine J.region rfl ?_
      refine JO.pur rfl rfl rfl (Pur.assign rfl) ?_
      refine JO.nil ?_
      refine J.ret rfl rfl ?_
      refine ⟨_, _, ⟨rfl, rfl⟩, congrArg Value.bool ((decide_eq_false (fun g => by have := g.2.1; omega)).symm), SubC.out⟩
    · try simp only [decide_eq_true_eq, decide_eq_false_iff_not, Bool.not_eq_true', Bool.not_eq_false', Bool.and_eq_true, Bool.or_eq_true, Bool.and_eq_false_iff, Bool.or_eq_false_iff, Option.isNone_some, Option.isSome_some, Option.isNone_none, Option.isSome_none, Int.not_lt, Int.not_le, beq_iff_eq, beq_eq_false_iff_ne, bne_iff_ne, ne_eq, Bool.not_not, Decidable.not_not] at h17
      have hlb : xss.length ≤ 400 := by omega
      refine J.condF rfl rfl ?_
      refine J.skip rfl ?_
      refine J.seq rfl ?_
      refine J.region rfl ?_
      refine JO.pur rfl rfl rfl (Pur.assign rfl) ?_
      refine JO.nil ?_
      refine J.seq rfl ?_
      refine J.seq rfl ?_
      refine J.region rfl ?_
      refine JO.pur rfl rfl rfl (Pur.fieldAddr rfl) ?_
      refine JO.pur rfl rfl rfl (Pur.load rfl (CellIn.blk rfl)) ?_
      refine JO.pur rfl rfl rfl (Pur.len rfl) ?_
      refine JO.pur rfl rfl rfl (Pur.move rfl) ?_
      refine JO.nil ?_
      refine J.block rfl ?_
      refine J.loopF (ι := Nat) (fun q => q ≤ xss.length ∧ ∀ j, j < q → stepS rs xss j) (fun q => [(3, .int .i64 (lastS rs xss q)), (21, .int .i64 (q : Int))]) [(1, _), (19, _), (20, _)] (fun q => blk b1 (.cells #[.slice a rs.length cap, .slice la hs.length lc] 27) :: L) (fun q => xss.length - q) 0 rfl (.cons rfl rfl (.cons rfl rfl (.cons rfl rfl .nil))) (.cons rfl rfl (.cons rfl rfl .nil)) (by first | exact fun _ h => h | exact SubC.out | (dsimp only; exact SubC.out)) ⟨Nat.zero_le _, fun j hj => absurd hj (Nat.not_lt_zero j)⟩ ?_
      rintro k ⟨hk, hok⟩ ihk
      try dsimp only
      refine J.seq rfl ?_
      refine J.region rfl ?_
      refine JO.pur rfl rfl rfl (Pur.lss rfl rfl) ?_
      refine JO.nil ?_
      refine J.seq rfl ?_
      refine J.splitB 22 rfl (fun h22 => ?_) (fun h22 => ?_)
      · try simp only [decide_eq_true_eq, decide_eq_false_iff_not, Bool.not_eq_true', Bool.not_eq_false', Bool.and_eq_true, Bool.or_eq_true, Bool.and_eq_false_iff, Bool.or_eq_false_iff, Option.isNone_some, Option.isSome_some, Option.isNone_none, Option.isSome_none, Int.not_lt, Int.not_le, beq_iff_eq, beq_eq_false_iff_ne, bne_iff_ne, ne_eq, Bool.not_not, Decidable.not_not] at h22
        have hkl : k < xss.length := by omega
        obtain ⟨x, hX⟩ : ∃ x, xss[k]? = some x := ⟨_, List.getElem?_eq_getElem (by omega)⟩
        obtain ⟨hd, hH⟩ : ∃ hd, hs[k]? = some hd := ⟨_, List.getElem?_eq_getElem (by omega)⟩
        have hdn := hdr_n hnn hH hX
        have hxm := List.mem_of_getElem? hX
        have hxg : xss.getD k [] = x := getD_of' hX
        obtain ⟨hp1, hp2⟩ := plV_ok hgd x
        refine J.condT rfl rfl ?_
        refine J.skip rfl ?_
        refine J.seq rfl ?_
        refine J.block rfl ?_
        refine J.seq rfl ?_
        refine J.region rfl ?_
        refine JO.pur rfl rfl rfl (Pur.idx rfl rfl rfl (by first | rfl | (simp; done) | omega) rfl (by omega)) ?_
        refine JO.pur rfl rfl rfl (Pur.load rfl (CellIn.el0 rfl hH rfl)) ?_
        refine JO.setv (u' := .slice hd.a hd.n hd.cap) 24 rfl rfl ?_
        refine JO.pur rfl rfl rfl (Pur.assign rfl) ?_
        refine JO.nil ?_
        refine J.seq rfl ?_
        refine J.region rfl ?_
        refine JO.pur rfl rfl rfl (Pur.fieldAddr rfl) ?_
        refine JO.pur rfl rfl rfl (Pur.loadA rfl rfl rfl (CellsIn.sub1 rfl)) ?_
        refine JO.pur rfl rfl rfl (Pur.move rfl) ?_
        refine JO.effR rfl rfl rfl (Eff.call rfl (@d_Place _ _ _ _ _ _ _ rs x inferInstance (RowsR.row (E := intE) inferInstance hH hX) rfl hdn)) ?_
        refine JO.pur rfl rfl rfl (Pur.move rfl) ?_
        refine JO.pur rfl rfl rfl (Pur.extract rfl rfl) ?_
        refine JO.setv (u' := .int .i64 (plV rs x).1) 30 rfl rfl ?_
        refine JO.pur rfl rfl rfl (Pur.extract rfl rfl) ?_
        refine JO.setv (u' := .int .i64 (plV rs x).2) 31 rfl rfl ?_
        refine JO.pur rfl rfl rfl (Pur.assign rfl) ?_
        refine JO.pur rfl rfl rfl (Pur.assign rfl) ?_
        refine JO.nil ?_
        refine J.seq rfl ?_
        refine J.seq rfl ?_
        refine J.region rfl ?_
        refine JO.pur rfl rfl rfl (Pur.move rfl) ?_
        refine JO.pur rfl rfl rfl (Pur.neqI rfl rfl) ?_
        refine JO.pur rfl rfl rfl (Pur.move rfl) ?_
        refine JO.splitB 34 rfl (fun h34 => ?_) (fun h34 => ?_)
        · try simp only [decide_eq_true_eq, decide_eq_false_iff_not, Bool.not_eq_true', Bool.not_eq_false', Bool.and_eq_true, Bool.or_eq_true, Bool.and_eq_false_iff, Bool.or_eq_false_iff, Option.isNone_some, Option.isSome_some, Option.isNone_none, Option.isSome_none, Int.not_lt, Int.not_le, beq_iff_eq, beq_eq_false_iff_ne, bne_iff_ne, ne_eq, Bool.not_not, Decidable.not_not] at h34
          have hbad : ¬ okS rs xss := fun g => h34 (hp1.2 (by have := (g.2.2 k hkl).1; rwa [hxg] at this))
          refine JO.no rfl rfl rfl ?_
          refine JO.no rfl rfl rfl ?_
          refine JO.no rfl rfl rfl ?_
          refine JO.pur rfl rfl rfl (Pur.pickT rfl rfl) ?_
          refine JO.nil ?_
          refine J.condT rfl rfl ?_
          refine J.seq rfl ?_
          refine J.region rfl ?_
          refine JO.pur rfl rfl rfl (Pur.assign rfl) ?_
          refine JO.nil ?_
          refine J.ret rfl rfl ?_
          refine ⟨_, _, ⟨rfl, rfl⟩, congrArg Value.bool ((decide_eq_false hbad).symm), SubC.out⟩
        · try simp only [decide_eq_true_eq, decide_eq_false_iff_not, Bool.not_eq_true', Bool.not_eq_false', Bool.and_eq_true, Bool.or_eq_true, Bool.and_eq_false_iff, Bool.or_eq_false_iff, Option.isNone_some, Option.isSome_some, Option.isNone_none, Option.isSome_none, Int.not_lt, Int.not_le, beq_iff_eq, beq_eq_false_iff_ne, bne_iff_ne, ne_eq, Bool.not_not, Decidable.not_not] at h34
          have hsome := hp1.1 h34
          have hpv := hp2 hsome
          refine JO.pur rfl rfl rfl (Pur.move rfl) ?_
          refine JO.pur rfl rfl rfl (Pur.move rfl) ?_
          refine JO.pur rfl rfl rfl (Pur.leq rfl rfl) ?_
          refine JO.pur rfl rfl rfl (Pur.pickF rfl rfl) ?_
          refine JO.nil ?_
          refine J.splitB 38 rfl (fun h38 => ?_) (fun h38 => ?_)
          · try simp only [decide_eq_true_eq, decide_eq_false_iff_not, Bool.not_eq_true', Bool.not_eq_false', Bool.and_eq_true, Bool.or_eq_true, Bool.and_eq_false_iff, Bool.or_eq_false_iff, Option.isNone_some, Option.isSome_some, Option.isNone_none, Option.isSome_none, Int.not_lt, Int.not_le, beq_iff_eq, beq_eq_false_iff_ne, bne_iff_ne, ne_eq, Bool.not_not, Decidable.not_not] at h38
            have hbad : ¬ okS rs xss := fun g => by have := (g.2.2 k hkl).2; rw [hxg] at this; rw [hpv] at h38; exact absurd h38 (Int.not_le.2 this)
            refine J.condT rfl rfl ?_
            refine J.seq rfl ?_
            refine J.region rfl ?_
            refine JO.pur rfl rfl rfl (Pur.assign rfl) ?_
            refine JO.nil ?_
            refine J.ret rfl rfl ?_
            refine ⟨_, _, ⟨rfl, rfl⟩, congrArg Value.bool ((decide_eq_false hbad).symm), SubC.out⟩
          · try simp only [decide_eq_true_eq, decide_eq_false_iff_not, Bool.not_eq_true', Bool.not_eq_false', Bool.and_eq_true, Bool.or_eq_true, Bool.and_eq_false_iff, Bool.or_eq_false_iff, Option.isNone_some, Option.isSome_some, Option.isNone_none, Option.isSome_none, Int.not_lt, Int.not_le, beq_iff_eq, beq_eq_false_iff_ne, bne_iff_ne, ne_eq, Bool.not_not, Decidable.not_not] at h38
            have hlt : lastS rs xss k < atS rs x := by rw [hpv] at h38; exact h38
            have hok2 : ∀ j, j < k + 1 → stepS rs xss j := fun j hj => by
              rcases Nat.lt_or_ge j k with h | h
              · exact hok j h
              · obtain rfl : j = k := by omega
                exact ⟨by rw [hxg]; exact hsome, by rw [hxg]; exact hlt⟩
            have hls : (plV rs x).1 = lastS rs xss (k + 1) := by unfold lastS; rw [if_neg (by omega), Nat.add_sub_cancel, hxg, hpv]
            refine J.condF rfl rfl ?_
            refine J.skip rfl ?_
            refine J.region rfl ?_
            refine JO.pur rfl rfl rfl (Pur.move rfl) ?_
            refine JO.pur rfl rfl rfl (Pur.assign rfl) ?_
            refine JO.nil ?_
            refine J.inBlock ?_
            refine J.region rfl ?_
            refine JO.pur rfl rfl rfl (Pur.add rfl rfl (wr64 (by omega))) ?_
            refine JO.pur rfl rfl rfl (Pur.move rfl) ?_
            refine JO.nil ?_
            exact J.weaken (.cons rfl (congrArg (Value.int .i64) hls) (.cons rfl (congrArg (Value.int .i64) (by first | rfl | (dsimp only; omega))) (.cons rfl rfl (.cons rfl rfl (.cons rfl rfl .nil))))) (by first | exact fun _ h => h | exact SubC.out | (dsimp only; exact SubC.out)) (ihk (k + 1) ⟨by omega, hok2⟩ (by omega))
      · try simp only [decide_eq_true_eq, decide_eq_false_iff_not, Bool.not_eq_true', Bool.not_eq_false', Bool.and_eq_true, Bool.or_eq_true, Bool.and_eq_false_iff, Bool.or_eq_false_iff, Option.isNone_some, Option.isSome_some, Option.isNone_none, Option.isSome_none, Int.not_lt, Int.not_le, beq_iff_eq, beq_eq_false_iff_ne, bne_iff_ne, ne_eq, Bool.not_not, Decidable.not_not] at h22
        refine J.condF rfl rfl ?_
        refine J.exit rfl rfl ?_
        refine J.seq rfl ?_
        refine J.region rfl ?_
        refine JO.pur rfl rfl rfl (Pur.assign rfl) ?_
        refine JO.nil ?_
        refine J.ret rfl rfl ?_
        refine ⟨_, _, ⟨rfl, rfl⟩, congrArg Value.bool ((decide_eq_true ⟨hgd, hlb, fun j hj => hok j (by omega)⟩).symm), SubC.out⟩

theorem rs_Valid {L : List Asn} {a la : Option Addr} {n cap ln lc : Nat} {rs : List Rg} {hs : List Hdr} {xss : List (List Int)} [SlIn rgE L a rs] [SlIn hE L la hs] [RowsR intE L hs xss] (hn : n = rs.length) (hl : ln = hs.length) :
    CallS Try.prog 27 [.agg #[.slice a n cap, .slice la ln lc]].toArray L (fun v M => v = .bool (decide (okS rs xss)) ∧ M = L) := by
  subst hn
  subst hl
  refine CallS.fact (fun h s => RowsR.len (E := intE) (hs := hs) (xss := xss) s) fun hnn => ?_
  have hhl : hs.length = xss.length := rows_len hnn
  refine CallS.ent ?_
  refine CallS.enter Try.func27 rfl rfl rfl rfl rfl ?_
  refine J.seq rfl ?_
  refine J.region rfl ?_
  refine JO.eff rfl rfl rfl (Eff.box (cs := [_, _]) rfl rfl) ?_
  rintro _ _ ⟨b1, rfl, rfl⟩
  refine JO.pur rfl rfl rfl (Pur.assign rfl) ?_
  refine JO.nil ?_
  refine J.seq rfl ?_
  refine J.seq rfl ?_
  refine J.region rfl ?_
  refine JO.pur rfl rfl rfl (Pur.fieldAddr rfl) ?_
  refine JO.pur rfl rfl rfl (Pur.loadA rfl rfl rfl (CellsIn.sub1 rfl)) ?_
  refine JO.effR rfl rfl rfl (Eff.call rfl (r_Valid (rs := rs) rfl)) ?_
  refine JO.pur rfl rfl rfl (Pur.not rfl) ?_
  refine JO.pur rfl rfl rfl (Pur.move rfl) ?_
  refine JO.splitB 10 rfl (fun h10 => ?_) (fun h10 => ?_)
  · try simp only [decide_eq_true_eq, decide_eq_false_iff_not, Bool.not_eq_true', Bool.not_eq_false', Bool.and_eq_true, Bool.or_eq_true, Bool.and_eq_false_iff, Bool.or_eq_false_iff, Option.isNone_some, Option.isSome_some, Option.isNone_none, Option.isSome_none, Int.not_lt, Int.not_le, beq_iff_eq, beq_eq_false_iff_ne, bne_iff_ne, ne_eq, Bool.not_not, Decidable.not_not] at h10
    refine JO.no rfl rfl rfl ?_
    refine JO.no rfl rfl rfl ?_
    refine JO.no rfl rfl rfl ?_
    refine JO.no rfl rfl rfl ?_
    refine JO.pur rfl rfl rfl (Pur.pickT rfl rfl) ?_
    refine JO.nil ?_
    refine J.condT rfl rfl ?_
    refine J.seq rfl ?_
    refine J.region rfl ?_
    refine JO.pur rfl rfl rfl (Pur.assign rfl) ?_
    refine JO.nil ?_
    refine J.ret rfl rfl ?_
    refine ⟨_, _, ⟨rfl, rfl⟩, congrArg Value.bool ((decide_eq_false (fun g => h10 g.1)).symm), SubC.out⟩
  · try simp only [decide_eq_true_eq, decide_eq_false_iff_not, Bool.not_eq_true', Bool.not_eq_false', Bool.and_eq_true, Bool.or_eq_true, Bool.and_eq_false_iff, Bool.or_eq_false_iff, Option.isNone_some, Option.isSome_some, Option.isNone_none, Option.isSome_none, Int.not_lt, Int.not_le, beq_iff_eq, beq_eq_false_iff_ne, bne_iff_ne, ne_eq, Bool.not_not, Decidable.not_not] at h10
    have hgd : okD rs := h10
    refine JO.pur rfl rfl rfl (Pur.fieldAddr rfl) ?_
    refine JO.pur rfl rfl rfl (Pur.load rfl (CellIn.blk rfl)) ?_
    refine JO.pur rfl rfl rfl (Pur.len rfl) ?_
    refine JO.pur rfl rfl rfl (Pur.gtr rfl rfl) ?_
    refine JO.pur rfl rfl rfl (Pur.pickF rfl rfl) ?_
    refine JO.nil ?_
    refine J.splitB 15 rfl (fun h15 => ?_) (fun h15 => ?_)
    · try simp only [decide_eq_true_eq, decide_eq_false_iff_not, Bool.not_eq_true', Bool.not_eq_false', Bool.and_eq_true, Bool.or_eq_true, Bool.and_eq_false_iff, Bool.or_eq_false_iff, Option.isNone_some, Option.isSome_some, Option.isNone_none, Option.isSome_none, Int.not_lt, Int.not_le, beq_iff_eq, beq_eq_false_iff_ne, bne_iff_ne, ne_eq, Bool.not_not, Decidable.not_not] at h15
      refine J.condT rfl rfl ?_
      refine J.seq rfl ?_
      refine J.region rfl ?_
      refine JO.pur rfl rfl rfl (Pur.assign rfl) ?_
      refine JO.nil ?_
      refine J.ret rfl rfl ?_
      refine ⟨_, _, ⟨rfl, rfl⟩, congrArg Value.bool ((decide_eq_false (fun g => by have := g.2.1; omega)).symm), SubC.out⟩
    · try simp only [decide_eq_true_eq, decide_eq_false_iff_not, Bool.not_eq_true', Bool.not_eq_false', Bool.and_eq_true, Bool.or_eq_true, Bool.and_eq_false_iff, Bool.or_eq_false_iff, Option.isNone_some, Option.isSome_some, Option.isNone_none, Option.isSome_none, Int.not_lt, Int.not_le, beq_iff_eq, beq_eq_false_iff_ne, bne_iff_ne, ne_eq, Bool.not_not, Decidable.not_not] at h15
      have hlb : xss.length ≤ 400 := by omega
      refine J.condF rfl rfl ?_
      refine J.skip rfl ?_
      refine J.seq rfl ?_
      refine J.region rfl ?_
      refine JO.pur rfl rfl rfl (Pur.fieldAddr rfl) ?_
      refine JO.pur rfl rfl rfl (Pur.loadA rfl rfl rfl (CellsIn.sub1 rfl)) ?_
      refine JO.pur rfl rfl rfl (Pur.fieldAddr rfl) ?_
      refine JO.pur rfl rfl rfl (Pur.load rfl (CellIn.blk rfl)) ?_
      refine JO.eff rfl rfl rfl (Eff.call rfl (places_ok (rs := rs) (hs := hs) (xss := xss) rfl rfl (by omega))) ?_
      rintro _ _ ⟨a21, c21, rfl, rfl⟩
      refine JO.pur rfl rfl rfl (Pur.move rfl) ?_
      refine JO.pur rfl rfl rfl (Pur.extract rfl rfl) ?_
      refine JO.pur rfl rfl rfl (Pur.extract rfl rfl) ?_
      refine JO.setv (u' := .bool (okN rs xss 1)) 23 rfl (congrArg Value.bool (okN_one rs xss).symm) ?_
      refine JO.pur rfl rfl rfl (Pur.assign rfl) ?_
      refine JO.pur rfl rfl rfl (Pur.assign rfl) ?_
      refine JO.nil ?_
      refine J.seq rfl ?_
      refine J.seq rfl ?_
      have hpl : (plcV rs xss).1.length ≤ 400 := by unfold plcV; split <;> simp [hlb]
      refine J.region rfl ?_
      refine JO.pur rfl rfl rfl (Pur.assign rfl) ?_
      refine JO.nil ?_
      refine J.block rfl ?_
      refine J.loopF (ι := Nat) (fun q => 1 ≤ q ∧ q ≤ (plcV rs xss).1.length + 1) (fun q => [(4, .bool (okN rs xss q)), (5, .int .i64 (q : Int))]) [(3, _)] (fun q => sl intE a21 c21 (plcV rs xss).1 :: L) (fun q => (plcV rs xss).1.length + 1 - q) 1 rfl (.cons rfl rfl .nil) (.cons rfl rfl (.cons rfl rfl .nil)) (by first | exact fun _ h => h | exact SubC.out | (dsimp only; exact SubC.out)) ⟨Nat.le_refl _, by omega⟩ ?_
      rintro k ⟨hk1, hk⟩ ihk
      try dsimp only
      refine J.seq rfl ?_
      refine J.seq rfl ?_
      refine J.region rfl ?_
      refine JO.pur rfl rfl rfl (Pur.move rfl) ?_
      refine JO.pur rfl rfl rfl (Pur.move rfl) ?_
      refine JO.splitB 25 rfl (fun h25 => ?_) (fun h25 => ?_)
      · try simp only [decide_eq_true_eq, decide_eq_false_iff_not, Bool.not_eq_true', Bool.not_eq_false', Bool.and_eq_true, Bool.or_eq_true, Bool.and_eq_false_iff, Bool.or_eq_false_iff, Option.isNone_some, Option.isSome_some, Option.isNone_none, Option.isSome_none, Int.not_lt, Int.not_le, beq_iff_eq, beq_eq_false_iff_ne, bne_iff_ne, ne_eq, Bool.not_not, Decidable.not_not] at h25
        refine JO.pur rfl rfl rfl (Pur.move rfl) ?_
        refine JO.pur rfl rfl rfl (Pur.move rfl) ?_
        refine JO.pur rfl rfl rfl (Pur.len rfl) ?_
        refine JO.pur rfl rfl rfl (Pur.lss rfl rfl) ?_
        refine JO.pur rfl rfl rfl (Pur.pickT rfl rfl) ?_
        refine JO.nil ?_
        refine J.splitB 30 rfl (fun h30 => ?_) (fun h30 => ?_)
        · try simp only [decide_eq_true_eq, decide_eq_false_iff_not, Bool.not_eq_true', Bool.not_eq_false', Bool.and_eq_true, Bool.or_eq_true, Bool.and_eq_false_iff, Bool.or_eq_false_iff, Option.isNone_some, Option.isSome_some, Option.isNone_none, Option.isSome_none, Int.not_lt, Int.not_le, beq_iff_eq, beq_eq_false_iff_ne, bne_iff_ne, ne_eq, Bool.not_not, Decidable.not_not] at h30
          have hkl : k < (plcV rs xss).1.length := by omega
          have hpj : ((k : Int) - 1) = ((k - 1 : Nat) : Int) := by omega
          refine J.condT rfl rfl ?_
          refine J.skip rfl ?_
          refine J.seq rfl ?_
          refine J.block rfl ?_
          refine J.quiet rfl Try.mixed (by kernel_rfl) ?_
          refine JQ.pur rfl rfl rfl (Pur.move rfl) ?_
          refine JQ.pur rfl rfl rfl (Pur.move rfl) ?_
          refine JQ.pur rfl rfl rfl (Pur.sub rfl rfl (wr64 (by omega))) ?_
          refine JQ.pur rfl rfl rfl (Pur.idx rfl rfl rfl (by first | rfl | (simp; done) | omega) hpj (by omega)) ?_
          refine JQ.pur rfl rfl rfl (Pur.load rfl (CellIn.el0 rfl (getD_at' 0 (by omega)) rfl)) ?_
          refine JQ.pur rfl rfl rfl (Pur.move rfl) ?_
          refine JQ.pur rfl rfl rfl (Pur.move rfl) ?_
          refine JQ.pur rfl rfl rfl (Pur.idx rfl rfl rfl (by first | rfl | (simp; done) | omega) rfl (by omega)) ?_
          refine JQ.pur rfl rfl rfl (Pur.load rfl (CellIn.el0 rfl (getD_at' 0 (by omega)) rfl)) ?_
          refine JQ.pur rfl rfl rfl (Pur.lss rfl rfl) ?_
          refine JQ.pur rfl rfl rfl (Pur.assign rfl) ?_
          refine JQ.nil ?_
          refine J.inBlock ?_
          refine J.region rfl ?_
          refine JO.pur rfl rfl rfl (Pur.move rfl) ?_
          refine JO.pur rfl rfl rfl (Pur.add rfl rfl (wr64 (by omega))) ?_
          refine JO.pur rfl rfl rfl (Pur.assign rfl) ?_
          refine JO.nil ?_
          exact J.weaken (.cons rfl (congrArg Value.bool (okN_succ h25 hk1 (by omega)).symm) (.cons rfl (congrArg (Value.int .i64) (by first | rfl | (dsimp only; omega))) (.cons rfl rfl .nil))) (by first | exact fun _ h => h | exact SubC.out | (dsimp only; exact SubC.out)) (ihk (k + 1) ⟨by omega, by omega⟩ (by omega))
        · try simp only [decide_eq_true_eq, decide_eq_false_iff_not, Bool.not_eq_true', Bool.not_eq_false', Bool.and_eq_true, Bool.or_eq_true, Bool.and_eq_false_iff, Bool.or_eq_false_iff, Option.isNone_some, Option.isSome_some, Option.isNone_none, Option.isSome_none, Int.not_lt, Int.not_le, beq_iff_eq, beq_eq_false_iff_ne, bne_iff_ne, ne_eq, Bool.not_not, Decidable.not_not] at h30
          refine J.condF rfl rfl ?_
          refine J.exit rfl rfl ?_
          refine J.seq rfl ?_
          refine J.region rfl ?_
          refine JO.pur rfl rfl rfl (Pur.move rfl) ?_
          refine JO.pur rfl rfl rfl (Pur.assign rfl) ?_
          refine JO.nil ?_
          refine J.ret rfl rfl ?_
          refine ⟨_, _, ⟨rfl, rfl⟩, congrArg Value.bool (okN_end hgd hlb (.inr (by omega))), SubC.out⟩
      · try simp only [decide_eq_true_eq, decide_eq_false_iff_not, Bool.not_eq_true', Bool.not_eq_false', Bool.and_eq_true, Bool.or_eq_true, Bool.and_eq_false_iff, Bool.or_eq_false_iff, Option.isNone_some, Option.isSome_some, Option.isNone_none, Option.isSome_none, Int.not_lt, Int.not_le, beq_iff_eq, beq_eq_false_iff_ne, bne_iff_ne, ne_eq, Bool.not_not, Decidable.not_not] at h25
        refine JO.no rfl rfl rfl ?_
        refine JO.no rfl rfl rfl ?_
        refine JO.no rfl rfl rfl ?_
        refine JO.no rfl rfl rfl ?_
        refine JO.pur rfl rfl rfl (Pur.pickF rfl rfl) ?_
        refine JO.nil ?_
        refine J.condF rfl rfl ?_
        refine J.exit rfl rfl ?_
        refine J.seq rfl ?_
        refine J.region rfl ?_
        refine JO.pur rfl rfl rfl (Pur.move rfl) ?_
        refine JO.pur rfl rfl rfl (Pur.assign rfl) ?_
        refine JO.nil ?_
        refine J.ret rfl rfl ?_
        refine ⟨_, _, ⟨rfl, rfl⟩, congrArg Value.bool (okN_end hgd hlb (.inl h25)), SubC.out⟩

end Go.Proofs.Ytnhippfllgnngaa
