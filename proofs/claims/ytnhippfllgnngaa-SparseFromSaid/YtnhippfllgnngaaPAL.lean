/-
  A part of the proof of the claim that this folder bears.
-/
import Derived.Test.YtnhippfllgnngaaPAK
import Derived.Test.YtnhippfllgnngaaPAF
import Derived.Test.YtnhippfllgnngaaPAJ
import Derived.Test.YtnhippfllgnngaaKD
/- The text SD2. -/
set_option linter.unusedVariables false
set_option linter.unusedSimpArgs false
set_option maxRecDepth 10000
namespace Go.Proofs.Ytnhippfllgnngaa
open Go Go.KK Dm

theorem cloneI {L : List Asn} {a : Option Addr} {n cap : Nat} {xs : List Int} [SlIn intE L a xs] (hn : n = xs.length) (hb : xs.length ≤ 17592186044416) (hnil : a = none → n = 0 ∧ cap = 0) :
    CallS Try.prog 110 [.slice a n cap].toArray L (fun v M => ∃ a' cap', (v = .slice a' n cap' ∧ (a = none → a' = none)) ∧ M = sl intE a' cap' xs :: L) := by
  subst hn
  refine CallS.ent ?_
  refine CallS.enter Try.func110 rfl rfl rfl rfl rfl ?_
  refine J.seq rfl ?_
  refine J.region rfl ?_
  refine JO.pur rfl rfl rfl (Pur.assign rfl) ?_
  refine JO.nil ?_
  refine J.seq rfl ?_
  refine J.seq rfl ?_
  refine J.region rfl ?_
  refine JO.pur rfl rfl rfl (Pur.move rfl) ?_
  refine JO.pur rfl rfl rfl (Pur.eqlSlNil rfl) ?_
  refine JO.nil ?_
  refine J.splitB 4 rfl (fun h4 => ?_) (fun h4 => ?_)
  · try simp only [decide_eq_true_eq, decide_eq_false_iff_not, Bool.not_eq_true', Bool.not_eq_false', Bool.and_eq_true, Bool.or_eq_true, Bool.and_eq_false_iff, Bool.or_eq_false_iff, Option.isNone_some, Option.isSome_some, Option.isNone_none, Option.isSome_none, Int.not_lt, Int.not_le, beq_iff_eq, beq_eq_false_iff_ne, bne_iff_ne, ne_eq, Bool.not_not, Decidable.not_not] at h4
    have ha : a = none := by cases a with | none => rfl | some p => simp at h4
    subst ha
    obtain ⟨e1, e2⟩ := hnil rfl
    have e3 : xs = [] := List.eq_nil_of_length_eq_zero (by omega)
    subst e2; subst e3
    refine J.condT rfl rfl ?_
    refine J.seq rfl ?_
    refine J.region rfl ?_
    refine JO.pur rfl rfl rfl (Pur.assign rfl) ?_
    refine JO.nil ?_
    refine J.ret rfl rfl ?_
    exact ⟨_, _, ⟨none, 0, ⟨rfl, fun _ => rfl⟩, rfl⟩, rfl, fun h hs => sl_nil_new hs⟩
  · try simp only [decide_eq_true_eq, decide_eq_false_iff_not, Bool.not_eq_true', Bool.not_eq_false', Bool.and_eq_true, Bool.or_eq_true, Bool.and_eq_false_iff, Bool.or_eq_false_iff, Option.isNone_some, Option.isSome_some, Option.isNone_none, Option.isSome_none, Int.not_lt, Int.not_le, beq_iff_eq, beq_eq_false_iff_ne, bne_iff_ne, ne_eq, Bool.not_not, Decidable.not_not] at h4
    refine J.condF rfl rfl ?_
    refine J.skip rfl ?_
    refine J.seq rfl ?_
    refine J.region rfl ?_
    refine JO.eff rfl rfl rfl (Eff.buildSlice intE [] rfl rfl rfl rfl rfl rfl rfl) ?_
    rintro _ _ ⟨b5, rfl, -, rfl⟩
    refine JO.pur rfl rfl rfl (Pur.move rfl) ?_
    refine JO.eff rfl rfl rfl (Eff.append rfl rfl rfl rfl (by first | rfl | omega | (simp; done) | (simp; omega)) (by first | rfl | omega | (simp; done) | (simp; omega)) (by decide) (by simp; omega) (by simp; omega) hnil) ?_
    rintro _ _ ⟨a7, c7, rfl, rfl⟩
    refine JO.pur rfl rfl rfl (Pur.assign rfl) ?_
    refine JO.nil ?_
    refine J.ret rfl rfl ?_
    refine ⟨_, _, ⟨a7, c7, ⟨rfl, fun e => ?_⟩, rfl⟩, ?_, fun h hs => ?_⟩
    · rw [e] at h4; simp at h4
    · show Value.slice _ _ _ = Value.slice _ _ _
      simp
    · simpa using hs

def stE : Enc ByteArray := ⟨9, 1, fun s => [.string s], fun _ => rfl, fun s v h => by
  simp only [List.mem_cons, List.not_mem_nil, or_false] at h; rcases h with rfl; rfl⟩
def domE : Enc Hdr := hdrE 24
theorem plD_can {d : List Rg} (h : okRs d) (hd : d ≠ []) (x : List Int) : plD (canD d) x = plD d x := by
  have key : ∀ n, plD (canD d) x = some n ↔ plD d x = some n := fun n => by rw [plD_iff (canD_ok h), plD_iff h, canD_idx h hd]
  cases e : plD d x with
  | none =>
    cases e2 : plD (canD d) x with
    | none => rfl
    | some n => have := (key n).1 e2; rw [e] at this; cases this
  | some n => exact (key n).2 e
theorem okD_ne {rs : List Rg} (h : okD rs) : rs ≠ [] := fun e => by have := h.1; rw [e] at this; simp at this
/-- The domain that the code has for the columns. -/
theorem col_ok {rs : List Rg} (h : okD rs) : okD (canD rs).reverse := okD_rev.2 (canD_okD h)
theorem col_idx {rs : List Rg} (h : okD rs) : idx (canD rs).reverse = idx rs.reverse := by
  rw [← canD_rev]; exact canD_idx (okD_rev.2 h).2.2.1 (okD_ne (okD_rev.2 h))
theorem col_pl {rs : List Rg} (h : okD rs) (x : List Int) : plD (canD rs).reverse x = plD rs.reverse x := by
  rw [← canD_rev]; exact plD_can (okD_rev.2 h).2.2.1 (okD_ne (okD_rev.2 h)) x
theorem plV_off {rs : List Rg} (h : okD rs) (x : List Int) : (plV rs x).1 = (((plD rs x).getD 0 : Nat) : Int) ∧ decide ((plV rs x).2 = 0) = (plD rs x).isSome := by
  unfold plV
  rw [if_neg (not_not_intro h)]
  by_cases hl : x.length ≠ rs.length
  · rw [if_pos hl]
    have : plD rs x = none := by unfold plD; rw [if_neg hl]
    rw [this]; exact ⟨rfl, rfl⟩
  · rw [if_neg hl]
    cases plD rs x <;> exact ⟨rfl, rfl⟩
theorem lValid {L : List Asn} {lay : ByteArray} :
    CallS Try.prog 74 [.string lay].toArray L (fun v M => v = .bool (decide (okL lay)) ∧ M = L) := by
  refine CallS.ent ?_
  refine CallS.enter Try.func74 rfl rfl rfl rfl rfl ?_
  refine J.seq rfl ?_
  refine J.region rfl ?_
  refine JO.pur rfl rfl rfl (Pur.assign rfl) ?_
  refine JO.nil ?_
  refine J.seq rfl ?_
  refine J.region rfl ?_
  refine JO.pur rfl rfl rfl (Pur.move rfl) ?_
  refine JO.pur rfl rfl rfl (Pur.eqlT rfl rfl) ?_
  refine JO.pur rfl rfl rfl (Pur.move rfl) ?_
  refine JO.splitB 5 rfl (fun h5 => ?_) (fun h5 => ?_)
  · try simp only [decide_eq_true_eq, decide_eq_false_iff_not, Bool.not_eq_true', Bool.not_eq_false', Bool.and_eq_true, Bool.or_eq_true, Bool.and_eq_false_iff, Bool.or_eq_false_iff, Option.isNone_some, Option.isSome_some, Option.isNone_none, Option.isSome_none, Int.not_lt, Int.not_le, beq_iff_eq, beq_eq_false_iff_ne, bne_iff_ne, ne_eq, Bool.not_not, Decidable.not_not] at h5
    refine JO.no rfl rfl rfl ?_
    refine JO.no rfl rfl rfl ?_
    refine JO.pur rfl rfl rfl (Pur.pickT rfl rfl) ?_
    refine JO.pur rfl rfl rfl (Pur.assign rfl) ?_
    refine JO.nil ?_
    refine J.ret rfl rfl ?_
    refine ⟨_, _, ⟨rfl, rfl⟩, congrArg Value.bool (by unfold okL rowS colS; first | exact (decide_eq_true (.inl ‹_›)).symm | exact decide_eq_decide.2 ⟨fun g => .inr g, fun g => g.elim (fun g => absurd g ‹_›) id⟩), SubC.out⟩
  · try simp only [decide_eq_true_eq, decide_eq_false_iff_not, Bool.not_eq_true', Bool.not_eq_false', Bool.and_eq_true, Bool.or_eq_true, Bool.and_eq_false_iff, Bool.or_eq_false_iff, Option.isNone_some, Option.isSome_some, Option.isNone_none, Option.isSome_none, Int.not_lt, Int.not_le, beq_iff_eq, beq_eq_false_iff_ne, bne_iff_ne, ne_eq, Bool.not_not, Decidable.not_not] at h5
    refine JO.pur rfl rfl rfl (Pur.move rfl) ?_
    refine JO.pur rfl rfl rfl (Pur.eqlT rfl rfl) ?_
    refine JO.pur rfl rfl rfl (Pur.pickF rfl rfl) ?_
    refine JO.pur rfl rfl rfl (Pur.assign rfl) ?_
    refine JO.nil ?_
    refine J.ret rfl rfl ?_
    refine ⟨_, _, ⟨rfl, rfl⟩, congrArg Value.bool (by unfold okL rowS colS; first | exact (decide_eq_true (.inl ‹_›)).symm | exact decide_eq_decide.2 ⟨fun g => .inr g, fun g => g.elim (fun g => absurd g ‹_›) id⟩), SubC.out⟩

theorem rValid {L : List Asn} {lay : ByteArray} :
    CallS Try.prog 75 [.string lay].toArray L (fun v M => v = .bool (decide (okL lay)) ∧ M = L) := by
  refine CallS.ent ?_
  refine CallS.enter Try.func75 rfl rfl rfl rfl rfl ?_
  refine J.seq rfl ?_
  refine J.region rfl ?_
  refine JO.pur rfl rfl rfl (Pur.assign rfl) ?_
  refine JO.nil ?_
  refine J.seq rfl ?_
  refine J.region rfl ?_
  refine JO.pur rfl rfl rfl (Pur.move rfl) ?_
  refine JO.pur rfl rfl rfl (Pur.eqlT rfl rfl) ?_
  refine JO.pur rfl rfl rfl (Pur.move rfl) ?_
  refine JO.splitB 5 rfl (fun h5 => ?_) (fun h5 => ?_)
  · try simp only [decide_eq_true_eq, decide_eq_false_iff_not, Bool.not_eq_true', Bool.not_eq_false', Bool.and_eq_true, Bool.or_eq_true, Bool.and_eq_false_iff, Bool.or_eq_false_iff, Option.isNone_some, Option.isSome_some, Option.isNone_none, Option.isSome_none, Int.not_lt, Int.not_le, beq_iff_eq, beq_eq_false_iff_ne, bne_iff_ne, ne_eq, Bool.not_not, Decidable.not_not] at h5
    refine JO.no rfl rfl rfl ?_
    refine JO.no rfl rfl rfl ?_
    refine JO.pur rfl rfl rfl (Pur.pickT rfl rfl) ?_
    refine JO.pur rfl rfl rfl (Pur.assign rfl) ?_
    refine JO.nil ?_
    refine J.ret rfl rfl ?_
    refine ⟨_, _, ⟨rfl, rfl⟩, congrArg Value.bool (by unfold okL rowS colS; first | exact (decide_eq_true (.inl ‹_›)).symm | exact decide_eq_decide.2 ⟨fun g => .inr g, fun g => g.elim (fun g => absurd g ‹_›) id⟩), SubC.out⟩
  · try simp only [decide_eq_true_eq, decide_eq_false_iff_not, Bool.not_eq_true', Bool.not_eq_false', Bool.and_eq_true, Bool.or_eq_true, Bool.and_eq_false_iff, Bool.or_eq_false_iff, Option.isNone_some, Option.isSome_some, Option.isNone_none, Option.isSome_none, Int.not_lt, Int.not_le, beq_iff_eq, beq_eq_false_iff_ne, bne_iff_ne, ne_eq, Bool.not_not, Decidable.not_not] at h5
    refine JO.pur rfl rfl rfl (Pur.move rfl) ?_
    refine JO.pur rfl rfl rfl (Pur.eqlT rfl rfl) ?_
    refine JO.pur rfl rfl rfl (Pur.pickF rfl rfl) ?_
    refine JO.pur rfl rfl rfl (Pur.assign rfl) ?_
    refine JO.nil ?_
    refine J.ret rfl rfl ?_
    refine ⟨_, _, ⟨rfl, rfl⟩, congrArg Value.bool (by unfold okL rowS colS; first | exact (decide_eq_true (.inl ‹_›)).symm | exact decide_eq_decide.2 ⟨fun g => .inr g, fun g => g.elim (fun g => absurd g ‹_›) id⟩), SubC.out⟩

def askV (ss : List ByteArray) (ds : List (List Rg)) : Int := if ¬ (∀ z ∈ ss, okL z) then 60 else if ¬ (∀ d ∈ ds, okD d) then 40 else 0
theorem lAsked {L : List Asn} {a b : Option Addr} {n cap m cq : Nat} {ss : List ByteArray} {hds : List Hdr} {ds : List (List Rg)} [SlIn stE L a ss] [SlIn domE L b hds] (hn : n = ss.length) (hm : m = hds.length) (hl : hds.length = ds.length) (hnb : ss.length ≤ 10) (hmb : hds.length ≤ 10) (hsl : ∀ (i : Nat) (hd : Hdr) (rs : List Rg), hds[i]? = some hd → ds[i]? = some rs → SlIn rgE L hd.a rs ∧ hd.n = rs.length) :
    CallS Try.prog 131 [.slice a n cap, .slice b m cq].toArray L (fun v M => v = .int .i64 (askV ss ds) ∧ M = L) := by
  subst hn
  subst hm
  refine CallS.ent ?_
  refine CallS.enter Try.func131 rfl rfl rfl rfl rfl ?_
  refine J.seq rfl ?_
  refine J.region rfl ?_
  refine JO.pur rfl rfl rfl (Pur.assign rfl) ?_
  refine JO.nil ?_
  refine J.seq rfl ?_
  refine J.seq rfl ?_
  refine J.region rfl ?_
  refine JO.pur rfl rfl rfl (Pur.move rfl) ?_
  refine JO.pur rfl rfl rfl (Pur.len rfl) ?_
  refine JO.pur rfl rfl rfl (Pur.move rfl) ?_
  refine JO.nil ?_
  refine J.block rfl ?_
  refine J.loopF (ι := Nat) (fun q => q ≤ ss.length ∧ ∀ j, j < q → ∀ z, ss[j]? = some z → okL z) (fun q => [(11, .int .i64 (q : Int))]) [(1, _), (9, _), (10, _)] (fun q => L) (fun q => ss.length - q) 0 rfl (.cons rfl rfl (.cons rfl rfl (.cons rfl rfl .nil))) (.cons rfl rfl .nil) (by first | exact fun _ h => h | exact SubC.out | (dsimp only; exact SubC.out)) ⟨Nat.zero_le _, fun j hj => by omega⟩ ?_
  rintro k ⟨hk, hok⟩ ih0
  try dsimp only
  refine J.seq rfl ?_
  refine J.region rfl ?_
  refine JO.pur rfl rfl rfl (Pur.lss rfl rfl) ?_
  refine JO.nil ?_
  refine J.seq rfl ?_
  refine J.splitB 12 rfl (fun h12 => ?_) (fun h12 => ?_)
  · try simp only [decide_eq_true_eq, decide_eq_false_iff_not, Bool.not_eq_true', Bool.not_eq_false', Bool.and_eq_true, Bool.or_eq_true, Bool.and_eq_false_iff, Bool.or_eq_false_iff, Option.isNone_some, Option.isSome_some, Option.isNone_none, Option.isSome_none, Int.not_lt, Int.not_le, beq_iff_eq, beq_eq_false_iff_ne, bne_iff_ne, ne_eq, Bool.not_not, Decidable.not_not] at h12
    have hkl : k < ss.length := by omega
    have hxk : ss[k]? = some ss[k] := List.getElem?_eq_getElem hkl
    refine J.condT rfl rfl ?_
    refine J.skip rfl ?_
    refine J.seq rfl ?_
    refine J.block rfl ?_
    refine J.seq rfl ?_
    refine J.region rfl ?_
    refine JO.pur rfl rfl rfl (Pur.idx rfl rfl rfl (by first | rfl | (simp; done) | omega) rfl (by omega)) ?_
    refine JO.pur rfl rfl rfl (Pur.load rfl (CellIn.el0 rfl hxk rfl)) ?_
    refine JO.setv (u' := .string ss[k]) 14 rfl rfl ?_
    refine JO.pur rfl rfl rfl (Pur.assign rfl) ?_
    refine JO.nil ?_
    refine J.seq rfl ?_
    refine J.region rfl ?_
    refine JO.pur rfl rfl rfl (Pur.move rfl) ?_
    refine JO.effR rfl rfl rfl (Eff.call rfl (lValid (lay := ss[k]))) ?_
    refine JO.pur rfl rfl rfl (Pur.not rfl) ?_
    refine JO.nil ?_
    refine J.splitB 17 rfl (fun h17 => ?_) (fun h17 => ?_)
    · try simp only [decide_eq_true_eq, decide_eq_false_iff_not, Bool.not_eq_true', Bool.not_eq_false', Bool.and_eq_true, Bool.or_eq_true, Bool.and_eq_false_iff, Bool.or_eq_false_iff, Option.isNone_some, Option.isSome_some, Option.isNone_none, Option.isSome_none, Int.not_lt, Int.not_le, beq_iff_eq, beq_eq_false_iff_ne, bne_iff_ne, ne_eq, Bool.not_not, Decidable.not_not] at h17
      have hbad : ¬ okL ss[k] := by simpa using h17
      refine J.condT rfl rfl ?_
      refine J.seq rfl ?_
      refine J.region rfl ?_
      refine JO.pur rfl rfl rfl (Pur.assign rfl) ?_
      refine JO.nil ?_
      refine J.ret rfl rfl ?_
      exact ⟨_, _, ⟨rfl, rfl⟩, congrArg (Value.int .i64) (show _ = askV ss ds by unfold askV; rw [if_pos (fun g => hbad (g _ (List.getElem_mem hkl)))]), SubC.out⟩
    · try simp only [decide_eq_true_eq, decide_eq_false_iff_not, Bool.not_eq_true', Bool.not_eq_false', Bool.and_eq_true, Bool.or_eq_true, Bool.and_eq_false_iff, Bool.or_eq_false_iff, Option.isNone_some, Option.isSome_some, Option.isNone_none, Option.isSome_none, Int.not_lt, Int.not_le, beq_iff_eq, beq_eq_false_iff_ne, bne_iff_ne, ne_eq, Bool.not_not, Decidable.not_not] at h17
      have hgd : okL ss[k] := by simpa using h17
      have hok2 : ∀ j, j < k + 1 → ∀ z, ss[j]? = some z → okL z := fun j hj z hs => by
        rcases Nat.lt_or_ge j k with h | h
        · exact hok j h z hs
        · obtain rfl : j = k := by omega
          rw [hxk] at hs; cases hs; exact hgd
      refine J.condF rfl rfl ?_
      refine J.skip rfl ?_
      refine J.inBlock ?_
      refine J.region rfl ?_
      refine JO.pur rfl rfl rfl (Pur.add rfl rfl (wr64 (by omega))) ?_
      refine JO.pur rfl rfl rfl (Pur.move rfl) ?_
      refine JO.nil ?_
      exact J.weaken (.cons rfl (congrArg (Value.int .i64) (by first | rfl | (dsimp only; omega))) (.cons rfl rfl (.cons rfl rfl (.cons rfl rfl .nil)))) (by first | exact fun _ h => h | exact SubC.out | (dsimp only; exact SubC.out)) (ih0 (k + 1) ⟨by omega, hok2⟩ (by omega))
  · try simp only [decide_eq_true_eq, decide_eq_false_iff_not, Bool.not_eq_true', Bool.not_eq_false', Bool.and_eq_true, Bool.or_eq_true, Bool.and_eq_false_iff, Bool.or_eq_false_iff, Option.isNone_some, Option.isSome_some, Option.isNone_none, Option.isSome_none, Int.not_lt, Int.not_le, beq_iff_eq, beq_eq_false_iff_ne, bne_iff_ne, ne_eq, Bool.not_not, Decidable.not_not] at h12
    have hall : ∀ z ∈ ss, okL z := fun z hs => by
      obtain ⟨j, hj, e⟩ := List.getElem_of_mem hs
      exact hok j (by omega) z (by rw [List.getElem?_eq_getElem hj, e])
    refine J.condF rfl rfl ?_
    refine J.exit rfl rfl ?_
    refine J.seq rfl ?_
    refine J.seq rfl ?_
    refine J.region rfl ?_
    refine JO.pur rfl rfl rfl (Pur.move rfl) ?_
    refine JO.pur rfl rfl rfl (Pur.len rfl) ?_
    refine JO.pur rfl rfl rfl (Pur.move rfl) ?_
    refine JO.nil ?_
    refine J.block rfl ?_
    refine J.loopF (ι := Nat) (fun q => q ≤ hds.length ∧ ∀ j, j < q → ∀ d, ds[j]? = some d → okD d) (fun q => [(21, .int .i64 (q : Int))]) [(19, _), (20, _)] (fun q => L) (fun q => hds.length - q) 0 rfl (.cons rfl rfl (.cons rfl rfl .nil)) (.cons rfl rfl .nil) (by first | exact fun _ h => h | exact SubC.out | (dsimp only; exact SubC.out)) ⟨Nat.zero_le _, fun j hj => by omega⟩ ?_
    rintro k ⟨hk, hdk⟩ ihk
    try dsimp only
    refine J.seq rfl ?_
    refine J.region rfl ?_
    refine JO.pur rfl rfl rfl (Pur.lss rfl rfl) ?_
    refine JO.nil ?_
    refine J.seq rfl ?_
    refine J.splitB 22 rfl (fun h22 => ?_) (fun h22 => ?_)
    · try simp only [decide_eq_true_eq, decide_eq_false_iff_not, Bool.not_eq_true', Bool.not_eq_false', Bool.and_eq_true, Bool.or_eq_true, Bool.and_eq_false_iff, Bool.or_eq_false_iff, Option.isNone_some, Option.isSome_some, Option.isNone_none, Option.isSome_none, Int.not_lt, Int.not_le, beq_iff_eq, beq_eq_false_iff_ne, bne_iff_ne, ne_eq, Bool.not_not, Decidable.not_not] at h22
      have hkl : k < hds.length := by omega
      have hxk : hds[k]? = some hds[k] := List.getElem?_eq_getElem hkl
      have hyk : ds[k]? = some (ds[k]'(by omega)) := List.getElem?_eq_getElem (by omega)
      obtain ⟨hs1, hs2⟩ := hsl k _ _ hxk hyk
      generalize hds[k] = hd at *
      generalize (ds[k]'(by omega)) = d at *
      refine J.condT rfl rfl ?_
      refine J.skip rfl ?_
      refine J.seq rfl ?_
      refine J.block rfl ?_
      refine J.seq rfl ?_
      refine J.region rfl ?_
      refine JO.pur rfl rfl rfl (Pur.idx rfl rfl rfl (by first | rfl | (simp; done) | omega) rfl (by omega)) ?_
      refine JO.pur rfl rfl rfl (Pur.loadA rfl rfl rfl (CellsIn.el rfl hxk)) ?_
      refine JO.setv (u' := .agg #[.slice hd.a hd.n hd.cap]) 24 rfl rfl ?_
      refine JO.eff rfl rfl rfl (Eff.alloc (cs := [_]) rfl) ?_
      rintro _ _ ⟨b8, rfl, rfl⟩
      refine JO.effN rfl rfl (Eff.storeBA (cs' := [_]) rfl rfl (by rfl) (by rfl) (by rfl)) ?_
      rintro _ _ ⟨rfl, rfl⟩
      refine JO.nil ?_
      refine J.seq rfl ?_
      refine J.region rfl ?_
      refine JO.pur rfl rfl rfl (Pur.loadA rfl rfl rfl CellsIn.blk) ?_
      refine JO.effR rfl rfl rfl (Eff.call rfl (d_Valid (rs := d) hs2)) ?_
      refine JO.pur rfl rfl rfl (Pur.not rfl) ?_
      refine JO.nil ?_
      refine J.splitB 27 rfl (fun h27 => ?_) (fun h27 => ?_)
      · try simp only [decide_eq_true_eq, decide_eq_false_iff_not, Bool.not_eq_true', Bool.not_eq_false', Bool.and_eq_true, Bool.or_eq_true, Bool.and_eq_false_iff, Bool.or_eq_false_iff, Option.isNone_some, Option.isSome_some, Option.isNone_none, Option.isSome_none, Int.not_lt, Int.not_le, beq_iff_eq, beq_eq_false_iff_ne, bne_iff_ne, ne_eq, Bool.not_not, Decidable.not_not] at h27
        have hbad : ¬ okD d := by simpa using h27
        refine J.condT rfl rfl ?_
        refine J.seq rfl ?_
        refine J.region rfl ?_
        refine JO.pur rfl rfl rfl (Pur.assign rfl) ?_
        refine JO.nil ?_
        refine J.ret rfl rfl ?_
        exact ⟨_, _, ⟨rfl, rfl⟩, congrArg (Value.int .i64) (show _ = askV ss ds by unfold askV; rw [if_neg (not_not_intro hall), if_pos (fun g => hbad (g _ (List.mem_of_getElem? hyk)))]), SubC.out⟩
      · try simp only [decide_eq_true_eq, decide_eq_false_iff_not, Bool.not_eq_true', Bool.not_eq_false', Bool.and_eq_true, Bool.or_eq_true, Bool.and_eq_false_iff, Bool.or_eq_false_iff, Option.isNone_some, Option.isSome_some, Option.isNone_none, Option.isSome_none, Int.not_lt, Int.not_le, beq_iff_eq, beq_eq_false_iff_ne, bne_iff_ne, ne_eq, Bool.not_not, Decidable.not_not] at h27
        have hgd : okD d := by simpa using h27
        have hdk2 : ∀ j, j < k + 1 → ∀ d, ds[j]? = some d → okD d := fun j hj e he => by
          rcases Nat.lt_or_ge j k with h | h
          · exact hdk j h e he
          · obtain rfl : j = k := by omega
            rw [hyk] at he; cases he; exact hgd
        refine J.condF rfl rfl ?_
        refine J.skip rfl ?_
        refine J.inBlock ?_
        refine J.region rfl ?_
        refine JO.pur rfl rfl rfl (Pur.add rfl rfl (wr64 (by omega))) ?_
        refine JO.pur rfl rfl rfl (Pur.move rfl) ?_
        refine JO.nil ?_
        exact J.weaken (.cons rfl (congrArg (Value.int .i64) (by first | rfl | (dsimp only; omega))) (.cons rfl rfl (.cons rfl rfl .nil))) (by first | exact fun _ h => h | exact SubC.out | (dsimp only; exact SubC.out)) (ihk (k + 1) ⟨by omega, hdk2⟩ (by omega))
    · try simp only [decide_eq_true_eq, decide_eq_false_iff_not, Bool.not_eq_true', Bool.not_eq_false', Bool.and_eq_true, Bool.or_eq_true, Bool.and_eq_false_iff, Bool.or_eq_false_iff, Option.isNone_some, Option.isSome_some, Option.isNone_none, Option.isSome_none, Int.not_lt, Int.not_le, beq_iff_eq, beq_eq_false_iff_ne, bne_iff_ne, ne_eq, Bool.not_not, Decidable.not_not] at h22
      have hall2 : ∀ d ∈ ds, okD d := fun d hd => by
        obtain ⟨j, hj, e⟩ := List.getElem_of_mem hd
        exact hdk j (by omega) d (by rw [List.getElem?_eq_getElem hj, e])
      refine J.condF rfl rfl ?_
      refine J.exit rfl rfl ?_
      refine J.seq rfl ?_
      refine J.region rfl ?_
      refine JO.pur rfl rfl rfl (Pur.assign rfl) ?_
      refine JO.nil ?_
      refine J.ret rfl rfl ?_
      exact ⟨_, _, ⟨rfl, rfl⟩, congrArg (Value.int .i64) (show _ = askV ss ds by unfold askV; rw [if_neg (not_not_intro hall), if_neg (not_not_intro hall2)]), SubC.out⟩

theorem turned_row {L : List Asn} {lay : ByteArray} {a : Option Addr} {n cap : Nat} (hs : ¬ lay = colS) :
    CallS Try.prog 137 [.string lay, .agg #[.slice a n cap]].toArray L (fun v M => v = .agg #[.slice a n cap] ∧ M = L) := by
  refine CallS.ent ?_
  refine CallS.enter Try.func137 rfl rfl rfl rfl rfl ?_
  refine J.seq rfl ?_
  refine J.region rfl ?_
  refine JO.eff rfl rfl rfl (Eff.box (cs := [_]) rfl rfl) ?_
  rintro _ _ ⟨b3, rfl, rfl⟩
  refine JO.eff rfl rfl rfl (Eff.alloc (cs := [_]) rfl) ?_
  rintro _ _ ⟨b4, rfl, rfl⟩
  refine JO.nil ?_
  refine J.seq rfl ?_
  refine J.seq rfl ?_
  refine J.region rfl ?_
  refine JO.pur rfl rfl rfl (Pur.move rfl) ?_
  refine JO.pur rfl rfl rfl (Pur.eqlT rfl rfl) ?_
  refine JO.setv (u' := .bool false) 6 rfl (congrArg Value.bool (decide_eq_false hs)) ?_
  refine JO.nil ?_
  refine J.condF rfl rfl ?_
  refine J.skip rfl ?_
  refine J.seq rfl ?_
  refine J.region rfl ?_
  refine JO.pur rfl rfl rfl (Pur.loadA rfl rfl rfl CellsIn.blk) ?_
  refine JO.effN rfl rfl (Eff.storeBA (cs' := [_]) rfl rfl (by rfl) (by rfl) (by rfl)) ?_
  rintro _ _ ⟨rfl, rfl⟩
  refine JO.nil ?_
  refine J.retC rfl (.cell rfl (ld_agg rfl CellsIn.blk) .nil) ?_
  exact ⟨_, _, ⟨rfl, rfl⟩, rfl, SubC.out⟩

theorem turned_col {L : List Asn} {lay : ByteArray} {a : Option Addr} {n cap : Nat} {rs : List Rg} [SlIn rgE L a rs] (hn : n = rs.length) (hs : lay = colS) (h : okD rs) :
    CallS Try.prog 137 [.string lay, .agg #[.slice a n cap]].toArray L (fun v M => ∃ a' c', v = .agg #[.slice a' rs.length c'] ∧ M = sl rgE a' c' (canD rs).reverse :: L) := by
  subst hn
  refine CallS.ent ?_
  refine CallS.enter Try.func137 rfl rfl rfl rfl rfl ?_
  refine J.seq rfl ?_
  refine J.region rfl ?_
  refine JO.eff rfl rfl rfl (Eff.box (cs := [_]) rfl rfl) ?_
  rintro _ _ ⟨b3, rfl, rfl⟩
  refine JO.eff rfl rfl rfl (Eff.alloc (cs := [_]) rfl) ?_
  rintro _ _ ⟨b4, rfl, rfl⟩
  refine JO.nil ?_
  refine J.seq rfl ?_
  refine J.seq rfl ?_
  refine J.region rfl ?_
  refine JO.pur rfl rfl rfl (Pur.move rfl) ?_
  refine JO.pur rfl rfl rfl (Pur.eqlT rfl rfl) ?_
  refine JO.setv (u' := .bool true) 6 rfl (congrArg Value.bool (decide_eq_true hs)) ?_
  refine JO.nil ?_
  refine J.condT rfl rfl ?_
  refine J.region rfl ?_
  refine JO.pur rfl rfl rfl (Pur.loadA rfl rfl rfl CellsIn.blk) ?_
  refine JO.eff rfl rfl rfl (Eff.call rfl (d_Transpose (rs := rs) rfl)) ?_
  rintro _ _ ⟨a9, c9, rfl, rfl⟩
  refine JO.pur rfl rfl rfl (Pur.move rfl) ?_
  refine JO.pur rfl rfl rfl (Pur.extract rfl rfl) ?_
  refine JO.pur rfl rfl rfl (Pur.extract rfl rfl) ?_
  refine JO.effN rfl rfl (Eff.storeBA (cs' := [_]) rfl rfl (by rfl) (by rfl) (by rfl)) ?_
  rintro _ _ ⟨rfl, rfl⟩
  refine JO.nil ?_
  refine J.seq rfl ?_
  refine J.region rfl ?_
  refine JO.pur rfl rfl rfl (Pur.loadA rfl rfl rfl CellsIn.blk) ?_
  refine JO.effN rfl rfl (Eff.storeBA (cs' := [_]) rfl rfl (by rfl) (by rfl) (by rfl)) ?_
  rintro _ _ ⟨rfl, rfl⟩
  refine JO.nil ?_
  refine J.retC rfl (.cell rfl (ld_agg rfl CellsIn.blk) .nil) ?_
  have ht : trD rs = (canD rs).reverse := by unfold trD; rw [if_pos h]
  refine ⟨_, _, ⟨a9, c9, rfl, rfl⟩, by rw [ht, List.length_reverse, canD_len]; rfl, fun h s => ?_⟩
  rw [ht] at s; exact SubC.out h s

theorem lindex {L : List Asn} {lay : ByteArray} {b : Option Addr} {m cq : Nat} {x : List Int} [SlIn intE L b x] (hm : m = x.length) (hb : x.length ≤ 17592186044416) (hnil : b = none → m = 0 ∧ cq = 0) :
    CallS Try.prog 138 [.string lay, .slice b m cq].toArray L (fun v M => ∃ a' c', v = .slice a' x.length c' ∧ M = sl intE a' c' (ixL (isC lay) x) :: L) := by
  subst hm
  refine CallS.ent ?_
  refine CallS.enter Try.func138 rfl rfl rfl rfl rfl ?_
  refine J.seq rfl ?_
  refine J.region rfl ?_
  refine JO.pur rfl rfl rfl (Pur.assign rfl) ?_
  refine JO.nil ?_
  refine J.seq rfl ?_
  refine J.region rfl ?_
  refine JO.pur rfl rfl rfl (Pur.move rfl) ?_
  refine JO.eff rfl rfl rfl (Eff.call rfl (cloneI (xs := x) rfl hb hnil)) ?_
  rintro _ _ ⟨a6, c6, ⟨rfl, -⟩, rfl⟩
  refine JO.pur rfl rfl rfl (Pur.assign rfl) ?_
  refine JO.nil ?_
  refine J.seq rfl ?_
  refine J.seq rfl ?_
  refine J.region rfl ?_
  refine JO.pur rfl rfl rfl (Pur.move rfl) ?_
  refine JO.pur rfl rfl rfl (Pur.eqlT rfl rfl) ?_
  refine JO.nil ?_
  refine J.splitB 8 rfl (fun h8 => ?_) (fun h8 => ?_)
  · try simp only [decide_eq_true_eq, decide_eq_false_iff_not, Bool.not_eq_true', Bool.not_eq_false', Bool.and_eq_true, Bool.or_eq_true, Bool.and_eq_false_iff, Bool.or_eq_false_iff, Option.isNone_some, Option.isSome_some, Option.isNone_none, Option.isSome_none, Int.not_lt, Int.not_le, beq_iff_eq, beq_eq_false_iff_ne, bne_iff_ne, ne_eq, Bool.not_not, Decidable.not_not] at h8
    have hs : lay = colS := h8
    refine J.condT rfl rfl ?_
    refine J.region rfl ?_
    refine JO.pur rfl rfl rfl (Pur.move rfl) ?_
    refine JO.eff rfl rfl rfl (Eff.call rfl (revI_ok (xs := x) rfl hb)) ?_
    rintro _ _ ⟨rfl, rfl⟩
    refine JO.nil ?_
    refine J.seq rfl ?_
    refine J.region rfl ?_
    refine JO.pur rfl rfl rfl (Pur.move rfl) ?_
    refine JO.pur rfl rfl rfl (Pur.assign rfl) ?_
    refine JO.nil ?_
    refine J.ret rfl rfl ?_
    have hv : ixL (isC lay) x = x.reverse := by unfold ixL isC; rw [decide_eq_true hs, if_pos rfl]
    refine ⟨_, _, ⟨a6, c6, rfl, rfl⟩, rfl, fun h s => ?_⟩
    rw [hv]; exact SubC.out h s
  · try simp only [decide_eq_true_eq, decide_eq_false_iff_not, Bool.not_eq_true', Bool.not_eq_false', Bool.and_eq_true, Bool.or_eq_true, Bool.and_eq_false_iff, Bool.or_eq_false_iff, Option.isNone_some, Option.isSome_some, Option.isNone_none, Option.isSome_none, Int.not_lt, Int.not_le, beq_iff_eq, beq_eq_false_iff_ne, bne_iff_ne, ne_eq, Bool.not_not, Decidable.not_not] at h8
    have hs : ¬ lay = colS := h8
    refine J.condF rfl rfl ?_
    refine J.skip rfl ?_
    refine J.seq rfl ?_
    refine J.region rfl ?_
    refine JO.pur rfl rfl rfl (Pur.move rfl) ?_
    refine JO.pur rfl rfl rfl (Pur.assign rfl) ?_
    refine JO.nil ?_
    refine J.ret rfl rfl ?_
    have hv : ixL (isC lay) x = x := by unfold ixL isC; rw [decide_eq_false hs, if_neg (by decide)]
    refine ⟨_, _, ⟨a6, c6, rfl, rfl⟩, rfl, fun h s => ?_⟩
    rw [hv]; exact SubC.out h s

theorem loffset_row {L : List Asn} {lay : ByteArray} {a b : Option Addr} {n cap m cq : Nat} {rs : List Rg} {x : List Int} [SlIn rgE L a rs] [SlIn intE L b x] (hn : n = rs.length) (hm : m = x.length) (hb : x.length ≤ 17592186044416) (hnil : b = none → m = 0 ∧ cq = 0) (h : okD rs) (hs : ¬ lay = colS) :
    CallS Try.prog 134 [.string lay, .agg #[.slice a n cap], .slice b m cq].toArray L (fun v M => v = .tuple #[.int .i64 ((offZ (isC lay) rs x : Nat) : Int), .bool (offL (isC lay) rs x).isSome] ∧ M = L) := by
  subst hn
  subst hm
  refine CallS.ent ?_
  refine CallS.enter Try.func134 rfl rfl rfl rfl rfl ?_
  refine J.seq rfl ?_
  refine J.region rfl ?_
  refine JO.eff rfl rfl rfl (Eff.box (cs := [_]) rfl rfl) ?_
  rintro _ _ ⟨b4, rfl, rfl⟩
  refine JO.pur rfl rfl rfl (Pur.assign rfl) ?_
  refine JO.pur rfl rfl rfl (Pur.assign rfl) ?_
  refine JO.nil ?_
  refine J.seq rfl ?_
  refine J.region rfl ?_
  refine JO.pur rfl rfl rfl (Pur.move rfl) ?_
  refine JO.pur rfl rfl rfl (Pur.loadA rfl rfl rfl CellsIn.blk) ?_
  refine JO.effR rfl rfl rfl (Eff.call rfl (turned_row hs)) ?_
  refine JO.pur rfl rfl rfl (Pur.move rfl) ?_
  refine JO.pur rfl rfl rfl (Pur.move rfl) ?_
  refine JO.eff rfl rfl rfl (Eff.call rfl (lindex (lay := lay) (x := x) rfl hb hnil)) ?_
  rintro _ _ ⟨a16, c16, rfl, rfl⟩
  refine JO.effR rfl rfl rfl (Eff.call rfl (d_Place (rs := rs) (x := ixL (isC lay) x) rfl (ixL_len _ _).symm)) ?_
  refine JO.pur rfl rfl rfl (Pur.move rfl) ?_
  refine JO.pur rfl rfl rfl (Pur.extract rfl rfl) ?_
  refine JO.pur rfl rfl rfl (Pur.extract rfl rfl) ?_
  refine JO.pur rfl rfl rfl (Pur.assign rfl) ?_
  refine JO.pur rfl rfl rfl (Pur.assign rfl) ?_
  refine JO.nil ?_
  refine J.seq rfl ?_
  refine J.region rfl ?_
  refine JO.pur rfl rfl rfl (Pur.move rfl) ?_
  refine JO.pur rfl rfl rfl (Pur.move rfl) ?_
  refine JO.pur rfl rfl rfl (Pur.eqlI rfl rfl) ?_
  refine JO.pur rfl rfl rfl (Pur.assign rfl) ?_
  refine JO.pur rfl rfl rfl (Pur.assign rfl) ?_
  refine JO.nil ?_
  refine J.ret rfl rfl ?_
  have hc : isC lay = false := by unfold isC; exact decide_eq_false hs
  obtain ⟨g1, g2⟩ := plV_off (rs := rs) h (ixL (isC lay) x)
  have ho : offL (isC lay) rs x = plD rs (ixL (isC lay) x) := by unfold offL tuL; rw [hc]; rfl
  refine ⟨_, _, ⟨rfl, rfl⟩, ?_, SubC.out⟩
  show Value.tuple #[.int .i64 (plV rs (ixL (isC lay) x)).1, .bool (decide ((plV rs (ixL (isC lay) x)).2 = 0))] = _
  rw [g1, g2]; unfold offZ; rw [ho]

theorem loffset_col {L : List Asn} {lay : ByteArray} {a b : Option Addr} {n cap m cq : Nat} {rs : List Rg} {x : List Int} [SlIn rgE L a rs] [SlIn intE L b x] (hn : n = rs.length) (hm : m = x.length) (hb : x.length ≤ 17592186044416) (hnil : b = none → m = 0 ∧ cq = 0) (h : okD rs) (hs : lay = colS) :
    CallS Try.prog 134 [.string lay, .agg #[.slice a n cap], .slice b m cq].toArray L (fun v M => v = .tuple #[.int .i64 ((offZ (isC lay) rs x : Nat) : Int), .bool (offL (isC lay) rs x).isSome] ∧ M = L) := by
  subst hn
  subst hm
  refine CallS.ent ?_
  refine CallS.enter Try.func134 rfl rfl rfl rfl rfl ?_
  refine J.seq rfl ?_
  refine J.region rfl ?_
  refine JO.eff rfl rfl rfl (Eff.box (cs := [_]) rfl rfl) ?_
  rintro _ _ ⟨b4, rfl, rfl⟩
  refine JO.pur rfl rfl rfl (Pur.assign rfl) ?_
  refine JO.pur rfl rfl rfl (Pur.assign rfl) ?_
  refine JO.nil ?_
  refine J.seq rfl ?_
  refine J.region rfl ?_
  refine JO.pur rfl rfl rfl (Pur.move rfl) ?_
  refine JO.pur rfl rfl rfl (Pur.loadA rfl rfl rfl CellsIn.blk) ?_
  refine JO.eff rfl rfl rfl (Eff.call rfl (turned_col (rs := rs) rfl hs h)) ?_
  rintro _ _ ⟨a13, c13, rfl, rfl⟩
  refine JO.pur rfl rfl rfl (Pur.move rfl) ?_
  refine JO.pur rfl rfl rfl (Pur.move rfl) ?_
  refine JO.eff rfl rfl rfl (Eff.call rfl (lindex (lay := lay) (x := x) rfl hb hnil)) ?_
  rintro _ _ ⟨a16, c16, rfl, rfl⟩
  refine JO.effR rfl rfl rfl (Eff.call rfl (d_Place (rs := (canD rs).reverse) (x := ixL (isC lay) x) (by rw [List.length_reverse, canD_len]) (ixL_len _ _).symm)) ?_
  refine JO.pur rfl rfl rfl (Pur.move rfl) ?_
  refine JO.pur rfl rfl rfl (Pur.extract rfl rfl) ?_
  refine JO.pur rfl rfl rfl (Pur.extract rfl rfl) ?_
  refine JO.pur rfl rfl rfl (Pur.assign rfl) ?_
  refine JO.pur rfl rfl rfl (Pur.assign rfl) ?_
  refine JO.nil ?_
  refine J.seq rfl ?_
  refine J.region rfl ?_
  refine JO.pur rfl rfl rfl (Pur.move rfl) ?_
  refine JO.pur rfl rfl rfl (Pur.move rfl) ?_
  refine JO.pur rfl rfl rfl (Pur.eqlI rfl rfl) ?_
  refine JO.pur rfl rfl rfl (Pur.assign rfl) ?_
  refine JO.pur rfl rfl rfl (Pur.assign rfl) ?_
  refine JO.nil ?_
  refine J.ret rfl rfl ?_
  have hc : isC lay = true := by unfold isC; exact decide_eq_true hs
  obtain ⟨g1, g2⟩ := plV_off (rs := (canD rs).reverse) (col_ok h) (ixL (isC lay) x)
  have ho : offL (isC lay) rs x = plD (canD rs).reverse (ixL (isC lay) x) := by unfold offL tuL; rw [hc]; exact (col_pl h _).symm
  refine ⟨_, _, ⟨rfl, rfl⟩, ?_, SubC.out⟩
  show Value.tuple #[.int .i64 (plV (canD rs).reverse (ixL (isC lay) x)).1, .bool (decide ((plV (canD rs).reverse (ixL (isC lay) x)).2 = 0))] = _
  rw [g1, g2]; unfold offZ; rw [ho]

theorem loffset {L : List Asn} {lay : ByteArray} {a b : Option Addr} {n cap m cq : Nat} {rs : List Rg} {x : List Int} [SlIn rgE L a rs] [SlIn intE L b x] (hn : n = rs.length) (hm : m = x.length) (hb : x.length ≤ 17592186044416) (hnil : b = none → m = 0 ∧ cq = 0) (h : okD rs) : CallS Try.prog 134 [.string lay, .agg #[.slice a n cap], .slice b m cq].toArray L (fun v M => v = .tuple #[.int .i64 ((offZ (isC lay) rs x : Nat) : Int), .bool (offL (isC lay) rs x).isSome] ∧ M = L) := by
  by_cases hs : lay = colS
  · exact loffset_col hn hm hb hnil h hs
  · exact loffset_row hn hm hb hnil h hs
theorem lcount {L : List Asn} {a : Option Addr} {n cap : Nat} {rs : List Rg} [SlIn rgE L a rs] (hn : n = rs.length) :
    CallS Try.prog 132 [.agg #[.slice a n cap]].toArray L (fun v M => v = .int .i64 (ctV rs) ∧ M = L) := by
  subst hn
  refine CallS.ent ?_
  refine CallS.enter Try.func132 rfl rfl rfl rfl rfl ?_
  refine J.seq rfl ?_
  refine J.region rfl ?_
  refine JO.eff rfl rfl rfl (Eff.box (cs := [_]) rfl rfl) ?_
  rintro _ _ ⟨b1, rfl, rfl⟩
  refine JO.pur rfl rfl rfl (Pur.assign rfl) ?_
  refine JO.nil ?_
  refine J.seq rfl ?_
  refine J.region rfl ?_
  refine JO.pur rfl rfl rfl (Pur.loadA rfl rfl rfl CellsIn.blk) ?_
  refine JO.effR rfl rfl rfl (Eff.call rfl (d_Count (rs := rs) rfl)) ?_
  refine JO.pur rfl rfl rfl (Pur.move rfl) ?_
  refine JO.pur rfl rfl rfl (Pur.extract rfl rfl) ?_
  refine JO.pur rfl rfl rfl (Pur.extract rfl rfl) ?_
  refine JO.pur rfl rfl rfl (Pur.assign rfl) ?_
  refine JO.pur rfl rfl rfl (Pur.assign rfl) ?_
  refine JO.nil ?_
  refine J.seq rfl ?_
  refine J.region rfl ?_
  refine JO.pur rfl rfl rfl (Pur.move rfl) ?_
  refine JO.pur rfl rfl rfl (Pur.assign rfl) ?_
  refine JO.nil ?_
  refine J.ret rfl rfl ?_
  exact ⟨_, _, ⟨rfl, rfl⟩, rfl, SubC.out⟩

end Go.Proofs.Ytnhippfllgnngaa

/- The text SpPlain. -/
set_option linter.unusedVariables false
set_option linter.unusedSimpArgs false
/-! Sparse domains, plain. -/
namespace Go.Proofs.Ytnhippfllgnngaa
open Go Go.KK Dm
/-- The place of an index, 0 where it has none. -/
def atS (rs : List Rg) (x : List Int) : Int := (((plD rs x).getD 0 : Nat) : Int)
def lastS (rs : List Rg) (xss : List (List Int)) (j : Nat) : Int := if j = 0 then -1 else atS rs (xss.getD (j - 1) [])
def stepS (rs : List Rg) (xss : List (List Int)) (j : Nat) : Prop := (plD rs (xss.getD j [])).isSome = true ∧ lastS rs xss j < atS rs (xss.getD j [])
instance (rs : List Rg) (xss : List (List Int)) (j : Nat) : Decidable (stepS rs xss j) := inferInstanceAs (Decidable (_ ∧ _))
def okS (rs : List Rg) (xss : List (List Int)) : Prop := okD rs ∧ xss.length ≤ 400 ∧ ∀ j, j < xss.length → stepS rs xss j
instance (rs : List Rg) (xss : List (List Int)) : Decidable (okS rs xss) := inferInstanceAs (Decidable (_ ∧ _))
theorem atS_nonneg (rs : List Rg) (x : List Int) : 0 ≤ atS rs x := Int.natCast_nonneg _
theorem plV_ok {rs : List Rg} (h : okD rs) (x : List Int) : ((plV rs x).2 = 0 ↔ (plD rs x).isSome = true) ∧ ((plD rs x).isSome = true → plV rs x = (atS rs x, 0)) := by
  unfold plV atS
  rw [if_neg (not_not_intro h)]
  by_cases hl : x.length = rs.length
  · rw [if_neg (not_not_intro hl)]
    cases e : plD rs x with
    | none => simp
    | some n => simp
  · rw [if_pos hl]
    have : plD rs x = none := by unfold plD; rw [if_neg hl]
    simp [this]
theorem getD_at' {α : Type} {l : List α} {k : Nat} (d : α) (h : k < l.length) : l[k]? = some (l.getD k d) := by
  rw [List.getD_eq_getElem?_getD, List.getElem?_eq_getElem h]; rfl
theorem okS_some {rs : List Rg} {xss : List (List Int)} (h : okS rs xss) {x : List Int} (hx : x ∈ xss) : (plD rs x).isSome = true := by
  obtain ⟨j, hj, e⟩ := List.getElem_of_mem hx
  have := (h.2.2 j hj).1
  rwa [List.getD_eq_getElem?_getD, List.getElem?_eq_getElem hj, Option.getD_some, e] at this
theorem okS_len {rs : List Rg} {xss : List (List Int)} (h : okS rs xss) {x : List Int} (hx : x ∈ xss) : x.length = rs.length := by
  have := okS_some h hx
  unfold plD at this
  by_cases e : x.length = rs.length
  · exact e
  · rw [if_neg e] at this; cases this
theorem atS_inj {rs : List Rg} (h : okRs rs) {x y : List Int} (hx : (plD rs x).isSome = true) (hy : (plD rs y).isSome = true) (e : atS rs x = atS rs y) : x = y := by
  obtain ⟨n, hn⟩ := Option.isSome_iff_exists.1 hx
  obtain ⟨m, hm⟩ := Option.isSome_iff_exists.1 hy
  unfold atS at e
  rw [hn, hm] at e
  have e2 : n = m := Int.ofNat.inj e
  subst e2
  have a1 := (plD_iff h).1 hn
  have a2 := (plD_iff h).1 hm
  rw [a1] at a2; exact Option.some.inj a2
/-- Ascending places. -/
theorem okS_asc {rs : List Rg} {xss : List (List Int)} (h : okS rs xss) : ∀ j i, i < j → j < xss.length → atS rs (xss.getD i []) < atS rs (xss.getD j []) := by
  intro j
  induction j with
  | zero => intro i hi; omega
  | succ j ih =>
    intro i hi hj
    have h1 := (h.2.2 (j + 1) hj).2
    unfold lastS at h1
    rw [if_neg (by omega), Nat.add_sub_cancel] at h1
    by_cases e : i = j
    · subst e; exact h1
    · have := ih i (by omega) (by omega); omega
/-- The places of a list, if all have one. -/
def plcV (rs : List Rg) (l : List (List Int)) : List Int × Bool := if ∀ x ∈ l, (plV rs x).2 = 0 then (l.map (atS rs), true) else ([], false)
/-- Which one of a list an index is, or where it would stand. -/
def fndV (rs : List Rg) (xss : List (List Int)) (x : List Int) : Int × Bool := if (plV rs x).2 ≠ 0 then (0, false) else (((xss.countP fun y => decide (atS rs y < atS rs x) : Nat) : Int), decide (x ∈ xss))
theorem okS_iff {rs : List Rg} {xss : List (List Int)} (h1 : okD rs) (h2 : xss.length ≤ 400) : okS rs xss ↔ (∀ x ∈ xss, (plV rs x).2 = 0) ∧ ∀ j, 1 ≤ j → j < xss.length → atS rs (xss.getD (j - 1) []) < atS rs (xss.getD j []) := by
  constructor
  · intro h
    refine ⟨fun x hx => (plV_ok h1 x).1.2 (okS_some h hx), fun j hj hl => okS_asc h j (j - 1) (by omega) hl⟩
  · rintro ⟨h3, h4⟩
    refine ⟨h1, h2, fun j hj => ⟨?_, ?_⟩⟩
    · refine (plV_ok h1 _).1.1 (h3 _ ?_)
      rw [List.getD_eq_getElem?_getD, List.getElem?_eq_getElem hj]; exact List.getElem_mem hj
    · unfold lastS
      by_cases e : j = 0
      · rw [if_pos e]; have := atS_nonneg rs (xss.getD j []); omega
      · rw [if_neg e]; exact h4 j (by omega) hj
/-- What the reference has found out about the first ones. -/
def okN (rs : List Rg) (xss : List (List Int)) (q : Nat) : Bool := (plcV rs xss).2 && decide (∀ j, j < q → (1 ≤ j ∧ j < (plcV rs xss).1.length) → (plcV rs xss).1.getD (j - 1) 0 < (plcV rs xss).1.getD j 0)
theorem plcV_yes {rs : List Rg} {l : List (List Int)} (h : ∀ x ∈ l, (plV rs x).2 = 0) : plcV rs l = (l.map (atS rs), true) := if_pos h
theorem plcV_no {rs : List Rg} {l : List (List Int)} (h : ¬ ∀ x ∈ l, (plV rs x).2 = 0) : plcV rs l = ([], false) := if_neg h
theorem map_getD {rs : List Rg} {l : List (List Int)} {j : Nat} (h : j < l.length) : (l.map (atS rs)).getD j 0 = atS rs (l.getD j []) := by
  rw [List.getD_eq_getElem?_getD, List.getElem?_map, List.getElem?_eq_getElem h, List.getD_eq_getElem?_getD, List.getElem?_eq_getElem h]; rfl
theorem okN_one (rs : List Rg) (xss : List (List Int)) : okN rs xss 1 = (plcV rs xss).2 := by
  unfold okN
  rw [decide_eq_true (fun j h1 h2 => by omega), Bool.and_true]
theorem okN_succ {rs : List Rg} {xss : List (List Int)} {q : Nat} (h : okN rs xss q = true) (hq : 1 ≤ q) (hl : q < (plcV rs xss).1.length) : okN rs xss (q + 1) = decide ((plcV rs xss).1.getD (q - 1) 0 < (plcV rs xss).1.getD q 0) := by
  unfold okN at h ⊢
  simp only [Bool.and_eq_true, decide_eq_true_eq] at h
  rw [h.1, Bool.true_and]
  refine decide_eq_decide.2 ⟨fun g => g q (by omega) ⟨hq, hl⟩, fun g j hj h1 => ?_⟩
  by_cases e : j = q
  · subst e; exact g
  · exact h.2 j (by omega) h1
theorem okN_end {rs : List Rg} {xss : List (List Int)} {q : Nat} (h1 : okD rs) (h2 : xss.length ≤ 400) (h : okN rs xss q = false ∨ (plcV rs xss).1.length ≤ q) : okN rs xss q = decide (okS rs xss) := by
  by_cases hp : ∀ x ∈ xss, (plV rs x).2 = 0
  · have hpv := plcV_yes hp
    have key : okN rs xss q = decide (∀ j, j < q → (1 ≤ j ∧ j < xss.length) → atS rs (xss.getD (j - 1) []) < atS rs (xss.getD j [])) := by
      unfold okN
      rw [hpv]
      simp only [Bool.true_and, List.length_map]
      refine decide_eq_decide.2 ⟨fun g j hj hl => ?_, fun g j hj hl => ?_⟩
      · have := g j hj hl; rwa [map_getD hl.2, map_getD (by omega)] at this
      · rw [map_getD hl.2, map_getD (by omega)]; exact g j hj hl
    rw [key] at h ⊢
    refine decide_eq_decide.2 ⟨fun g => ?_, fun g j hj hl => ((okS_iff h1 h2).1 g).2 j hl.1 hl.2⟩
    rcases h with h | h
    · exact absurd g (of_decide_eq_false h)
    · rw [hpv] at h
      simp only [List.length_map] at h
      exact (okS_iff h1 h2).2 ⟨hp, fun j hj hl => g j (by omega) ⟨hj, hl⟩⟩
  · rw [decide_eq_false (fun hs => hp ((okS_iff h1 h2).1 hs).1)]
    unfold okN; rw [plcV_no hp]; rfl
end Go.Proofs.Ytnhippfllgnngaa
