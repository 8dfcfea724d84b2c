/-
  A part of the proof of the claim that this folder bears.
-/
import Derived.Test.YtnhippfllgnngaaPAC
import Derived.Test.YtnhippfllgnngaaPAA
import Derived.Test.YtnhippfllgnngaaKC
/- The text SB2. -/
set_option linter.unusedVariables false
set_option linter.unusedSimpArgs false
set_option maxRecDepth 10000
namespace Go.Proofs.Ytnhippfllgnngaa
open Go Go.KK Dm

theorem d_Valid {L : List Asn} {a : Option Addr} {n cap : Nat} {rs : List Rg} [SlIn rgE L a rs] (hn : n = rs.length) :
    CallS Try.prog 87 [.agg #[.slice a n cap]].toArray L (fun v M => v = .bool (decide (okD rs)) ∧ M = L) := by
  subst hn
  refine CallS.ent ?_
  refine CallS.enter Try.func87 rfl rfl rfl rfl rfl ?_
  refine J.seq rfl ?_
  refine J.region rfl ?_
  refine JO.eff rfl rfl rfl (Eff.box (cs := [_]) rfl rfl) ?_
  rintro _ _ ⟨b1, rfl, rfl⟩
  refine JO.pur rfl rfl rfl (Pur.assign rfl) ?_
  refine JO.nil ?_
  refine J.seq rfl ?_
  refine J.region rfl ?_
  refine JO.pur rfl rfl rfl (Pur.loadA rfl rfl rfl CellsIn.blk) ?_
  refine JO.eff rfl rfl rfl (Eff.call rfl (counts_ok (rs := rs) rfl)) ?_
  rintro _ _ ⟨a8, c8, rfl, rfl⟩
  refine JO.pur rfl rfl rfl (Pur.move rfl) ?_
  refine JO.pur rfl rfl rfl (Pur.extract rfl rfl) ?_
  refine JO.pur rfl rfl rfl (Pur.extract rfl rfl) ?_
  refine JO.pur rfl rfl rfl (Pur.extract rfl rfl) ?_
  refine JO.pur rfl rfl rfl (Pur.assign rfl) ?_
  refine JO.pur rfl rfl rfl (Pur.assign rfl) ?_
  refine JO.pur rfl rfl rfl (Pur.assign rfl) ?_
  refine JO.nil ?_
  refine J.seq rfl ?_
  refine J.region rfl ?_
  refine JO.pur rfl rfl rfl (Pur.move rfl) ?_
  refine JO.pur rfl rfl rfl (Pur.assign rfl) ?_
  refine JO.nil ?_
  refine J.ret rfl rfl ?_
  exact ⟨_, _, ⟨rfl, rfl⟩, rfl, SubC.out⟩

def erD (rs : List Rg) : Int := if okD rs then 0 else 40
theorem d_Count {L : List Asn} {a : Option Addr} {n cap : Nat} {rs : List Rg} [SlIn rgE L a rs] (hn : n = rs.length) :
    CallS Try.prog 145 [.agg #[.slice a n cap]].toArray L (fun v M => v = .tuple #[.int .i64 (ctV rs), .int .i64 (erD rs)] ∧ M = L) := by
  subst hn
  refine CallS.ent ?_
  refine CallS.enter Try.func145 rfl rfl rfl rfl rfl ?_
  refine J.seq rfl ?_
  refine J.region rfl ?_
  refine JO.eff rfl rfl rfl (Eff.box (cs := [_]) rfl rfl) ?_
  rintro _ _ ⟨b1, rfl, rfl⟩
  refine JO.pur rfl rfl rfl (Pur.assign rfl) ?_
  refine JO.pur rfl rfl rfl (Pur.assign rfl) ?_
  refine JO.nil ?_
  refine J.seq rfl ?_
  refine J.region rfl ?_
  refine JO.pur rfl rfl rfl (Pur.loadA rfl rfl rfl CellsIn.blk) ?_
  refine JO.eff rfl rfl rfl (Eff.call rfl (counts_ok (rs := rs) rfl)) ?_
  rintro _ _ ⟨a9, c9, rfl, rfl⟩
  refine JO.pur rfl rfl rfl (Pur.move rfl) ?_
  refine JO.pur rfl rfl rfl (Pur.extract rfl rfl) ?_
  refine JO.pur rfl rfl rfl (Pur.extract rfl rfl) ?_
  refine JO.pur rfl rfl rfl (Pur.extract rfl rfl) ?_
  refine JO.pur rfl rfl rfl (Pur.assign rfl) ?_
  refine JO.pur rfl rfl rfl (Pur.assign rfl) ?_
  refine JO.pur rfl rfl rfl (Pur.assign rfl) ?_
  refine JO.nil ?_
  refine J.seq rfl ?_
  refine J.seq rfl ?_
  refine J.region rfl ?_
  refine JO.pur rfl rfl rfl (Pur.move rfl) ?_
  refine JO.setv (u' := .bool (decide (okD rs))) 13 rfl rfl ?_
  refine JO.pur rfl rfl rfl (Pur.not rfl) ?_
  refine JO.nil ?_
  refine J.splitB 14 rfl (fun h14 => ?_) (fun h14 => ?_)
  · try simp only [decide_eq_true_eq, decide_eq_false_iff_not, Bool.not_eq_true', Bool.not_eq_false', Bool.and_eq_true, Bool.or_eq_true, Bool.and_eq_false_iff, Bool.or_eq_false_iff, Option.isNone_some, Option.isSome_some, Option.isNone_none, Option.isSome_none, Int.not_lt, Int.not_le, beq_iff_eq, beq_eq_false_iff_ne, bne_iff_ne, ne_eq, Bool.not_not, Decidable.not_not] at h14
    have hbad : ¬ okD rs := by simpa using h14
    refine J.condT rfl rfl ?_
    refine J.seq rfl ?_
    refine J.region rfl ?_
    refine JO.pur rfl rfl rfl (Pur.assign rfl) ?_
    refine JO.pur rfl rfl rfl (Pur.assign rfl) ?_
    refine JO.nil ?_
    refine J.ret rfl rfl ?_
    refine ⟨_, _, ⟨rfl, rfl⟩, ?_, SubC.out⟩
    unfold ctV erD; rw [if_neg hbad, if_neg hbad]; rfl
  · try simp only [decide_eq_true_eq, decide_eq_false_iff_not, Bool.not_eq_true', Bool.not_eq_false', Bool.and_eq_true, Bool.or_eq_true, Bool.and_eq_false_iff, Bool.or_eq_false_iff, Option.isNone_some, Option.isSome_some, Option.isNone_none, Option.isSome_none, Int.not_lt, Int.not_le, beq_iff_eq, beq_eq_false_iff_ne, bne_iff_ne, ne_eq, Bool.not_not, Decidable.not_not] at h14
    have hgood : okD rs := by simpa using h14
    refine J.condF rfl rfl ?_
    refine J.skip rfl ?_
    refine J.seq rfl ?_
    refine J.region rfl ?_
    refine JO.pur rfl rfl rfl (Pur.move rfl) ?_
    refine JO.pur rfl rfl rfl (Pur.assign rfl) ?_
    refine JO.pur rfl rfl rfl (Pur.assign rfl) ?_
    refine JO.nil ?_
    refine J.ret rfl rfl ?_
    refine ⟨_, _, ⟨rfl, rfl⟩, ?_, SubC.out⟩
    unfold erD; rw [if_pos hgood]; rfl

theorem canD_get {rs : List Rg} {k : Nat} (hk : k < rs.length) : (canD rs)[k]? = some (if cntD rs = 0 then none3 else canR (rs.getD k default)) := by
  unfold canD
  have hx : rs[k]? = some (rs.getD k default) := by rw [List.getD_eq_getElem?_getD, List.getElem?_eq_getElem hk]; rfl
  split <;> rw [List.getElem?_map, hx] <;> rfl
theorem take_get {α : Type} {l : List α} {k : Nat} {x : α} (h : l[k]? = some x) : l.take (k + 1) = l.take k ++ [x] := by
  rw [List.take_add_one, h]; rfl
theorem d_canon {L : List Asn} {a : Option Addr} {n cap : Nat} {rs : List Rg} [SlIn rgE L a rs] (hn : n = rs.length) (h : okD rs) :
    CallS Try.prog 157 [.agg #[.slice a n cap]].toArray L (fun v M => ∃ a' c', v = .agg #[.slice a' rs.length c'] ∧ M = sl rgE a' c' (canD rs) :: L) := by
  subst hn
  have hl3 := h.2.1
  refine CallS.ent ?_
  refine CallS.enter Try.func157 rfl rfl rfl rfl rfl ?_
  refine J.seq rfl ?_
  refine J.region rfl ?_
  refine JO.eff rfl rfl rfl (Eff.box (cs := [_]) rfl rfl) ?_
  rintro _ _ ⟨b1, rfl, rfl⟩
  refine JO.eff rfl rfl rfl (Eff.alloc (cs := [_]) rfl) ?_
  rintro _ _ ⟨b2, rfl, rfl⟩
  refine JO.nil ?_
  refine J.seq rfl ?_
  refine J.region rfl ?_
  refine JO.eff rfl rfl rfl (Eff.alloc (cs := [_]) rfl) ?_
  rintro _ _ ⟨b3, rfl, rfl⟩
  refine JO.nil ?_
  refine J.seq rfl ?_
  refine J.region rfl ?_
  refine JO.pur rfl rfl rfl (Pur.loadA rfl rfl rfl CellsIn.blk) ?_
  refine JO.eff rfl rfl rfl (Eff.call rfl (counts_ok (rs := rs) rfl)) ?_
  rintro _ _ ⟨a13, c13, rfl, rfl⟩
  refine JO.pur rfl rfl rfl (Pur.move rfl) ?_
  refine JO.pur rfl rfl rfl (Pur.extract rfl rfl) ?_
  refine JO.pur rfl rfl rfl (Pur.extract rfl rfl) ?_
  refine JO.setv (u' := .int .i64 ((cntD rs : Nat) : Int)) 15 rfl (congrArg (Value.int .i64) (show ctV rs = _ by unfold ctV; rw [if_pos h])) ?_
  refine JO.pur rfl rfl rfl (Pur.extract rfl rfl) ?_
  refine JO.pur rfl rfl rfl (Pur.assign rfl) ?_
  refine JO.pur rfl rfl rfl (Pur.assign rfl) ?_
  refine JO.pur rfl rfl rfl (Pur.assign rfl) ?_
  refine JO.nil ?_
  refine J.seq rfl ?_
  refine J.seq rfl ?_
  refine J.region rfl ?_
  refine JO.pur rfl rfl rfl (Pur.fieldAddr rfl) ?_
  refine JO.pur rfl rfl rfl (Pur.load rfl (CellIn.blk rfl)) ?_
  refine JO.pur rfl rfl rfl (Pur.len rfl) ?_
  refine JO.pur rfl rfl rfl (Pur.move rfl) ?_
  refine JO.nil ?_
  refine J.block rfl ?_
  refine J.loopF (ι := Nat × Option Addr × Nat) (fun q => q.1 ≤ rs.length) (fun q => [(20, .int .i64 (q.1 : Int))]) [(2, _), (3, _), (5, _), (18, _), (19, _)] (fun q => blk b3 (.cells #[.slice q.2.1 q.1 q.2.2] 24) :: sl rgE q.2.1 q.2.2 ((canD rs).take q.1) :: blk b2 (.cells #[.slice none 0 0] 24) :: L) (fun q => rs.length - q.1) (0, none, 0) rfl (.cons rfl rfl (.cons rfl rfl (.cons rfl rfl (.cons rfl rfl (.cons rfl rfl .nil))))) (.cons rfl rfl .nil) (fun h s => by have s2 := sl_nil_new (E := rgE) s; dsimp only; rw [List.take_zero]; exact SubC.out (L := sl rgE none 0 [] :: _) h s2) (Nat.zero_le _) ?_
  rintro ⟨k, a3, c3⟩ hk ih0
  try dsimp only
  dsimp only at hk
  have htl : ((canD rs).take k).length = k := by rw [List.length_take, canD_len]; omega
  refine J.seq rfl ?_
  refine J.region rfl ?_
  refine JO.pur rfl rfl rfl (Pur.lss rfl rfl) ?_
  refine JO.nil ?_
  refine J.seq rfl ?_
  refine J.splitB 21 rfl (fun h21 => ?_) (fun h21 => ?_)
  · try simp only [decide_eq_true_eq, decide_eq_false_iff_not, Bool.not_eq_true', Bool.not_eq_false', Bool.and_eq_true, Bool.or_eq_true, Bool.and_eq_false_iff, Bool.or_eq_false_iff, Option.isNone_some, Option.isSome_some, Option.isNone_none, Option.isSome_none, Int.not_lt, Int.not_le, beq_iff_eq, beq_eq_false_iff_ne, bne_iff_ne, ne_eq, Bool.not_not, Decidable.not_not] at h21
    have hkl : k < rs.length := by omega
    have hxk : rs[k]? = some (rs.getD k default) := by rw [List.getD_eq_getElem?_getD, List.getElem?_eq_getElem hkl]; rfl
    have hcg := canD_get hkl
    have hmem := getD_mem (d := rs) (k := k) hkl
    generalize hrr : rs.getD k default = r at *
    have hor := h.2.2.1 r hmem
    refine J.condT rfl rfl ?_
    refine J.skip rfl ?_
    refine J.seq rfl ?_
    refine J.block rfl ?_
    refine J.seq rfl ?_
    refine J.region rfl ?_
    refine JO.pur rfl rfl rfl (Pur.idx rfl rfl rfl (by first | rfl | (simp; done) | omega) rfl (by omega)) ?_
    refine JO.pur rfl rfl rfl (Pur.loadA rfl rfl rfl (CellsIn.el rfl hxk)) ?_
    refine JO.setv (u' := rgV r) 23 rfl rfl ?_
    refine JO.eff rfl rfl rfl (Eff.alloc (cs := [_, _, _]) rfl) ?_
    rintro _ _ ⟨b8, rfl, rfl⟩
    refine JO.effN rfl rfl (Eff.storeBA (cs' := [_, _, _]) rfl rfl (by rfl) (by rfl) (by rfl)) ?_
    rintro _ _ ⟨rfl, rfl⟩
    refine JO.nil ?_
    refine J.seq rfl ?_
    refine J.region rfl ?_
    refine JO.pur rfl rfl rfl (Pur.loadA rfl rfl rfl CellsIn.blk) ?_
    refine JO.effR rfl rfl rfl (Eff.call rfl (span_Canon hor)) ?_
    refine JO.pur rfl rfl rfl (Pur.move rfl) ?_
    refine JO.pur rfl rfl rfl (Pur.extract rfl rfl) ?_
    refine JO.setv (u' := rgV (canR r)) 27 rfl rfl ?_
    refine JO.pur rfl rfl rfl (Pur.extract rfl rfl) ?_
    refine JO.eff rfl rfl rfl (Eff.alloc (cs := [_, _, _]) rfl) ?_
    rintro _ _ ⟨b9, rfl, rfl⟩
    refine JO.effN rfl rfl (Eff.storeBA (cs' := [_, _, _]) rfl rfl (by rfl) (by rfl) (by rfl)) ?_
    rintro _ _ ⟨rfl, rfl⟩
    refine JO.pur rfl rfl rfl (Pur.assign rfl) ?_
    refine JO.nil ?_
    refine J.seq rfl ?_
    refine J.seq rfl ?_
    refine J.region rfl ?_
    refine JO.pur rfl rfl rfl (Pur.move rfl) ?_
    refine JO.pur rfl rfl rfl (Pur.eqlI rfl rfl) ?_
    refine JO.nil ?_
    refine J.splitB 30 rfl (fun h30 => ?_) (fun h30 => ?_)
    · try simp only [decide_eq_true_eq, decide_eq_false_iff_not, Bool.not_eq_true', Bool.not_eq_false', Bool.and_eq_true, Bool.or_eq_true, Bool.and_eq_false_iff, Bool.or_eq_false_iff, Option.isNone_some, Option.isSome_some, Option.isNone_none, Option.isSome_none, Int.not_lt, Int.not_le, beq_iff_eq, beq_eq_false_iff_ne, bne_iff_ne, ne_eq, Bool.not_not, Decidable.not_not] at h30
      have h0 : cntD rs = 0 := by omega
      rw [if_pos h0] at hcg
      obtain ⟨rr, hre⟩ : ∃ rr, rr = none3 := ⟨_, rfl⟩
      refine J.condT rfl rfl ?_
      refine J.region rfl ?_
      refine JO.pur rfl rfl rfl (Pur.build (cs := [_, _, _]) rfl rfl) ?_
      refine JO.effN rfl rfl (Eff.storeBA (cs' := [_, _, _]) rfl rfl (by rfl) (by rfl) (by rfl)) ?_
      rintro _ _ ⟨rfl, rfl⟩
      refine JO.nil ?_
      rw [← hre] at hcg
      have hap1 := take_get hcg
      refine J.region rfl ?_
      refine JO.pur rfl rfl rfl (Pur.fieldAddr rfl) ?_
      refine JO.pur rfl rfl rfl (Pur.load rfl (CellIn.blk rfl)) ?_
      refine JO.pur rfl rfl rfl (Pur.loadA rfl rfl rfl CellsIn.blk) ?_
      refine JO.setv (u' := rgV rr) 34 rfl (by rw [hre]; first | done | rfl) ?_
      refine JO.eff rfl rfl rfl (Eff.buildSlice rgE [rr] rfl rfl rfl rfl rfl rfl rfl) ?_
      rintro _ _ ⟨b35, rfl, -, rfl⟩
      refine JO.eff rfl rfl rfl (Eff.append rfl rfl rfl rfl (by first | rfl | omega | (simp; done) | (simp; omega)) (by first | rfl | omega | (simp; done) | (simp; omega)) (by decide) (by simp; omega) (by simp; omega) (fun h => by cases h)) ?_
      rintro _ _ ⟨a36, c36, rfl, rfl⟩
      refine JO.pur rfl rfl rfl (Pur.fieldAddr rfl) ?_
      refine JO.effN rfl rfl (Eff.storeB rfl rfl rfl .head) ?_
      rintro _ _ ⟨rfl, rfl⟩
      refine JO.nil ?_
      refine J.inBlock ?_
      refine J.region rfl ?_
      refine JO.pur rfl rfl rfl (Pur.add rfl rfl (wr64 (by omega))) ?_
      refine JO.pur rfl rfl rfl (Pur.move rfl) ?_
      refine JO.nil ?_
      exact J.weaken (.cons rfl (congrArg (Value.int .i64) (by first | rfl | (dsimp only; omega))) (.cons rfl rfl (.cons rfl rfl (.cons rfl rfl (.cons rfl rfl (.cons rfl rfl .nil)))))) (fun h s => by rw [← hap1, htl] at s; exact SubC.out h s) (ih0 (k + 1, a36, c36) (by dsimp only; omega) (by dsimp only; omega))
    · try simp only [decide_eq_true_eq, decide_eq_false_iff_not, Bool.not_eq_true', Bool.not_eq_false', Bool.and_eq_true, Bool.or_eq_true, Bool.and_eq_false_iff, Bool.or_eq_false_iff, Option.isNone_some, Option.isSome_some, Option.isNone_none, Option.isSome_none, Int.not_lt, Int.not_le, beq_iff_eq, beq_eq_false_iff_ne, bne_iff_ne, ne_eq, Bool.not_not, Decidable.not_not] at h30
      have h0 : ¬ cntD rs = 0 := by omega
      rw [if_neg h0] at hcg
      obtain ⟨rr, hre⟩ : ∃ rr, rr = canR r := ⟨_, rfl⟩
      refine J.condF rfl rfl ?_
      refine J.skip rfl ?_
      rw [← hre] at hcg
      have hap1 := take_get hcg
      refine J.region rfl ?_
      refine JO.pur rfl rfl rfl (Pur.fieldAddr rfl) ?_
      refine JO.pur rfl rfl rfl (Pur.load rfl (CellIn.blk rfl)) ?_
      refine JO.pur rfl rfl rfl (Pur.loadA rfl rfl rfl CellsIn.blk) ?_
      refine JO.setv (u' := rgV rr) 34 rfl (by rw [hre]; first | done | rfl) ?_
      refine JO.eff rfl rfl rfl (Eff.buildSlice rgE [rr] rfl rfl rfl rfl rfl rfl rfl) ?_
      rintro _ _ ⟨b35, rfl, -, rfl⟩
      refine JO.eff rfl rfl rfl (Eff.append rfl rfl rfl rfl (by first | rfl | omega | (simp; done) | (simp; omega)) (by first | rfl | omega | (simp; done) | (simp; omega)) (by decide) (by simp; omega) (by simp; omega) (fun h => by cases h)) ?_
      rintro _ _ ⟨a36, c36, rfl, rfl⟩
      refine JO.pur rfl rfl rfl (Pur.fieldAddr rfl) ?_
      refine JO.effN rfl rfl (Eff.storeB rfl rfl rfl .head) ?_
      rintro _ _ ⟨rfl, rfl⟩
      refine JO.nil ?_
      refine J.inBlock ?_
      refine J.region rfl ?_
      refine JO.pur rfl rfl rfl (Pur.add rfl rfl (wr64 (by omega))) ?_
      refine JO.pur rfl rfl rfl (Pur.move rfl) ?_
      refine JO.nil ?_
      exact J.weaken (.cons rfl (congrArg (Value.int .i64) (by first | rfl | (dsimp only; omega))) (.cons rfl rfl (.cons rfl rfl (.cons rfl rfl (.cons rfl rfl (.cons rfl rfl .nil)))))) (fun h s => by rw [← hap1, htl] at s; exact SubC.out h s) (ih0 (k + 1, a36, c36) (by dsimp only; omega) (by dsimp only; omega))
  · try simp only [decide_eq_true_eq, decide_eq_false_iff_not, Bool.not_eq_true', Bool.not_eq_false', Bool.and_eq_true, Bool.or_eq_true, Bool.and_eq_false_iff, Bool.or_eq_false_iff, Option.isNone_some, Option.isSome_some, Option.isNone_none, Option.isSome_none, Int.not_lt, Int.not_le, beq_iff_eq, beq_eq_false_iff_ne, bne_iff_ne, ne_eq, Bool.not_not, Decidable.not_not] at h21
    have hke : k = rs.length := by omega
    refine J.condF rfl rfl ?_
    refine J.exit rfl rfl ?_
    refine J.seq rfl ?_
    refine J.region rfl ?_
    refine JO.pur rfl rfl rfl (Pur.loadA rfl rfl rfl CellsIn.blk) ?_
    refine JO.effN rfl rfl (Eff.storeBA (cs' := [_]) rfl rfl (by rfl) (by rfl) (by rfl)) ?_
    rintro _ _ ⟨rfl, rfl⟩
    refine JO.nil ?_
    refine J.retC rfl (.cell rfl (ld_agg rfl CellsIn.blk) .nil) ?_
    refine ⟨_, _, ⟨a3, c3, rfl, rfl⟩, by rw [hke]; rfl, fun h s => ?_⟩
    rw [hke, ← canD_len rs, List.take_length] at s
    exact SubC.out h s

/-- A domain as it is told: itself, or nothing. -/
def cdV (rs : List Rg) : List Rg := if okD rs then canD rs else []
theorem d_Canon {L : List Asn} {a : Option Addr} {n cap : Nat} {rs : List Rg} [SlIn rgE L a rs] (hn : n = rs.length) :
    CallS Try.prog 144 [.agg #[.slice a n cap]].toArray L (fun v M => ∃ a' c', v = .tuple #[.agg #[.slice a' (cdV rs).length c'], .int .i64 (erD rs)] ∧ M = sl rgE a' c' (cdV rs) :: L) := by
  subst hn
  refine CallS.ent ?_
  refine CallS.enter Try.func144 rfl rfl rfl rfl rfl ?_
  refine J.seq rfl ?_
  refine J.region rfl ?_
  refine JO.eff rfl rfl rfl (Eff.box (cs := [_]) rfl rfl) ?_
  rintro _ _ ⟨b1, rfl, rfl⟩
  refine JO.eff rfl rfl rfl (Eff.alloc (cs := [_]) rfl) ?_
  rintro _ _ ⟨b2, rfl, rfl⟩
  refine JO.pur rfl rfl rfl (Pur.assign rfl) ?_
  refine JO.nil ?_
  refine J.seq rfl ?_
  refine J.seq rfl ?_
  refine J.region rfl ?_
  refine JO.pur rfl rfl rfl (Pur.loadA rfl rfl rfl CellsIn.blk) ?_
  refine JO.effR rfl rfl rfl (Eff.call rfl (d_Valid (rs := rs) rfl)) ?_
  refine JO.pur rfl rfl rfl (Pur.not rfl) ?_
  refine JO.nil ?_
  refine J.splitB 6 rfl (fun h6 => ?_) (fun h6 => ?_)
  · try simp only [decide_eq_true_eq, decide_eq_false_iff_not, Bool.not_eq_true', Bool.not_eq_false', Bool.and_eq_true, Bool.or_eq_true, Bool.and_eq_false_iff, Bool.or_eq_false_iff, Option.isNone_some, Option.isSome_some, Option.isNone_none, Option.isSome_none, Int.not_lt, Int.not_le, beq_iff_eq, beq_eq_false_iff_ne, bne_iff_ne, ne_eq, Bool.not_not, Decidable.not_not] at h6
    have hbad : ¬ okD rs := by simpa using h6
    refine J.condT rfl rfl ?_
    refine J.seq rfl ?_
    refine J.region rfl ?_
    refine JO.pur rfl rfl rfl (Pur.build (cs := [_]) rfl rfl) ?_
    refine JO.effN rfl rfl (Eff.storeBA (cs' := [_]) rfl rfl (by rfl) (by rfl) (by rfl)) ?_
    rintro _ _ ⟨rfl, rfl⟩
    refine JO.pur rfl rfl rfl (Pur.assign rfl) ?_
    refine JO.nil ?_
    refine J.retC rfl (.cell rfl (ld_agg rfl CellsIn.blk) (.tmp rfl .nil)) ?_
    refine ⟨_, _, ⟨none, 0, rfl, rfl⟩, ?_, fun h s => ?_⟩
    · unfold cdV erD; rw [if_neg hbad, if_neg hbad]; rfl
    · unfold cdV; rw [if_neg hbad]; exact sl_nil_new (SubC.out h s)
  · try simp only [decide_eq_true_eq, decide_eq_false_iff_not, Bool.not_eq_true', Bool.not_eq_false', Bool.and_eq_true, Bool.or_eq_true, Bool.and_eq_false_iff, Bool.or_eq_false_iff, Option.isNone_some, Option.isSome_some, Option.isNone_none, Option.isSome_none, Int.not_lt, Int.not_le, beq_iff_eq, beq_eq_false_iff_ne, bne_iff_ne, ne_eq, Bool.not_not, Decidable.not_not] at h6
    have hgood : okD rs := by simpa using h6
    refine J.condF rfl rfl ?_
    refine J.skip rfl ?_
    refine J.seq rfl ?_
    refine J.region rfl ?_
    refine JO.pur rfl rfl rfl (Pur.loadA rfl rfl rfl CellsIn.blk) ?_
    refine JO.eff rfl rfl rfl (Eff.call rfl (d_canon (rs := rs) rfl hgood)) ?_
    rintro _ _ ⟨a9, c9, rfl, rfl⟩
    refine JO.effN rfl rfl (Eff.storeBA (cs' := [_]) rfl rfl (by rfl) (by rfl) (by rfl)) ?_
    rintro _ _ ⟨rfl, rfl⟩
    refine JO.pur rfl rfl rfl (Pur.assign rfl) ?_
    refine JO.nil ?_
    refine J.retC rfl (.cell rfl (ld_agg rfl CellsIn.blk) (.tmp rfl .nil)) ?_
    refine ⟨_, _, ⟨a9, c9, rfl, rfl⟩, ?_, fun h s => ?_⟩
    · unfold cdV erD; rw [if_pos hgood, if_pos hgood, canD_len]; rfl
    · unfold cdV; rw [if_pos hgood]; exact SubC.out h s

def ixD (rs : List Rg) (i : Nat) : List Int := ((idx rs)[i]?).getD []
theorem ixD_get {rs : List Rg} {i : Nat} (h : i < cntD rs) : (idx rs)[i]? = some (ixD rs i) := by
  unfold ixD; rw [List.getElem?_eq_getElem (by rw [idx_len]; exact h)]; rfl
end Go.Proofs.Ytnhippfllgnngaa

/- The text SB3. -/
set_option linter.unusedVariables false
set_option linter.unusedSimpArgs false
set_option maxRecDepth 10000
namespace Go.Proofs.Ytnhippfllgnngaa
open Go Go.KK Dm

/-- What Place answers. -/
def plV (rs : List Rg) (x : List Int) : Int × Int := if ¬ okD rs then (0, 40) else if x.length ≠ rs.length then (0, 2) else match plD rs x with | some n => ((n : Int), 0) | none => (0, 5)
theorem plK_none {d : List Rg} {x : List Int} : ∀ {j k : Nat}, k ≤ j → plK d x k = none → plK d x j = none
  | 0, k, h, e => by rw [show k = 0 by omega] at e; exact e
  | j + 1, k, h, e => by
    by_cases he : k = j + 1
    · rw [← he]; exact e
    · have := plK_none (d := d) (x := x) (j := j) (k := k) (by omega) e
      unfold plK; rw [this]
theorem plK_lt {d : List Rg} (h : okRs d) {x : List Int} {k n : Nat} (hd : k ≤ d.length) (hx : k ≤ x.length) (e : plK d x k = some n) : n < cntD (d.take k) := by
  have := (plK_idx h (x := x) hd hx).1 e
  rw [← idx_len_take d k hd]; exact (List.getElem?_eq_some_iff.1 this).1
theorem cntD_take_le2 {rs : List Rg} (h0 : cntD rs ≠ 0) {k : Nat} (hk : k ≤ rs.length) : cntD (rs.take k) ≤ cntD rs := by
  have := cntD_take_le (rs := rs) (fun r hr => cnt_pos hr h0) (j := rs.length) (k := k) hk (Nat.le_refl _)
  rwa [List.take_length] at this
/-- What Has answers. -/
def hasV (rs : List Rg) (x : List Int) : Bool × Int := if ¬ okD rs then (false, 40) else if x.length ≠ rs.length then (false, 2) else ((plD rs x).isSome, 0)
/-- What Ith answers. -/
def ithV (rs : List Rg) (i : Int) : List Int × Int := if ¬ okD rs then ([], 40) else if i < 0 ∨ (cntD rs : Int) ≤ i then ([], 2) else (ixD rs i.toNat, 0)
/-- What Indexes answers. -/
def ixsV (rs : List Rg) : List (List Int) := if okD rs then idx rs else []
theorem hasV_eq {rs : List Rg} {x : List Int} : hasV rs x = if (plV rs x).2 = 5 then (false, 0) else (decide ((plV rs x).2 = 0), (plV rs x).2) := by
  unfold hasV plV
  by_cases g1 : okD rs
  · rw [if_neg (not_not_intro g1), if_neg (not_not_intro g1)]
    by_cases g2 : x.length ≠ rs.length
    · rw [if_pos g2, if_pos g2]; rfl
    · rw [if_neg g2, if_neg g2]
      cases plD rs x <;> rfl
  · rw [if_pos g1, if_pos g1]; rfl
theorem plD_some {rs : List Rg} {x : List Int} (hl : x.length = rs.length) : plD rs x = plK rs x rs.length := by unfold plD; rw [if_pos hl]
theorem cntD_mono3 {rs : List Rg} (h : okRs rs) {k : Nat} (hk : k ≤ rs.length) (h3 : rs.length ≤ 3) : (cntD (rs.take k) : Nat) ≤ 2000001 ^ k := by
  induction k with
  | zero => rw [List.take_zero]; decide
  | succ k ih =>
    rw [cntD_take hk, Nat.pow_succ]
    exact Nat.mul_le_mul (ih (by omega)) (cnt_le (h _ (getD_mem hk)))
theorem d_Place {L : List Asn} {a b : Option Addr} {n cap m cq : Nat} {rs : List Rg} {x : List Int} [SlIn rgE L a rs] [SlIn intE L b x] (hn : n = rs.length) (hm : m = x.length) :
    CallS Try.prog 88 [.agg #[.slice a n cap], .slice b m cq].toArray L (fun v M => v = .tuple #[.int .i64 (plV rs x).1, .int .i64 (plV rs x).2] ∧ M = L) := by
  subst hn
  subst hm
  refine CallS.ent ?_
  refine CallS.enter Try.func88 rfl rfl rfl rfl rfl ?_
  refine J.seq rfl ?_
  refine J.region rfl ?_
  refine JO.eff rfl rfl rfl (Eff.box (cs := [_]) rfl rfl) ?_
  rintro _ _ ⟨b2, rfl, rfl⟩
  refine JO.pur rfl rfl rfl (Pur.assign rfl) ?_
  refine JO.pur rfl rfl rfl (Pur.assign rfl) ?_
  refine JO.nil ?_
  refine J.seq rfl ?_
  refine J.region rfl ?_
  refine JO.pur rfl rfl rfl (Pur.loadA rfl rfl rfl CellsIn.blk) ?_
  refine JO.eff rfl rfl rfl (Eff.call rfl (counts_ok (rs := rs) rfl)) ?_
  rintro _ _ ⟨a16, c16, rfl, rfl⟩
  refine JO.pur rfl rfl rfl (Pur.move rfl) ?_
  refine JO.pur rfl rfl rfl (Pur.extract rfl rfl) ?_
  refine JO.pur rfl rfl rfl (Pur.extract rfl rfl) ?_
  refine JO.pur rfl rfl rfl (Pur.extract rfl rfl) ?_
  refine JO.setv (u' := .bool (decide (okD rs))) 19 rfl rfl ?_
  refine JO.pur rfl rfl rfl (Pur.assign rfl) ?_
  refine JO.pur rfl rfl rfl (Pur.assign rfl) ?_
  refine JO.pur rfl rfl rfl (Pur.assign rfl) ?_
  refine JO.nil ?_
  refine J.seq rfl ?_
  refine J.block rfl ?_
  refine J.seq rfl ?_
  refine J.region rfl ?_
  refine JO.pur rfl rfl rfl (Pur.move rfl) ?_
  refine JO.pur rfl rfl rfl (Pur.not rfl) ?_
  refine JO.setv (u' := .bool (!decide (okD rs))) 22 rfl rfl ?_
  refine JO.pur rfl rfl rfl (Pur.assign rfl) ?_
  refine JO.nil ?_
  refine J.splitB 20 rfl (fun h20 => ?_) (fun h20 => ?_)
  · try simp only [decide_eq_true_eq, decide_eq_false_iff_not, Bool.not_eq_true', Bool.not_eq_false', Bool.and_eq_true, Bool.or_eq_true, Bool.and_eq_false_iff, Bool.or_eq_false_iff, Option.isNone_some, Option.isSome_some, Option.isNone_none, Option.isSome_none, Int.not_lt, Int.not_le, beq_iff_eq, beq_eq_false_iff_ne, bne_iff_ne, ne_eq, Bool.not_not, Decidable.not_not] at h20
    have hbad : ¬ okD rs := by simpa using h20
    refine J.condT rfl rfl ?_
    refine J.seq rfl ?_
    refine J.region rfl ?_
    refine JO.pur rfl rfl rfl (Pur.assign rfl) ?_
    refine JO.pur rfl rfl rfl (Pur.assign rfl) ?_
    refine JO.nil ?_
    refine J.ret rfl rfl ?_
    refine ⟨_, _, ⟨rfl, rfl⟩, ?_, SubC.out⟩
    unfold plV; rw [if_pos hbad]; rfl
  · try simp only [decide_eq_true_eq, decide_eq_false_iff_not, Bool.not_eq_true', Bool.not_eq_false', Bool.and_eq_true, Bool.or_eq_true, Bool.and_eq_false_iff, Bool.or_eq_false_iff, Option.isNone_some, Option.isSome_some, Option.isNone_none, Option.isSome_none, Int.not_lt, Int.not_le, beq_iff_eq, beq_eq_false_iff_ne, bne_iff_ne, ne_eq, Bool.not_not, Decidable.not_not] at h20
    have hgood : okD rs := by simpa using h20
    have hls : lsD rs = rs.map cntI := by unfold lsD; rw [if_pos hgood]
    have hll : (lsD rs).length = rs.length := by rw [hls]; simp
    have hl3 := hgood.2.1
    have hc4 := hgood.2.2.2
    refine J.condF rfl rfl ?_
    refine J.seq rfl ?_
    refine J.region rfl ?_
    refine JO.pur rfl rfl rfl (Pur.move rfl) ?_
    refine JO.pur rfl rfl rfl (Pur.len rfl) ?_
    refine JO.pur rfl rfl rfl (Pur.move rfl) ?_
    refine JO.pur rfl rfl rfl (Pur.len rfl) ?_
    refine JO.pur rfl rfl rfl (Pur.neqI rfl rfl) ?_
    refine JO.pur rfl rfl rfl (Pur.assign rfl) ?_
    refine JO.nil ?_
    refine J.splitB 23 rfl (fun h23 => ?_) (fun h23 => ?_)
    · try simp only [decide_eq_true_eq, decide_eq_false_iff_not, Bool.not_eq_true', Bool.not_eq_false', Bool.and_eq_true, Bool.or_eq_true, Bool.and_eq_false_iff, Bool.or_eq_false_iff, Option.isNone_some, Option.isSome_some, Option.isNone_none, Option.isSome_none, Int.not_lt, Int.not_le, beq_iff_eq, beq_eq_false_iff_ne, bne_iff_ne, ne_eq, Bool.not_not, Decidable.not_not] at h23
      have hle : x.length ≠ rs.length := by rw [hll] at h23; omega
      refine J.condT rfl rfl ?_
      refine J.seq rfl ?_
      refine J.region rfl ?_
      refine JO.pur rfl rfl rfl (Pur.assign rfl) ?_
      refine JO.pur rfl rfl rfl (Pur.assign rfl) ?_
      refine JO.nil ?_
      refine J.ret rfl rfl ?_
      refine ⟨_, _, ⟨rfl, rfl⟩, ?_, SubC.out⟩
      unfold plV; rw [if_neg (not_not_intro hgood), if_pos hle]; rfl
    · try simp only [decide_eq_true_eq, decide_eq_false_iff_not, Bool.not_eq_true', Bool.not_eq_false', Bool.and_eq_true, Bool.or_eq_true, Bool.and_eq_false_iff, Bool.or_eq_false_iff, Option.isNone_some, Option.isSome_some, Option.isNone_none, Option.isSome_none, Int.not_lt, Int.not_le, beq_iff_eq, beq_eq_false_iff_ne, bne_iff_ne, ne_eq, Bool.not_not, Decidable.not_not] at h23
      have hle : x.length = rs.length := by rw [hll] at h23; omega
      refine J.condF rfl rfl ?_
      refine J.skip rfl ?_
      refine J.inBlock ?_
      refine J.seq rfl ?_
      refine J.region rfl ?_
      refine JO.pur rfl rfl rfl (Pur.assign rfl) ?_
      refine JO.nil ?_
      refine J.seq rfl ?_
      refine J.seq rfl ?_
      refine J.region rfl ?_
      refine JO.pur rfl rfl rfl (Pur.fieldAddr rfl) ?_
      refine JO.pur rfl rfl rfl (Pur.load rfl (CellIn.blk rfl)) ?_
      refine JO.pur rfl rfl rfl (Pur.len rfl) ?_
      refine JO.pur rfl rfl rfl (Pur.move rfl) ?_
      refine JO.nil ?_
      refine J.block rfl ?_
      refine J.loopF (ι := Nat × Nat) (fun q => q.1 ≤ rs.length ∧ plK rs x q.1 = some q.2) (fun q => [(9, .int .i64 (q.2 : Int)), (32, .int .i64 (q.1 : Int))]) [(1, _), (6, _), (30, _), (31, _)] (fun q => sl intE a16 c16 (lsD rs) :: blk b2 (.cells #[.slice a rs.length cap] 24) :: L) (fun q => rs.length - q.1) (0, 0) rfl (.cons rfl rfl (.cons rfl rfl (.cons rfl rfl (.cons rfl rfl .nil)))) (.cons rfl rfl (.cons rfl rfl .nil)) (by first | exact fun _ h => h | exact SubC.out | (dsimp only; exact SubC.out)) ⟨Nat.zero_le _, rfl⟩ ?_
      rintro ⟨k, at1⟩ ⟨hk, hat⟩ ih0
      try dsimp only
      dsimp only at hk hat
      refine J.seq rfl ?_
      refine J.region rfl ?_
      refine JO.pur rfl rfl rfl (Pur.lss rfl rfl) ?_
      refine JO.nil ?_
      refine J.seq rfl ?_
      refine J.splitB 33 rfl (fun h33 => ?_) (fun h33 => ?_)
      · try simp only [decide_eq_true_eq, decide_eq_false_iff_not, Bool.not_eq_true', Bool.not_eq_false', Bool.and_eq_true, Bool.or_eq_true, Bool.and_eq_false_iff, Bool.or_eq_false_iff, Option.isNone_some, Option.isSome_some, Option.isNone_none, Option.isSome_none, Int.not_lt, Int.not_le, beq_iff_eq, beq_eq_false_iff_ne, bne_iff_ne, ne_eq, Bool.not_not, Decidable.not_not] at h33
        have hkl : k < rs.length := by omega
        have hlt := plK_lt hgood.2.2.1 (x := x) hk (by omega) hat
        have hxk : rs[k]? = some (rs.getD k default) := by rw [List.getD_eq_getElem?_getD, List.getElem?_eq_getElem hkl]; rfl
        have hmem := getD_mem (d := rs) (k := k) hkl
        have hct := cntD_take hkl
        have hpk : ∀ u, plR (rs.getD k default) (x.getD k default) = u → plK rs x (k + 1) = u.map (fun i => at1 * cnt (rs.getD k default) + i) := fun u hu => by
          unfold plK; rw [hat, hu]; cases u <;> rfl
        have hcm := cntD_mono3 hgood.2.2.1 hk hl3
        generalize hrr : rs.getD k default = r at *
        have hor := hgood.2.2.1 r hmem
        have hce := cnt_eq hor
        have hcl := cnt_le hor
        have hcg : (lsD rs)[k]? = some ((cnt r : Nat) : Int) := by rw [hls, List.getElem?_map, hxk, hce]; rfl
        have hxx : x[k]? = some (x.getD k default) := by rw [List.getD_eq_getElem?_getD, List.getElem?_eq_getElem (by omega)]; rfl
        generalize hxd : x.getD k default = y at *
        have hcm2 : cntD (rs.take k) ≤ 4096 ∨ cntD rs = 0 := by
          by_cases h0 : cntD rs = 0
          · exact .inr h0
          · exact .inl (Nat.le_trans (cntD_take_le2 h0 hk) hc4)
        refine J.condT rfl rfl ?_
        refine J.skip rfl ?_
        refine J.seq rfl ?_
        refine J.block rfl ?_
        refine J.seq rfl ?_
        refine J.region rfl ?_
        refine JO.pur rfl rfl rfl (Pur.move rfl) ?_
        refine JO.pur rfl rfl rfl (Pur.idx rfl rfl rfl (by first | rfl | (simp; done) | omega) rfl (by omega)) ?_
        refine JO.pur rfl rfl rfl (Pur.loadA rfl rfl rfl (CellsIn.el rfl hxk)) ?_
        refine JO.setv (u' := rgV r) 36 rfl rfl ?_
        refine JO.eff rfl rfl rfl (Eff.alloc (cs := [_, _, _]) rfl) ?_
        rintro _ _ ⟨b11, rfl, rfl⟩
        refine JO.pur rfl rfl rfl (Pur.assign rfl) ?_
        refine JO.effN rfl rfl (Eff.storeBA (cs' := [_, _, _]) rfl rfl (by rfl) (by rfl) (by rfl)) ?_
        rintro _ _ ⟨rfl, rfl⟩
        refine JO.nil ?_
        refine J.seq rfl ?_
        refine J.quiet rfl Try.mixed (by kernel_rfl) ?_
        refine JQ.pur rfl rfl rfl (Pur.loadA rfl rfl rfl CellsIn.blk) ?_
        refine JQ.pur rfl rfl rfl (Pur.move rfl) ?_
        refine JQ.pur rfl rfl rfl (Pur.move rfl) ?_
        refine JQ.pur rfl rfl rfl (Pur.idx rfl rfl rfl (by first | rfl | (simp; done) | omega) rfl (by omega)) ?_
        refine JQ.pur rfl rfl rfl (Pur.load rfl (CellIn.el0 rfl hxx rfl)) ?_
        refine JQ.setv (u' := .int .i64 y) 42 rfl rfl ?_
        refine JQ.callE rfl rfl rfl (span_Place hor) ?_
        refine JQ.pur rfl rfl rfl (Pur.move rfl) ?_
        refine JQ.pur rfl rfl rfl (Pur.extract rfl rfl) ?_
        refine JQ.setv (u' := .int .i64 (((plR r y).getD 0 : Nat) : Int)) 44 rfl rfl ?_
        refine JQ.pur rfl rfl rfl (Pur.extract rfl rfl) ?_
        refine JQ.pur rfl rfl rfl (Pur.assign rfl) ?_
        refine JQ.pur rfl rfl rfl (Pur.assign rfl) ?_
        refine JQ.nil ?_
        refine J.seq rfl ?_
        refine J.seq rfl ?_
        refine J.region rfl ?_
        refine JO.pur rfl rfl rfl (Pur.move rfl) ?_
        refine JO.pur rfl rfl rfl (Pur.neqI rfl rfl) ?_
        refine JO.nil ?_
        refine J.splitB 47 rfl (fun h47 => ?_) (fun h47 => ?_)
        · try simp only [decide_eq_true_eq, decide_eq_false_iff_not, Bool.not_eq_true', Bool.not_eq_false', Bool.and_eq_true, Bool.or_eq_true, Bool.and_eq_false_iff, Bool.or_eq_false_iff, Option.isNone_some, Option.isSome_some, Option.isNone_none, Option.isSome_none, Int.not_lt, Int.not_le, beq_iff_eq, beq_eq_false_iff_ne, bne_iff_ne, ne_eq, Bool.not_not, Decidable.not_not] at h47
          have hp : plR r y = none := by
            cases e : plR r y with
            | none => rfl
            | some i => rw [e] at h47; exact absurd rfl h47
          have hpn := plK_none (d := rs) (x := x) (j := rs.length) (k := k + 1) hkl (hpk none hp)
          refine J.condT rfl rfl ?_
          refine J.seq rfl ?_
          refine J.region rfl ?_
          refine JO.pur rfl rfl rfl (Pur.assign rfl) ?_
          refine JO.pur rfl rfl rfl (Pur.assign rfl) ?_
          refine JO.nil ?_
          refine J.ret rfl rfl ?_
          refine ⟨_, _, ⟨rfl, rfl⟩, ?_, SubC.out⟩
          unfold plV; rw [if_neg (not_not_intro hgood), if_neg (not_not_intro hle), plD_some hle, hpn]; rfl
        · try simp only [decide_eq_true_eq, decide_eq_false_iff_not, Bool.not_eq_true', Bool.not_eq_false', Bool.and_eq_true, Bool.or_eq_true, Bool.and_eq_false_iff, Bool.or_eq_false_iff, Option.isNone_some, Option.isSome_some, Option.isNone_none, Option.isSome_none, Int.not_lt, Int.not_le, beq_iff_eq, beq_eq_false_iff_ne, bne_iff_ne, ne_eq, Bool.not_not, Decidable.not_not] at h47
          obtain ⟨z, hp⟩ : ∃ z, plR r y = some z := by
            cases e : plR r y with
            | none => rw [e] at h47; exact absurd h47 (by decide)
            | some i => exact ⟨i, rfl⟩
          have hat2 := hpk (some z) hp
          have hzl := plR_lt hor hp
          have hlt2 := plK_lt hgood.2.2.1 (x := x) (k := k + 1) hkl (by omega) hat2
          have hcm3 := cntD_mono3 hgood.2.2.1 (k := k + 1) hkl hl3
          have hb1 : at1 * cnt r + z < 9000000000000000000 := by
            have : (2000001 : Nat) ^ (k + 1) ≤ 2000001 ^ 3 := Nat.pow_le_pow_right (by decide) (by omega)
            have : (2000001 : Nat) ^ 3 = 8000012000006000001 := by decide
            have hlt3 : at1 * cnt r + z < cntD (rs.take (k + 1)) := hlt2
            omega
          have hsum : ((at1 : Nat) : Int) * ((cnt r : Nat) : Int) + ((z : Nat) : Int) = ((at1 * cnt r + z : Nat) : Int) := by simp
          have hmm : ((at1 : Nat) : Int) * ((cnt r : Nat) : Int) = ((at1 * cnt r : Nat) : Int) := by simp
          refine J.condF rfl rfl ?_
          refine J.skip rfl ?_
          refine J.region rfl ?_
          refine JO.pur rfl rfl rfl (Pur.move rfl) ?_
          refine JO.pur rfl rfl rfl (Pur.move rfl) ?_
          refine JO.pur rfl rfl rfl (Pur.move rfl) ?_
          refine JO.pur rfl rfl rfl (Pur.idx rfl rfl rfl (by first | rfl | (simp; done) | omega) rfl (by omega)) ?_
          refine JO.pur rfl rfl rfl (Pur.load rfl (CellIn.el0 rfl hcg rfl)) ?_
          refine JO.pur rfl rfl rfl (Pur.mul rfl rfl (wr64 (by rw [hmm]; omega))) ?_
          refine JO.setv (u' := .int .i64 ((z : Nat) : Int)) 12 rfl (by rw [hp]; rfl) ?_
          refine JO.pur rfl rfl rfl (Pur.move rfl) ?_
          refine JO.pur rfl rfl rfl (Pur.add rfl rfl (wr64 (by rw [hsum]; omega))) ?_
          refine JO.pur rfl rfl rfl (Pur.assign rfl) ?_
          refine JO.nil ?_
          refine J.inBlock ?_
          refine J.region rfl ?_
          refine JO.pur rfl rfl rfl (Pur.add rfl rfl (wr64 (by omega))) ?_
          refine JO.pur rfl rfl rfl (Pur.move rfl) ?_
          refine JO.nil ?_
          exact J.weaken (.cons rfl (congrArg (Value.int .i64) hsum) (.cons rfl (congrArg (Value.int .i64) (by first | rfl | (dsimp only; omega))) (.cons rfl rfl (.cons rfl rfl (.cons rfl rfl (.cons rfl rfl .nil)))))) (by first | exact fun _ h => h | exact SubC.out | (dsimp only; exact SubC.out)) (ih0 (k + 1, at1 * cnt r + z) ⟨by dsimp only; omega, hat2⟩ (by dsimp only; omega))
      · try simp only [decide_eq_true_eq, decide_eq_false_iff_not, Bool.not_eq_true', Bool.not_eq_false', Bool.and_eq_true, Bool.or_eq_true, Bool.and_eq_false_iff, Bool.or_eq_false_iff, Option.isNone_some, Option.isSome_some, Option.isNone_none, Option.isSome_none, Int.not_lt, Int.not_le, beq_iff_eq, beq_eq_false_iff_ne, bne_iff_ne, ne_eq, Bool.not_not, Decidable.not_not] at h33
        have hke : k = rs.length := by omega
        rw [hke] at hat
        refine J.condF rfl rfl ?_
        refine J.exit rfl rfl ?_
        refine J.seq rfl ?_
        refine J.region rfl ?_
        refine JO.pur rfl rfl rfl (Pur.move rfl) ?_
        refine JO.pur rfl rfl rfl (Pur.assign rfl) ?_
        refine JO.pur rfl rfl rfl (Pur.assign rfl) ?_
        refine JO.nil ?_
        refine J.ret rfl rfl ?_
        refine ⟨_, _, ⟨rfl, rfl⟩, ?_, SubC.out⟩
        unfold plV; rw [if_neg (not_not_intro hgood), if_neg (not_not_intro hle), plD_some hle, hat]; rfl

theorem d_Has {L : List Asn} {a b : Option Addr} {n cap m cq : Nat} {rs : List Rg} {x : List Int} [SlIn rgE L a rs] [SlIn intE L b x] (hn : n = rs.length) (hm : m = x.length) :
    CallS Try.prog 101 [.agg #[.slice a n cap], .slice b m cq].toArray L (fun v M => v = .tuple #[.bool (hasV rs x).1, .int .i64 (hasV rs x).2] ∧ M = L) := by
  refine CallS.ent ?_
  refine CallS.enter Try.func101 rfl rfl rfl rfl rfl ?_
  refine J.seq rfl ?_
  refine J.region rfl ?_
  refine JO.eff rfl rfl rfl (Eff.box (cs := [_]) rfl rfl) ?_
  rintro _ _ ⟨b2, rfl, rfl⟩
  refine JO.pur rfl rfl rfl (Pur.assign rfl) ?_
  refine JO.pur rfl rfl rfl (Pur.assign rfl) ?_
  refine JO.nil ?_
  refine J.seq rfl ?_
  refine J.region rfl ?_
  refine JO.pur rfl rfl rfl (Pur.loadA rfl rfl rfl CellsIn.blk) ?_
  refine JO.pur rfl rfl rfl (Pur.move rfl) ?_
  refine JO.effR rfl rfl rfl (Eff.call rfl (d_Place (rs := rs) (x := x) hn hm)) ?_
  refine JO.pur rfl rfl rfl (Pur.move rfl) ?_
  refine JO.pur rfl rfl rfl (Pur.extract rfl rfl) ?_
  refine JO.pur rfl rfl rfl (Pur.extract rfl rfl) ?_
  refine JO.pur rfl rfl rfl (Pur.assign rfl) ?_
  refine JO.pur rfl rfl rfl (Pur.assign rfl) ?_
  refine JO.nil ?_
  refine J.seq rfl ?_
  refine J.seq rfl ?_
  refine J.region rfl ?_
  refine JO.pur rfl rfl rfl (Pur.move rfl) ?_
  refine JO.pur rfl rfl rfl (Pur.eqlI rfl rfl) ?_
  refine JO.nil ?_
  refine J.splitB 15 rfl (fun h15 => ?_) (fun h15 => ?_)
  · try simp only [decide_eq_true_eq, decide_eq_false_iff_not, Bool.not_eq_true', Bool.not_eq_false', Bool.and_eq_true, Bool.or_eq_true, Bool.and_eq_false_iff, Bool.or_eq_false_iff, Option.isNone_some, Option.isSome_some, Option.isNone_none, Option.isSome_none, Int.not_lt, Int.not_le, beq_iff_eq, beq_eq_false_iff_ne, bne_iff_ne, ne_eq, Bool.not_not, Decidable.not_not] at h15
    have h15' : (plV rs x).2 = 5 := h15
    refine J.condT rfl rfl ?_
    refine J.seq rfl ?_
    refine J.region rfl ?_
    refine JO.pur rfl rfl rfl (Pur.assign rfl) ?_
    refine JO.pur rfl rfl rfl (Pur.assign rfl) ?_
    refine JO.nil ?_
    refine J.ret rfl rfl ?_
    refine ⟨_, _, ⟨rfl, rfl⟩, ?_, SubC.out⟩
    rw [hasV_eq, if_pos h15']; rfl
  · try simp only [decide_eq_true_eq, decide_eq_false_iff_not, Bool.not_eq_true', Bool.not_eq_false', Bool.and_eq_true, Bool.or_eq_true, Bool.and_eq_false_iff, Bool.or_eq_false_iff, Option.isNone_some, Option.isSome_some, Option.isNone_none, Option.isSome_none, Int.not_lt, Int.not_le, beq_iff_eq, beq_eq_false_iff_ne, bne_iff_ne, ne_eq, Bool.not_not, Decidable.not_not] at h15
    have h15' : ¬ (plV rs x).2 = 5 := h15
    refine J.condF rfl rfl ?_
    refine J.skip rfl ?_
    refine J.seq rfl ?_
    refine J.region rfl ?_
    refine JO.pur rfl rfl rfl (Pur.move rfl) ?_
    refine JO.pur rfl rfl rfl (Pur.eqlI rfl rfl) ?_
    refine JO.pur rfl rfl rfl (Pur.move rfl) ?_
    refine JO.pur rfl rfl rfl (Pur.assign rfl) ?_
    refine JO.pur rfl rfl rfl (Pur.assign rfl) ?_
    refine JO.nil ?_
    refine J.ret rfl rfl ?_
    refine ⟨_, _, ⟨rfl, rfl⟩, ?_, SubC.out⟩
    rw [hasV_eq, if_neg h15']; rfl

end Go.Proofs.Ytnhippfllgnngaa

/- The text SC1. -/
set_option linter.unusedVariables false
set_option linter.unusedSimpArgs false
set_option maxRecDepth 10000
namespace Go.Proofs.Ytnhippfllgnngaa
open Go Go.KK Dm

def capN (n : Nat) : Nat := min n 1099511627776
/-- The reference's ranges: each canonical, and, where one has no member, the first ones emptied. -/
def emp (rs : List Rg) (j : Nat) : List Rg := (List.replicate j none3) ++ (rs.map canR).drop j
end Go.Proofs.Ytnhippfllgnngaa

/- The text SC2. -/
set_option linter.unusedVariables false
set_option linter.unusedSimpArgs false
set_option maxRecDepth 10000
namespace Go.Proofs.Ytnhippfllgnngaa
open Go Go.KK Dm

end Go.Proofs.Ytnhippfllgnngaa

/- The text SC3. -/
set_option linter.unusedVariables false
set_option linter.unusedSimpArgs false
set_option maxRecDepth 10000
namespace Go.Proofs.Ytnhippfllgnngaa
open Go Go.KK Dm

/-- A list of which i at each end have changed places. -/
def rvL {α : Type} [Inhabited α] (xs : List α) (i : Nat) : List α := (List.range xs.length).map fun k => if k < i ∨ xs.length - 1 - k < i then xs.getD (xs.length - 1 - k) default else xs.getD k default
theorem getD_some {α : Type} [Inhabited α] {xs : List α} {k : Nat} (h : k < xs.length) : xs[k]? = some (xs.getD k default) := by
  rw [List.getD_eq_getElem?_getD, List.getElem?_eq_getElem h]; rfl
end Go.Proofs.Ytnhippfllgnngaa

/- The text SC4. -/
set_option linter.unusedVariables false
set_option linter.unusedSimpArgs false
set_option maxRecDepth 10000
namespace Go.Proofs.Ytnhippfllgnngaa
open Go Go.KK Dm

def trD (rs : List Rg) : List Rg := if okD rs then (canD rs).reverse else []
end Go.Proofs.Ytnhippfllgnngaa

/- The text LPlain. -/
/-!
  Layouts, plain: the indexes of a domain in the order of a layout, and where one stands. No program in sight.
-/
set_option linter.unusedVariables false
set_option linter.unusedSimpArgs false
namespace Dm
def rowS : ByteArray := ⟨#[114, 111, 119, 115]⟩
def colS : ByteArray := ⟨#[99, 111, 108, 117, 109, 110, 115]⟩
def okL (s : ByteArray) : Prop := s = rowS ∨ s = colS
instance (s : ByteArray) : Decidable (okL s) := inferInstanceAs (Decidable (_ ∨ _))
def isC (s : ByteArray) : Bool := decide (s = colS)
/-- An index, turned as the layout turns it. -/
def ixL (c : Bool) (x : List Int) : List Int := if c = true then x.reverse else x
/-- A domain, turned. -/
def tuL (c : Bool) (rs : List Rg) : List Rg := if c = true then rs.reverse else rs
def ordL (c : Bool) (rs : List Rg) : List (List Int) := (idx (tuL c rs)).map (ixL c)
def offL (c : Bool) (rs : List Rg) (x : List Int) : Option Nat := plD (tuL c rs) (ixL c x)
theorem ord_len (c : Bool) (rs : List Rg) : (ordL c rs).length = cntD (tuL c rs) := by unfold ordL; rw [List.length_map, idx_len]
/-- What a search through the list finds. -/
def findL (l : List (List Int)) (x : List Int) : Int := match l.findIdx? (fun y => decide (y = x)) with | some i => (i : Int) | none => -1
/-- The place, 0 where there is none. -/
def offZ (c : Bool) (rs : List Rg) (x : List Int) : Nat := (offL c rs x).getD 0
def offsL (c : Bool) (d part : List Rg) : List Int := (ordL c part).map fun x => ((offZ c d x : Nat) : Int)
/-- Runs. -/
def runStep (out : List (Int × Int)) (n : Int) : List (Int × Int) := match out.getLast? with
  | some p => if p.1 + p.2 = n then out.set (out.length - 1) (p.1, p.2 + 1) else out ++ [(n, 1)]
  | none => out ++ [(n, 1)]
def runsOf (l : List Int) : List (Int × Int) := l.foldl runStep []
end Dm

/- The text LPlain2. -/
/-!
  What is within what, plain.
-/
set_option linter.unusedVariables false
set_option linter.unusedSimpArgs false
namespace Dm
/-- All members of r are in s. -/
def wiR (r s : Rg) : Prop := ∀ i : Nat, i < cnt r → (plR s (atR r (i : Int))).isSome = true
theorem plK_some {d : List Rg} {x : List Int} : ∀ {k : Nat}, (plK d x k).isSome = true ↔ ∀ j, j < k → (plR (d.getD j default) (x.getD j default)).isSome = true
  | 0 => by simp [plK]
  | k + 1 => by
    have ih := plK_some (d := d) (x := x) (k := k)
    unfold plK
    constructor
    · intro h j hj
      cases e1 : plK d x k with
      | none => rw [e1] at h; simp at h
      | some a =>
        cases e2 : plR (d.getD k default) (x.getD k default) with
        | none => rw [e1, e2] at h; simp at h
        | some i =>
          rcases Nat.lt_or_ge j k with hjk | hjk
          · exact (ih.1 (by rw [e1]; rfl)) j hjk
          · rw [show j = k by omega, e2]; rfl
    · intro h
      have h1 := ih.2 fun j hj => h j (by omega)
      have h2 := h k (by omega)
      cases e1 : plK d x k with
      | none => rw [e1] at h1; cases h1
      | some a =>
        cases e2 : plR (d.getD k default) (x.getD k default) with
        | none => rw [e2] at h2; cases h2
        | some i => rfl
/-- All indexes of a are of b. -/
def wiD (a b : List Rg) : Prop := ∀ x ∈ idx a, x ∈ idx b
end Dm

/- The text SD1. -/
set_option linter.unusedVariables false
set_option linter.unusedSimpArgs false
set_option maxRecDepth 10000
namespace Go.Proofs.Ytnhippfllgnngaa
open Go Go.KK Dm

instance (r s : Rg) : Decidable (wiR r s) := inferInstanceAs (Decidable (∀ i, i < cnt r → _))
instance (a b : List Rg) : Decidable (wiD a b) := inferInstanceAs (Decidable (∀ x ∈ idx a, _))
/-- The error of two domains that must have one rank. -/
def twoV (a b : List Rg) : Int := if ¬ (okD a ∧ okD b) then 40 else if a.length ≠ b.length then 2 else 0
def witV (a b : List Rg) : Bool × Int := if twoV a b ≠ 0 then (false, twoV a b) else (decide (wiD a b), 0)
end Go.Proofs.Ytnhippfllgnngaa

/- The text SD2. -/
set_option linter.unusedVariables false
set_option linter.unusedSimpArgs false
set_option maxRecDepth 10000
namespace Go.Proofs.Ytnhippfllgnngaa
open Go Go.KK Dm

theorem cloneI {L : List Asn} {a : Option Addr} {n cap : Nat} {xs : List Int} [SlIn intE L a xs] (hn : n = xs.length) (hb : xs.length ≤ 17592186044416) (hnil : a = none → n = 0 ∧ cap = 0) :
    CallS Try.prog 110 [.slice a n cap].toArray L (fun v M => ∃ a' cap', (v = .slice a' n cap' ∧ (a = none → a' = none)) ∧ M = sl intE a' cap' xs :: L) := by
  subst hn
  refine CallS.ent ?_
  refine CallS.enter Try.func110 rfl rfl rfl rfl rfl ?_
  refine J.seq rfl ?_
  refine J.region rfl ?_
  refine JO.pur rfl rfl rfl (Pur.assign rfl) ?_
  refine JO.nil ?_
  refine J.seq rfl ?_
  refine J.seq rfl ?_
  refine J.region rfl ?_
  refine JO.pur rfl rfl rfl (Pur.move rfl) ?_
  refine JO.pur rfl rfl rfl (Pur.eqlSlNil rfl) ?_
  refine JO.nil ?_
  refine J.splitB 4 rfl (fun h4 => ?_) (fun h4 => ?_)
  · try simp only [decide_eq_true_eq, decide_eq_false_iff_not, Bool.not_eq_true', Bool.not_eq_false', Bool.and_eq_true, Bool.or_eq_true, Bool.and_eq_false_iff, Bool.or_eq_false_iff, Option.isNone_some, Option.isSome_some, Option.isNone_none, Option.isSome_none, Int.not_lt, Int.not_le, beq_iff_eq, beq_eq_false_iff_ne, bne_iff_ne, ne_eq, Bool.not_not, Decidable.not_not] at h4
    have ha : a = none := by cases a with | none => rfl | some p => simp at h4
    subst ha
    obtain ⟨e1, e2⟩ := hnil rfl
    have e3 : xs = [] := List.eq_nil_of_length_eq_zero (by omega)
    subst e2; subst e3
    refine J.condT rfl rfl ?_
    refine J.seq rfl ?_
    refine J.region rfl ?_
    refine JO.pur rfl rfl rfl (Pur.assign rfl) ?_
    refine JO.nil ?_
    refine J.ret rfl rfl ?_
    exact ⟨_, _, ⟨none, 0, ⟨rfl, fun _ => rfl⟩, rfl⟩, rfl, fun h hs => sl_nil_new hs⟩
  · try simp only [decide_eq_true_eq, decide_eq_false_iff_not, Bool.not_eq_true', Bool.not_eq_false', Bool.and_eq_true, Bool.or_eq_true, Bool.and_eq_false_iff, Bool.or_eq_false_iff, Option.isNone_some, Option.isSome_some, Option.isNone_none, Option.isSome_none, Int.not_lt, Int.not_le, beq_iff_eq, beq_eq_false_iff_ne, bne_iff_ne, ne_eq, Bool.not_not, Decidable.not_not] at h4
    refine J.condF rfl rfl ?_
    refine J.skip rfl ?_
    refine J.seq rfl ?_
    refine J.region rfl ?_
    refine JO.eff rfl rfl rfl (Eff.buildSlice intE [] rfl rfl rfl rfl rfl rfl rfl) ?_
    rintro _ _ ⟨b5, rfl, -, rfl⟩
    refine JO.pur rfl rfl rfl (Pur.move rfl) ?_
    refine JO.eff rfl rfl rfl (Eff.append rfl rfl rfl rfl (by first | rfl | omega | (simp; done) | (simp; omega)) (by first | rfl | omega | (simp; done) | (simp; omega)) (by decide) (by simp; omega) (by simp; omega) hnil) ?_
    rintro _ _ ⟨a7, c7, rfl, rfl⟩
    refine JO.pur rfl rfl rfl (Pur.assign rfl) ?_
    refine JO.nil ?_
    refine J.ret rfl rfl ?_
    refine ⟨_, _, ⟨a7, c7, ⟨rfl, fun e => ?_⟩, rfl⟩, ?_, fun h hs => ?_⟩
    · rw [e] at h4; simp at h4
    · show Value.slice _ _ _ = Value.slice _ _ _
      simp
    · simpa using hs

def stE : Enc ByteArray := ⟨9, 1, fun s => [.string s], fun _ => rfl, fun s v h => by
  simp only [List.mem_cons, List.not_mem_nil, or_false] at h; rcases h with rfl; rfl⟩
def domE : Enc Hdr := hdrE 24
def askV (ss : List ByteArray) (ds : List (List Rg)) : Int := if ¬ (∀ z ∈ ss, okL z) then 60 else if ¬ (∀ d ∈ ds, okD d) then 40 else 0
end Go.Proofs.Ytnhippfllgnngaa

/- The text SpPlain. -/
set_option linter.unusedVariables false
set_option linter.unusedSimpArgs false
/-! Sparse domains, plain. -/
namespace Go.Proofs.Ytnhippfllgnngaa
open Go Go.KK Dm
/-- The place of an index, 0 where it has none. -/
def atS (rs : List Rg) (x : List Int) : Int := (((plD rs x).getD 0 : Nat) : Int)
def lastS (rs : List Rg) (xss : List (List Int)) (j : Nat) : Int := if j = 0 then -1 else atS rs (xss.getD (j - 1) [])
def stepS (rs : List Rg) (xss : List (List Int)) (j : Nat) : Prop := (plD rs (xss.getD j [])).isSome = true ∧ lastS rs xss j < atS rs (xss.getD j [])
instance (rs : List Rg) (xss : List (List Int)) (j : Nat) : Decidable (stepS rs xss j) := inferInstanceAs (Decidable (_ ∧ _))
def okS (rs : List Rg) (xss : List (List Int)) : Prop := okD rs ∧ xss.length ≤ 400 ∧ ∀ j, j < xss.length → stepS rs xss j
instance (rs : List Rg) (xss : List (List Int)) : Decidable (okS rs xss) := inferInstanceAs (Decidable (_ ∧ _))
theorem atS_nonneg (rs : List Rg) (x : List Int) : 0 ≤ atS rs x := Int.natCast_nonneg _
theorem plV_ok {rs : List Rg} (h : okD rs) (x : List Int) : ((plV rs x).2 = 0 ↔ (plD rs x).isSome = true) ∧ ((plD rs x).isSome = true → plV rs x = (atS rs x, 0)) := by
  unfold plV atS
  rw [if_neg (not_not_intro h)]
  by_cases hl : x.length = rs.length
  · rw [if_neg (not_not_intro hl)]
    cases e : plD rs x with
    | none => simp
    | some n => simp
  · rw [if_pos hl]
    have : plD rs x = none := by unfold plD; rw [if_neg hl]
    simp [this]
theorem getD_at' {α : Type} {l : List α} {k : Nat} (d : α) (h : k < l.length) : l[k]? = some (l.getD k d) := by
  rw [List.getD_eq_getElem?_getD, List.getElem?_eq_getElem h]; rfl
theorem okS_some {rs : List Rg} {xss : List (List Int)} (h : okS rs xss) {x : List Int} (hx : x ∈ xss) : (plD rs x).isSome = true := by
  obtain ⟨j, hj, e⟩ := List.getElem_of_mem hx
  have := (h.2.2 j hj).1
  rwa [List.getD_eq_getElem?_getD, List.getElem?_eq_getElem hj, Option.getD_some, e] at this
theorem okS_len {rs : List Rg} {xss : List (List Int)} (h : okS rs xss) {x : List Int} (hx : x ∈ xss) : x.length = rs.length := by
  have := okS_some h hx
  unfold plD at this
  by_cases e : x.length = rs.length
  · exact e
  · rw [if_neg e] at this; cases this
theorem atS_inj {rs : List Rg} (h : okRs rs) {x y : List Int} (hx : (plD rs x).isSome = true) (hy : (plD rs y).isSome = true) (e : atS rs x = atS rs y) : x = y := by
  obtain ⟨n, hn⟩ := Option.isSome_iff_exists.1 hx
  obtain ⟨m, hm⟩ := Option.isSome_iff_exists.1 hy
  unfold atS at e
  rw [hn, hm] at e
  have e2 : n = m := Int.ofNat.inj e
  subst e2
  have a1 := (plD_iff h).1 hn
  have a2 := (plD_iff h).1 hm
  rw [a1] at a2; exact Option.some.inj a2
/-- Ascending places. -/
theorem okS_asc {rs : List Rg} {xss : List (List Int)} (h : okS rs xss) : ∀ j i, i < j → j < xss.length → atS rs (xss.getD i []) < atS rs (xss.getD j []) := by
  intro j
  induction j with
  | zero => intro i hi; omega
  | succ j ih =>
    intro i hi hj
    have h1 := (h.2.2 (j + 1) hj).2
    unfold lastS at h1
    rw [if_neg (by omega), Nat.add_sub_cancel] at h1
    by_cases e : i = j
    · subst e; exact h1
    · have := ih i (by omega) (by omega); omega
/-- The places of a list, if all have one. -/
def plcV (rs : List Rg) (l : List (List Int)) : List Int × Bool := if ∀ x ∈ l, (plV rs x).2 = 0 then (l.map (atS rs), true) else ([], false)
/-- Which one of a list an index is, or where it would stand. -/
def fndV (rs : List Rg) (xss : List (List Int)) (x : List Int) : Int × Bool := if (plV rs x).2 ≠ 0 then (0, false) else (((xss.countP fun y => decide (atS rs y < atS rs x) : Nat) : Int), decide (x ∈ xss))
theorem okS_iff {rs : List Rg} {xss : List (List Int)} (h1 : okD rs) (h2 : xss.length ≤ 400) : okS rs xss ↔ (∀ x ∈ xss, (plV rs x).2 = 0) ∧ ∀ j, 1 ≤ j → j < xss.length → atS rs (xss.getD (j - 1) []) < atS rs (xss.getD j []) := by
  constructor
  · intro h
    refine ⟨fun x hx => (plV_ok h1 x).1.2 (okS_some h hx), fun j hj hl => okS_asc h j (j - 1) (by omega) hl⟩
  · rintro ⟨h3, h4⟩
    refine ⟨h1, h2, fun j hj => ⟨?_, ?_⟩⟩
    · refine (plV_ok h1 _).1.1 (h3 _ ?_)
      rw [List.getD_eq_getElem?_getD, List.getElem?_eq_getElem hj]; exact List.getElem_mem hj
    · unfold lastS
      by_cases e : j = 0
      · rw [if_pos e]; have := atS_nonneg rs (xss.getD j []); omega
      · rw [if_neg e]; exact h4 j (by omega) hj
/-- What the reference has found out about the first ones. -/
def okN (rs : List Rg) (xss : List (List Int)) (q : Nat) : Bool := (plcV rs xss).2 && decide (∀ j, j < q → (1 ≤ j ∧ j < (plcV rs xss).1.length) → (plcV rs xss).1.getD (j - 1) 0 < (plcV rs xss).1.getD j 0)
theorem plcV_yes {rs : List Rg} {l : List (List Int)} (h : ∀ x ∈ l, (plV rs x).2 = 0) : plcV rs l = (l.map (atS rs), true) := if_pos h
theorem plcV_no {rs : List Rg} {l : List (List Int)} (h : ¬ ∀ x ∈ l, (plV rs x).2 = 0) : plcV rs l = ([], false) := if_neg h
end Go.Proofs.Ytnhippfllgnngaa
