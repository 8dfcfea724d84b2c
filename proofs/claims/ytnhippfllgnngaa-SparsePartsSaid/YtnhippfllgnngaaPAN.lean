/-
  A part of the proof of the claim that this folder bears.
-/
import Derived.Test.YtnhippfllgnngaaPAM
import Derived.Test.YtnhippfllgnngaaPAF
import Derived.Test.YtnhippfllgnngaaPAJ
import Derived.Test.YtnhippfllgnngaaKD
/- The text SD4. -/
set_option linter.unusedVariables false
set_option linter.unusedSimpArgs false
set_option maxRecDepth 10000
namespace Go.Proofs.Ytnhippfllgnngaa
open Go Go.KK Dm

def rAskV (lay lay2 : ByteArray) (rs ss : List Rg) : Int := if ¬ (okL lay ∧ okL lay2) then 60 else if ¬ (okD rs ∧ okD ss) then 40 else if rs.length ≠ ss.length then 2 else 0
theorem rAsk1 (lay : ByteArray) (rs : List Rg) : rAskV lay lay rs rs = ask1 lay rs := by simp [rAskV, ask1]
theorem row_ne : rowS ≠ colS := by decide
theorem rAsked {L : List Asn} {lay lay2 : ByteArray} {a b : Option Addr} {n cap m cq : Nat} {rs ss : List Rg} [SlIn rgE L a rs] [SlIn rgE L b ss] (hn : n = rs.length) (hm : m = ss.length) :
    CallS Try.prog 127 [.string lay, .string lay2, .agg #[.slice a n cap], .agg #[.slice b m cq]].toArray L (fun v M => v = .int .i64 (rAskV lay lay2 rs ss) ∧ M = L) := by
  subst hn
  subst hm
  refine CallS.ent ?_
  refine CallS.enter Try.func127 rfl rfl rfl rfl rfl ?_
  refine J.seq rfl ?_
  refine J.region rfl ?_
  refine JO.eff rfl rfl rfl (Eff.box (cs := [_]) rfl rfl) ?_
  rintro _ _ ⟨b6, rfl, rfl⟩
  refine JO.eff rfl rfl rfl (Eff.box (cs := [_]) rfl rfl) ?_
  rintro _ _ ⟨b7, rfl, rfl⟩
  refine JO.pur rfl rfl rfl (Pur.assign rfl) ?_
  refine JO.nil ?_
  refine J.seq rfl ?_
  refine J.block rfl ?_
  refine J.seq rfl ?_
  refine J.region rfl ?_
  refine JO.pur rfl rfl rfl (Pur.move rfl) ?_
  refine JO.effR rfl rfl rfl (Eff.call rfl (rValid (lay := lay))) ?_
  refine JO.pur rfl rfl rfl (Pur.not rfl) ?_
  refine JO.pur rfl rfl rfl (Pur.move rfl) ?_
  refine JO.setv (u' := .bool (!decide (okL lay))) 13 rfl rfl ?_
  refine JO.splitB 13 rfl (fun h13 => ?_) (fun h13 => ?_)
  · try simp only [decide_eq_true_eq, decide_eq_false_iff_not, Bool.not_eq_true', Bool.not_eq_false', Bool.and_eq_true, Bool.or_eq_true, Bool.and_eq_false_iff, Bool.or_eq_false_iff, Option.isNone_some, Option.isSome_some, Option.isNone_none, Option.isSome_none, Int.not_lt, Int.not_le, beq_iff_eq, beq_eq_false_iff_ne, bne_iff_ne, ne_eq, Bool.not_not, Decidable.not_not] at h13
    have hb1 : ¬ okL lay := by simpa using h13
    refine JO.no rfl rfl rfl ?_
    refine JO.no rfl rfl rfl ?_
    refine JO.no rfl rfl rfl ?_
    refine JO.pur rfl rfl rfl (Pur.pickT rfl rfl) ?_
    refine JO.pur rfl rfl rfl (Pur.assign rfl) ?_
    refine JO.nil ?_
    refine J.condT rfl rfl ?_
    refine J.seq rfl ?_
    refine J.region rfl ?_
    refine JO.pur rfl rfl rfl (Pur.assign rfl) ?_
    refine JO.nil ?_
    refine J.ret rfl rfl ?_
    refine ⟨_, _, ⟨rfl, rfl⟩, congrArg (Value.int .i64) (show _ = rAskV lay lay2 rs ss from ?_), SubC.out⟩
    unfold rAskV; rw [if_pos (fun g => hb1 g.1)]
  · try simp only [decide_eq_true_eq, decide_eq_false_iff_not, Bool.not_eq_true', Bool.not_eq_false', Bool.and_eq_true, Bool.or_eq_true, Bool.and_eq_false_iff, Bool.or_eq_false_iff, Option.isNone_some, Option.isSome_some, Option.isNone_none, Option.isSome_none, Int.not_lt, Int.not_le, beq_iff_eq, beq_eq_false_iff_ne, bne_iff_ne, ne_eq, Bool.not_not, Decidable.not_not] at h13
    have hg1 : okL lay := by simpa using h13
    refine JO.pur rfl rfl rfl (Pur.move rfl) ?_
    refine JO.effR rfl rfl rfl (Eff.call rfl (rValid (lay := lay2))) ?_
    refine JO.pur rfl rfl rfl (Pur.not rfl) ?_
    refine JO.pur rfl rfl rfl (Pur.pickF rfl rfl) ?_
    refine JO.pur rfl rfl rfl (Pur.assign rfl) ?_
    refine JO.nil ?_
    refine J.splitB 9 rfl (fun h9 => ?_) (fun h9 => ?_)
    · try simp only [decide_eq_true_eq, decide_eq_false_iff_not, Bool.not_eq_true', Bool.not_eq_false', Bool.and_eq_true, Bool.or_eq_true, Bool.and_eq_false_iff, Bool.or_eq_false_iff, Option.isNone_some, Option.isSome_some, Option.isNone_none, Option.isSome_none, Int.not_lt, Int.not_le, beq_iff_eq, beq_eq_false_iff_ne, bne_iff_ne, ne_eq, Bool.not_not, Decidable.not_not] at h9
      have hb2 : ¬ okL lay2 := by simpa using h9
      refine J.condT rfl rfl ?_
      refine J.seq rfl ?_
      refine J.region rfl ?_
      refine JO.pur rfl rfl rfl (Pur.assign rfl) ?_
      refine JO.nil ?_
      refine J.ret rfl rfl ?_
      refine ⟨_, _, ⟨rfl, rfl⟩, congrArg (Value.int .i64) (show _ = rAskV lay lay2 rs ss from ?_), SubC.out⟩
      unfold rAskV; rw [if_pos (fun g => hb2 g.2)]
    · try simp only [decide_eq_true_eq, decide_eq_false_iff_not, Bool.not_eq_true', Bool.not_eq_false', Bool.and_eq_true, Bool.or_eq_true, Bool.and_eq_false_iff, Bool.or_eq_false_iff, Option.isNone_some, Option.isSome_some, Option.isNone_none, Option.isSome_none, Int.not_lt, Int.not_le, beq_iff_eq, beq_eq_false_iff_ne, bne_iff_ne, ne_eq, Bool.not_not, Decidable.not_not] at h9
      have hg2 : okL lay2 := by simpa using h9
      refine J.condF rfl rfl ?_
      refine J.seq rfl ?_
      refine J.region rfl ?_
      refine JO.pur rfl rfl rfl (Pur.loadA rfl rfl rfl CellsIn.blk) ?_
      refine JO.effR rfl rfl rfl (Eff.call rfl (r_Valid (rs := rs) rfl)) ?_
      refine JO.pur rfl rfl rfl (Pur.not rfl) ?_
      refine JO.pur rfl rfl rfl (Pur.move rfl) ?_
      refine JO.setv (u' := .bool (!decide (okD rs))) 22 rfl rfl ?_
      refine JO.splitB 22 rfl (fun h22 => ?_) (fun h22 => ?_)
      · try simp only [decide_eq_true_eq, decide_eq_false_iff_not, Bool.not_eq_true', Bool.not_eq_false', Bool.and_eq_true, Bool.or_eq_true, Bool.and_eq_false_iff, Bool.or_eq_false_iff, Option.isNone_some, Option.isSome_some, Option.isNone_none, Option.isSome_none, Int.not_lt, Int.not_le, beq_iff_eq, beq_eq_false_iff_ne, bne_iff_ne, ne_eq, Bool.not_not, Decidable.not_not] at h22
        have hb3 : ¬ okD rs := by simpa using h22
        refine JO.no rfl rfl rfl ?_
        refine JO.no rfl rfl rfl ?_
        refine JO.no rfl rfl rfl ?_
        refine JO.pur rfl rfl rfl (Pur.pickT rfl rfl) ?_
        refine JO.pur rfl rfl rfl (Pur.assign rfl) ?_
        refine JO.nil ?_
        refine J.condT rfl rfl ?_
        refine J.seq rfl ?_
        refine J.region rfl ?_
        refine JO.pur rfl rfl rfl (Pur.assign rfl) ?_
        refine JO.nil ?_
        refine J.ret rfl rfl ?_
        refine ⟨_, _, ⟨rfl, rfl⟩, congrArg (Value.int .i64) (show _ = rAskV lay lay2 rs ss from ?_), SubC.out⟩
        unfold rAskV; rw [if_neg (not_not_intro ⟨hg1, hg2⟩), if_pos (fun g => hb3 g.1)]
      · try simp only [decide_eq_true_eq, decide_eq_false_iff_not, Bool.not_eq_true', Bool.not_eq_false', Bool.and_eq_true, Bool.or_eq_true, Bool.and_eq_false_iff, Bool.or_eq_false_iff, Option.isNone_some, Option.isSome_some, Option.isNone_none, Option.isSome_none, Int.not_lt, Int.not_le, beq_iff_eq, beq_eq_false_iff_ne, bne_iff_ne, ne_eq, Bool.not_not, Decidable.not_not] at h22
        have hg3 : okD rs := by simpa using h22
        refine JO.pur rfl rfl rfl (Pur.loadA rfl rfl rfl CellsIn.blk) ?_
        refine JO.effR rfl rfl rfl (Eff.call rfl (r_Valid (rs := ss) rfl)) ?_
        refine JO.pur rfl rfl rfl (Pur.not rfl) ?_
        refine JO.pur rfl rfl rfl (Pur.pickF rfl rfl) ?_
        refine JO.pur rfl rfl rfl (Pur.assign rfl) ?_
        refine JO.nil ?_
        refine J.splitB 18 rfl (fun h18 => ?_) (fun h18 => ?_)
        · try simp only [decide_eq_true_eq, decide_eq_false_iff_not, Bool.not_eq_true', Bool.not_eq_false', Bool.and_eq_true, Bool.or_eq_true, Bool.and_eq_false_iff, Bool.or_eq_false_iff, Option.isNone_some, Option.isSome_some, Option.isNone_none, Option.isSome_none, Int.not_lt, Int.not_le, beq_iff_eq, beq_eq_false_iff_ne, bne_iff_ne, ne_eq, Bool.not_not, Decidable.not_not] at h18
          have hb4 : ¬ okD ss := by simpa using h18
          refine J.condT rfl rfl ?_
          refine J.seq rfl ?_
          refine J.region rfl ?_
          refine JO.pur rfl rfl rfl (Pur.assign rfl) ?_
          refine JO.nil ?_
          refine J.ret rfl rfl ?_
          refine ⟨_, _, ⟨rfl, rfl⟩, congrArg (Value.int .i64) (show _ = rAskV lay lay2 rs ss from ?_), SubC.out⟩
          unfold rAskV; rw [if_neg (not_not_intro ⟨hg1, hg2⟩), if_pos (fun g => hb4 g.2)]
        · try simp only [decide_eq_true_eq, decide_eq_false_iff_not, Bool.not_eq_true', Bool.not_eq_false', Bool.and_eq_true, Bool.or_eq_true, Bool.and_eq_false_iff, Bool.or_eq_false_iff, Option.isNone_some, Option.isSome_some, Option.isNone_none, Option.isSome_none, Int.not_lt, Int.not_le, beq_iff_eq, beq_eq_false_iff_ne, bne_iff_ne, ne_eq, Bool.not_not, Decidable.not_not] at h18
          have hg4 : okD ss := by simpa using h18
          refine J.condF rfl rfl ?_
          refine J.seq rfl ?_
          refine J.region rfl ?_
          refine JO.pur rfl rfl rfl (Pur.fieldAddr rfl) ?_
          refine JO.pur rfl rfl rfl (Pur.load rfl (CellIn.blk rfl)) ?_
          refine JO.pur rfl rfl rfl (Pur.len rfl) ?_
          refine JO.pur rfl rfl rfl (Pur.fieldAddr rfl) ?_
          refine JO.pur rfl rfl rfl (Pur.load rfl (CellIn.blk rfl)) ?_
          refine JO.pur rfl rfl rfl (Pur.len rfl) ?_
          refine JO.pur rfl rfl rfl (Pur.neqI rfl rfl) ?_
          refine JO.pur rfl rfl rfl (Pur.assign rfl) ?_
          refine JO.nil ?_
          refine J.splitB 27 rfl (fun h27 => ?_) (fun h27 => ?_)
          · try simp only [decide_eq_true_eq, decide_eq_false_iff_not, Bool.not_eq_true', Bool.not_eq_false', Bool.and_eq_true, Bool.or_eq_true, Bool.and_eq_false_iff, Bool.or_eq_false_iff, Option.isNone_some, Option.isSome_some, Option.isNone_none, Option.isSome_none, Int.not_lt, Int.not_le, beq_iff_eq, beq_eq_false_iff_ne, bne_iff_ne, ne_eq, Bool.not_not, Decidable.not_not] at h27
            have hle : rs.length ≠ ss.length := by omega
            refine J.condT rfl rfl ?_
            refine J.seq rfl ?_
            refine J.region rfl ?_
            refine JO.pur rfl rfl rfl (Pur.assign rfl) ?_
            refine JO.nil ?_
            refine J.ret rfl rfl ?_
            refine ⟨_, _, ⟨rfl, rfl⟩, congrArg (Value.int .i64) (show _ = rAskV lay lay2 rs ss from ?_), SubC.out⟩
            unfold rAskV; rw [if_neg (not_not_intro ⟨hg1, hg2⟩), if_neg (not_not_intro ⟨hg3, hg4⟩), if_pos hle]
          · try simp only [decide_eq_true_eq, decide_eq_false_iff_not, Bool.not_eq_true', Bool.not_eq_false', Bool.and_eq_true, Bool.or_eq_true, Bool.and_eq_false_iff, Bool.or_eq_false_iff, Option.isNone_some, Option.isSome_some, Option.isNone_none, Option.isSome_none, Int.not_lt, Int.not_le, beq_iff_eq, beq_eq_false_iff_ne, bne_iff_ne, ne_eq, Bool.not_not, Decidable.not_not] at h27
            have hle : rs.length = ss.length := by omega
            refine J.condF rfl rfl ?_
            refine J.skip rfl ?_
            refine J.inBlock ?_
            refine J.seq rfl ?_
            refine J.region rfl ?_
            refine JO.pur rfl rfl rfl (Pur.assign rfl) ?_
            refine JO.nil ?_
            refine J.ret rfl rfl ?_
            refine ⟨_, _, ⟨rfl, rfl⟩, congrArg (Value.int .i64) (show _ = rAskV lay lay2 rs ss from ?_), SubC.out⟩
            unfold rAskV; rw [if_neg (not_not_intro ⟨hg1, hg2⟩), if_neg (not_not_intro ⟨hg3, hg4⟩), if_neg (not_not_intro hle)]

theorem rfind {L : List Asn} {a b : Option Addr} {n cap m cq : Nat} {hs : List Hdr} {xss : List (List Int)} {x : List Int} [SlIn hE L a hs] [RowsR intE L hs xss] [SlIn intE L b x] (hn : n = hs.length) (hm : m = x.length) (hrl : ∀ y ∈ xss, y.length ≤ 1000000) (hb : hs.length ≤ 1000000) :
    CallS Try.prog 130 [.slice a n cap, .slice b m cq].toArray L (fun v M => v = .int .i64 (findL xss x) ∧ M = L) := by
  subst hn
  subst hm
  refine CallS.fact (fun h s => RowsR.len (E := intE) (hs := hs) (xss := xss) s) fun hnn => ?_
  have hhl : hs.length = xss.length := rows_len hnn
  refine CallS.ent ?_
  refine CallS.enter Try.func130 rfl rfl rfl rfl rfl ?_
  refine J.seq rfl ?_
  refine J.region rfl ?_
  refine JO.pur rfl rfl rfl (Pur.assign rfl) ?_
  refine JO.nil ?_
  refine J.seq rfl ?_
  refine J.seq rfl ?_
  refine J.region rfl ?_
  refine JO.pur rfl rfl rfl (Pur.assign rfl) ?_
  refine JO.nil ?_
  refine J.block rfl ?_
  refine J.loopF (ι := Nat) (fun q => q ≤ xss.length ∧ ∀ j, j < q → xss[j]? ≠ some x) (fun q => [(5, .int .i64 (q : Int))]) [(0, _), (1, _)] (fun q => L) (fun q => xss.length - q) 0 rfl (.cons rfl rfl (.cons rfl rfl .nil)) (.cons rfl rfl .nil) (by first | exact fun _ h => h | exact SubC.out | (dsimp only; exact SubC.out)) ⟨Nat.zero_le _, fun j hj => by omega⟩ ?_
  rintro k ⟨hk, hno⟩ ih0
  try dsimp only
  refine J.seq rfl ?_
  refine J.seq rfl ?_
  refine J.region rfl ?_
  refine JO.pur rfl rfl rfl (Pur.move rfl) ?_
  refine JO.pur rfl rfl rfl (Pur.move rfl) ?_
  refine JO.pur rfl rfl rfl (Pur.len rfl) ?_
  refine JO.pur rfl rfl rfl (Pur.lss rfl rfl) ?_
  refine JO.nil ?_
  refine J.splitB 9 rfl (fun h9 => ?_) (fun h9 => ?_)
  · try simp only [decide_eq_true_eq, decide_eq_false_iff_not, Bool.not_eq_true', Bool.not_eq_false', Bool.and_eq_true, Bool.or_eq_true, Bool.and_eq_false_iff, Bool.or_eq_false_iff, Option.isNone_some, Option.isSome_some, Option.isNone_none, Option.isSome_none, Int.not_lt, Int.not_le, beq_iff_eq, beq_eq_false_iff_ne, bne_iff_ne, ne_eq, Bool.not_not, Decidable.not_not] at h9
    have hkl : k < xss.length := by omega
    obtain ⟨hd, hH⟩ : ∃ hd, hs[k]? = some hd := ⟨_, List.getElem?_eq_getElem (by omega)⟩
    obtain ⟨y, hX⟩ : ∃ y, xss[k]? = some y := ⟨_, List.getElem?_eq_getElem hkl⟩
    have hdn := hdr_n hnn hH hX
    have hyl := hrl y (List.mem_of_getElem? hX)
    refine J.condT rfl rfl ?_
    refine J.skip rfl ?_
    refine J.seq rfl ?_
    refine J.block rfl ?_
    refine J.seq rfl ?_
    refine J.region rfl ?_
    refine JO.pur rfl rfl rfl (Pur.move rfl) ?_
    refine JO.pur rfl rfl rfl (Pur.move rfl) ?_
    refine JO.pur rfl rfl rfl (Pur.idx rfl rfl rfl (by first | rfl | (simp; done) | omega) rfl (by omega)) ?_
    refine JO.pur rfl rfl rfl (Pur.load rfl (CellIn.el0 rfl hH rfl)) ?_
    refine JO.pur rfl rfl rfl (Pur.move rfl) ?_
    refine JO.effR rfl rfl rfl (Eff.call rfl (@same2_ok _ _ _ _ _ _ _ y x (RowsR.row (E := intE) inferInstance hH hX) inferInstance hdn rfl hyl)) ?_
    refine JO.nil ?_
    refine J.splitB 17 rfl (fun h17 => ?_) (fun h17 => ?_)
    · try simp only [decide_eq_true_eq, decide_eq_false_iff_not, Bool.not_eq_true', Bool.not_eq_false', Bool.and_eq_true, Bool.or_eq_true, Bool.and_eq_false_iff, Bool.or_eq_false_iff, Option.isNone_some, Option.isSome_some, Option.isNone_none, Option.isSome_none, Int.not_lt, Int.not_le, beq_iff_eq, beq_eq_false_iff_ne, bne_iff_ne, ne_eq, Bool.not_not, Decidable.not_not] at h17
      have hf := find_of hkl hno (by rw [hX, h17])
      refine J.condT rfl rfl ?_
      refine J.seq rfl ?_
      refine J.region rfl ?_
      refine JO.pur rfl rfl rfl (Pur.move rfl) ?_
      refine JO.pur rfl rfl rfl (Pur.assign rfl) ?_
      refine JO.nil ?_
      refine J.ret rfl rfl ?_
      exact ⟨_, _, ⟨rfl, rfl⟩, congrArg (Value.int .i64) (show _ = findL xss x by unfold findL; rw [hf]), SubC.out⟩
    · try simp only [decide_eq_true_eq, decide_eq_false_iff_not, Bool.not_eq_true', Bool.not_eq_false', Bool.and_eq_true, Bool.or_eq_true, Bool.and_eq_false_iff, Bool.or_eq_false_iff, Option.isNone_some, Option.isSome_some, Option.isNone_none, Option.isSome_none, Int.not_lt, Int.not_le, beq_iff_eq, beq_eq_false_iff_ne, bne_iff_ne, ne_eq, Bool.not_not, Decidable.not_not] at h17
      have hno2 : ∀ j, j < k + 1 → xss[j]? ≠ some x := fun j hj => by
        rcases Nat.lt_or_ge j k with h | h
        · exact hno j h
        · obtain rfl : j = k := by omega
          rw [hX]; intro e; exact h17 (Option.some.inj e)
      refine J.condF rfl rfl ?_
      refine J.skip rfl ?_
      refine J.inBlock ?_
      refine J.region rfl ?_
      refine JO.pur rfl rfl rfl (Pur.move rfl) ?_
      refine JO.pur rfl rfl rfl (Pur.add rfl rfl (wr64 (by omega))) ?_
      refine JO.pur rfl rfl rfl (Pur.assign rfl) ?_
      refine JO.nil ?_
      exact J.weaken (.cons rfl (congrArg (Value.int .i64) (by first | rfl | (dsimp only; omega))) (.cons rfl rfl (.cons rfl rfl .nil))) (by first | exact fun _ h => h | exact SubC.out | (dsimp only; exact SubC.out)) (ih0 (k + 1) ⟨by omega, hno2⟩ (by omega))
  · try simp only [decide_eq_true_eq, decide_eq_false_iff_not, Bool.not_eq_true', Bool.not_eq_false', Bool.and_eq_true, Bool.or_eq_true, Bool.and_eq_false_iff, Bool.or_eq_false_iff, Option.isNone_some, Option.isSome_some, Option.isNone_none, Option.isSome_none, Int.not_lt, Int.not_le, beq_iff_eq, beq_eq_false_iff_ne, bne_iff_ne, ne_eq, Bool.not_not, Decidable.not_not] at h9
    have hke : k = xss.length := by omega
    have hf := find_no (l := xss) (x := x) (fun j hj => hno j (by omega))
    refine J.condF rfl rfl ?_
    refine J.exit rfl rfl ?_
    refine J.seq rfl ?_
    refine J.region rfl ?_
    refine JO.pur rfl rfl rfl (Pur.assign rfl) ?_
    refine JO.nil ?_
    refine J.ret rfl rfl ?_
    exact ⟨_, _, ⟨rfl, rfl⟩, congrArg (Value.int .i64) (show _ = findL xss x by unfold findL; rw [hf]), SubC.out⟩

theorem rorder_row {L : List Asn} {lay : ByteArray} {a : Option Addr} {n cap : Nat} {rs : List Rg} [SlIn rgE L a rs] (hn : n = rs.length) (h : okD rs) (hs : lay = rowS) :
    CallS Try.prog 128 [.string lay, .agg #[.slice a n cap]].toArray L (fun v M => ∃ a' c' hs, v = .slice a' (ordL (isC lay) rs).length c' ∧ M = sl hE a' c' hs :: rows intE hs (ordL (isC lay) rs) :: L) := by
  subst hn
  refine CallS.ent ?_
  refine CallS.enter Try.func128 rfl rfl rfl rfl rfl ?_
  refine J.seq rfl ?_
  refine J.region rfl ?_
  refine JO.eff rfl rfl rfl (Eff.box (cs := [_]) rfl rfl) ?_
  rintro _ _ ⟨b3, rfl, rfl⟩
  refine JO.pur rfl rfl rfl (Pur.assign rfl) ?_
  refine JO.nil ?_
  refine J.seq rfl ?_
  refine J.seq rfl ?_
  refine J.region rfl ?_
  refine JO.pur rfl rfl rfl (Pur.move rfl) ?_
  refine JO.pur rfl rfl rfl (Pur.eqlT rfl rfl) ?_
  refine JO.setv (u' := .bool true) 15 rfl (congrArg Value.bool (decide_eq_true hs)) ?_
  refine JO.nil ?_
  refine J.condT rfl rfl ?_
  refine J.seq rfl ?_
  refine J.region rfl ?_
  refine JO.pur rfl rfl rfl (Pur.loadA rfl rfl rfl CellsIn.blk) ?_
  refine JO.eff rfl rfl rfl (Eff.call rfl (r_Indexes (rs := rs) rfl)) ?_
  rintro _ _ ⟨a18, c18, hs2, rfl, rfl⟩
  refine JO.pur rfl rfl rfl (Pur.move rfl) ?_
  refine JO.pur rfl rfl rfl (Pur.extract rfl rfl) ?_
  refine JO.pur rfl rfl rfl (Pur.extract rfl rfl) ?_
  refine JO.pur rfl rfl rfl (Pur.assign rfl) ?_
  refine JO.pur rfl rfl rfl (Pur.assign rfl) ?_
  refine JO.nil ?_
  refine J.seq rfl ?_
  refine J.region rfl ?_
  refine JO.pur rfl rfl rfl (Pur.move rfl) ?_
  refine JO.pur rfl rfl rfl (Pur.assign rfl) ?_
  refine JO.nil ?_
  refine J.ret rfl rfl ?_
  have hv : ixsV rs = ordL (isC lay) rs := by
    unfold ixsV ordL tuL ixL; rw [if_pos h, isC_f (by rw [hs]; exact row_ne)]; simp
  refine ⟨_, _, ⟨a18, c18, hs2, rfl, rfl⟩, by rw [hv]; rfl, fun h s => ?_⟩
  rw [hv] at s; exact SubC.out h s

theorem rorder_col {L : List Asn} {lay : ByteArray} {a : Option Addr} {n cap : Nat} {rs : List Rg} [SlIn rgE L a rs] (hn : n = rs.length) (h : okD rs) (hs : lay = colS) :
    CallS Try.prog 128 [.string lay, .agg #[.slice a n cap]].toArray L (fun v M => ∃ a' c' hs, v = .slice a' (ordL (isC lay) rs).length c' ∧ M = sl hE a' c' hs :: rows intE hs (ordL (isC lay) rs) :: L) := by
  subst hn
  refine CallS.ent ?_
  refine CallS.enter Try.func128 rfl rfl rfl rfl rfl ?_
  refine J.seq rfl ?_
  refine J.region rfl ?_
  refine JO.eff rfl rfl rfl (Eff.box (cs := [_]) rfl rfl) ?_
  rintro _ _ ⟨b3, rfl, rfl⟩
  refine JO.pur rfl rfl rfl (Pur.assign rfl) ?_
  refine JO.nil ?_
  refine J.seq rfl ?_
  refine J.seq rfl ?_
  refine J.region rfl ?_
  refine JO.pur rfl rfl rfl (Pur.move rfl) ?_
  refine JO.pur rfl rfl rfl (Pur.eqlT rfl rfl) ?_
  refine JO.setv (u' := .bool false) 15 rfl (congrArg Value.bool (decide_eq_false (by rw [hs]; exact fun e => row_ne e.symm))) ?_
  refine JO.nil ?_
  refine J.condF rfl rfl ?_
  refine J.skip rfl ?_
  refine J.seq rfl ?_
  refine J.region rfl ?_
  refine JO.pur rfl rfl rfl (Pur.loadA rfl rfl rfl CellsIn.blk) ?_
  refine JO.eff rfl rfl rfl (Eff.call rfl (r_Transpose (rs := rs) rfl)) ?_
  rintro _ _ ⟨a24, c24, rfl, rfl⟩
  refine JO.pur rfl rfl rfl (Pur.move rfl) ?_
  refine JO.pur rfl rfl rfl (Pur.extract rfl rfl) ?_
  refine JO.pur rfl rfl rfl (Pur.extract rfl rfl) ?_
  refine JO.eff rfl rfl rfl (Eff.alloc (cs := [_]) rfl) ?_
  rintro _ _ ⟨b7, rfl, rfl⟩
  refine JO.effN rfl rfl (Eff.storeBA (cs' := [_]) rfl rfl (by rfl) (by rfl) (by rfl)) ?_
  rintro _ _ ⟨rfl, rfl⟩
  refine JO.pur rfl rfl rfl (Pur.assign rfl) ?_
  refine JO.nil ?_
  refine J.seq rfl ?_
  refine J.region rfl ?_
  refine JO.pur rfl rfl rfl (Pur.loadA rfl rfl rfl CellsIn.blk) ?_
  refine JO.eff rfl rfl rfl (Eff.call rfl (r_Indexes (rs := trD rs) rfl)) ?_
  rintro _ _ ⟨a29, c29, hs0, rfl, rfl⟩
  have htr : trD rs = (canD rs).reverse := by unfold trD; rw [if_pos h]
  have hsv : ixsV (trD rs) = srcV true rs := by rw [htr]; unfold ixsV srcV; rw [if_pos (col_ok h)]; exact col_idx h
  have hsl := src_len true rs
  rw [tuL_cnt] at hsl
  have hc4 := h.2.2.2
  have hl3 := h.2.1
  rw [hsv]
  refine JO.pur rfl rfl rfl (Pur.move rfl) ?_
  refine JO.pur rfl rfl rfl (Pur.extract rfl rfl) ?_
  refine JO.pur rfl rfl rfl (Pur.extract rfl rfl) ?_
  refine JO.pur rfl rfl rfl (Pur.assign rfl) ?_
  refine JO.pur rfl rfl rfl (Pur.assign rfl) ?_
  refine JO.nil ?_
  refine J.seq rfl ?_
  refine J.seq rfl ?_
  refine J.fact (fun h s => RowsR.len (E := intE) (hs := hs0) (xss := srcV true rs) s) fun hn0 => ?_
  have hh0 := rows_len hn0
  refine J.region rfl ?_
  refine JO.pur rfl rfl rfl (Pur.assign rfl) ?_
  refine JO.nil ?_
  refine J.block rfl ?_
  refine J.loopF (ι := Nat) (fun q => q ≤ (srcV true rs).length) (fun q => [(11, .int .i64 (q : Int))]) [(9, _)] (fun q => rows intE hs0 (midV true rs q) :: sl hE a29 c29 hs0 :: L) (fun q => (srcV true rs).length - q) 0 rfl (.cons rfl rfl .nil) (.cons rfl rfl .nil) (fun h s => by rw [mid_zero]; exact SubC.out h s) (Nat.zero_le _) ?_
  rintro j hj ihj
  try dsimp only
  refine J.seq rfl ?_
  refine J.seq rfl ?_
  refine J.region rfl ?_
  refine JO.pur rfl rfl rfl (Pur.move rfl) ?_
  refine JO.pur rfl rfl rfl (Pur.move rfl) ?_
  refine JO.pur rfl rfl rfl (Pur.len rfl) ?_
  refine JO.pur rfl rfl rfl (Pur.lss rfl rfl) ?_
  refine JO.nil ?_
  refine J.splitB 35 rfl (fun h35 => ?_) (fun h35 => ?_)
  · try simp only [decide_eq_true_eq, decide_eq_false_iff_not, Bool.not_eq_true', Bool.not_eq_false', Bool.and_eq_true, Bool.or_eq_true, Bool.and_eq_false_iff, Bool.or_eq_false_iff, Option.isNone_some, Option.isSome_some, Option.isNone_none, Option.isSome_none, Int.not_lt, Int.not_le, beq_iff_eq, beq_eq_false_iff_ne, bne_iff_ne, ne_eq, Bool.not_not, Decidable.not_not] at h35
    have hjl : j < (srcV true rs).length := by omega
    obtain ⟨x, hx⟩ : ∃ x, (srcV true rs)[j]? = some x := ⟨_, List.getElem?_eq_getElem hjl⟩
    have hX := mid_get hx
    have hxl := src_row hx
    obtain ⟨hd, hH⟩ : ∃ hd, hs0[j]? = some hd := ⟨_, List.getElem?_eq_getElem (by omega)⟩
    refine J.fact (fun h s => RowsR.len (E := intE) (hs := hs0) (xss := midV true rs j) s) fun hnn => ?_
    refine J.fact (fun h s => RowsR.fit (E := intE) (hs := hs0) (xss := midV true rs j) s hH hX) fun hfit => ?_
    have hdn := hdr_n hnn hH hX
    refine J.condT rfl rfl ?_
    refine J.skip rfl ?_
    refine J.seq rfl ?_
    refine J.block rfl ?_
    refine J.seq rfl ?_
    refine J.region rfl ?_
    refine JO.pur rfl rfl rfl (Pur.move rfl) ?_
    refine JO.pur rfl rfl rfl (Pur.move rfl) ?_
    refine JO.pur rfl rfl rfl (Pur.idx rfl rfl rfl (by first | rfl | (simp; done) | omega | (rw [List.length_set, hrl, hdn]) | (rw [hrl, hdn])) rfl (by omega)) ?_
    refine JO.pur rfl rfl rfl (Pur.load rfl (CellIn.el0 rfl hH rfl)) ?_
    refine JO.setv (u' := .slice hd.a hd.n hd.cap) 41 rfl rfl ?_
    refine JO.pur rfl rfl rfl (Pur.len rfl) ?_
    refine JO.setv (u' := .int .i64 (x.length : Int)) 42 rfl (congrArg (fun z : Nat => Value.int .i64 (z : Int)) hdn) ?_
    refine JO.pur rfl rfl rfl (Pur.assign rfl) ?_
    refine JO.nil ?_
    refine J.seq rfl ?_
    refine J.imp (fun h s => open_row (E := intE) (i := j) (hs := hs0) (xss := midV true rs j) hH hX s) ?_
    refine J.region rfl ?_
    refine JO.pur rfl rfl rfl (Pur.assign rfl) ?_
    refine JO.nil ?_
    refine J.block rfl ?_
    refine J.loopF (ι := Nat) (fun q => q ≤ x.length / 2) (fun q => [(13, .int .i64 (q : Int))]) [(9, _), (11, _), (12, _)] (fun q => sl intE hd.a hd.cap (rvL x q) :: rowsBut intE j hs0 (midV true rs j) :: sl hE a29 c29 hs0 :: L) (fun q => x.length - q) 0 rfl (.cons rfl rfl (.cons rfl rfl (.cons rfl rfl .nil))) (.cons rfl rfl .nil) (fun h s => by rw [rvL_zero]; exact SubC.out h s) (Nat.zero_le _) ?_
    rintro i hi ihi
    try dsimp only
    refine J.seq rfl ?_
    refine J.seq rfl ?_
    refine J.region rfl ?_
    refine JO.pur rfl rfl rfl (Pur.move rfl) ?_
    refine JO.pur rfl rfl rfl (Pur.move rfl) ?_
    refine JO.pur rfl rfl rfl (Pur.quo rfl rfl (by decide)) ?_
    refine JO.setv (u' := .int .i64 ((x.length / 2 : Nat) : Int)) 45 rfl (congrArg (Value.int .i64) (by rw [show (2 : Int) = ((2 : Nat) : Int) from rfl, tdiv_nat]; exact wr64 (by omega))) ?_
    refine JO.pur rfl rfl rfl (Pur.lss rfl rfl) ?_
    refine JO.nil ?_
    refine J.splitB 46 rfl (fun h46 => ?_) (fun h46 => ?_)
    · try simp only [decide_eq_true_eq, decide_eq_false_iff_not, Bool.not_eq_true', Bool.not_eq_false', Bool.and_eq_true, Bool.or_eq_true, Bool.and_eq_false_iff, Bool.or_eq_false_iff, Option.isNone_some, Option.isSome_some, Option.isNone_none, Option.isSome_none, Int.not_lt, Int.not_le, beq_iff_eq, beq_eq_false_iff_ne, bne_iff_ne, ne_eq, Bool.not_not, Decidable.not_not] at h46
      have hil : i < x.length - 1 - i := by omega
      have hst := rvL_step hil
      have hrl := rvL_len x i
      have hxk : (rvL x i)[i]? = some (x.getD i default) := by rw [rvL_get (by omega), if_neg (by omega)]
      have hxj : (rvL x i)[(x.length - 1 - i)]? = some (x.getD (x.length - 1 - i) default) := by rw [rvL_get (by omega), if_neg (by omega)]
      have hjj : (x.length : Int) - 1 - (i : Int) = (((x.length - 1 - i) : Nat) : Int) := by omega
      refine J.condT rfl rfl ?_
      refine J.skip rfl ?_
      refine J.seq rfl ?_
      refine J.block rfl ?_
      refine J.mask0 (n := 34) [31, 33] rfl Try.mixed rfl (by kernel_rfl) ?_
      refine JM.take 0 (fun _ h => h) rfl (by kernel_rfl) rfl rfl rfl (m' := 1) rfl (Pur.move rfl) ?_
      refine JM.take 1 (fun _ h => h) rfl (by kernel_rfl) rfl rfl rfl (m' := 3) rfl (Pur.move rfl) ?_
      refine JM.take 2 (fun _ h => h) rfl (by kernel_rfl) rfl rfl rfl (m' := 7) rfl (Pur.idx rfl rfl rfl (by first | rfl | (simp; done) | omega | (rw [List.length_set, hrl, hdn]) | (rw [hrl, hdn])) rfl (by omega)) ?_
      refine JM.take 3 (fun _ h => h) rfl (by kernel_rfl) rfl rfl rfl (m' := 15) rfl (Pur.load rfl (CellIn.el0 rfl hH rfl)) ?_
      refine JM.setv (u' := .slice hd.a hd.n hd.cap) 52 rfl rfl ?_
      refine JM.take 4 (fun _ h => h) rfl (by kernel_rfl) rfl rfl rfl (m' := 31) rfl (Pur.move rfl) ?_
      refine JM.take 5 (fun _ h => h) rfl (by kernel_rfl) rfl rfl rfl (m' := 63) rfl (Pur.move rfl) ?_
      refine JM.take 6 (fun _ h => h) rfl (by kernel_rfl) rfl rfl rfl (m' := 127) rfl (Pur.move rfl) ?_
      refine JM.take 7 (fun _ h => h) rfl (by kernel_rfl) rfl rfl rfl (m' := 255) rfl (Pur.idx rfl rfl rfl (by first | rfl | (simp; done) | omega | (rw [List.length_set, hrl, hdn]) | (rw [hrl, hdn])) rfl (by omega)) ?_
      refine JM.take 8 (fun _ h => h) rfl (by kernel_rfl) rfl rfl rfl (m' := 511) rfl (Pur.load rfl (CellIn.el0 rfl hH rfl)) ?_
      refine JM.setv (u' := .slice hd.a hd.n hd.cap) 57 rfl rfl ?_
      refine JM.takeF 9 (.inr (fun _ h => h)) rfl (by kernel_rfl) rfl rfl rfl (m' := 1023) rfl (Pur.move rfl) ?_
      refine JM.takeF 10 (.inr (fun _ h => h)) rfl (by kernel_rfl) rfl rfl rfl (m' := 2047) rfl (Pur.sub rfl rfl (wr64 (by omega))) ?_
      refine JM.takeF 11 (.inr (fun _ h => h)) rfl (by kernel_rfl) rfl rfl rfl (m' := 4095) rfl (Pur.move rfl) ?_
      refine JM.takeF 12 (.inr (fun _ h => h)) rfl (by kernel_rfl) rfl rfl rfl (m' := 8191) rfl (Pur.sub rfl rfl (wr64 (by omega))) ?_
      refine JM.take 13 (fun _ h => h) rfl (by kernel_rfl) rfl rfl rfl (m' := 16383) rfl (Pur.move rfl) ?_
      refine JM.take 14 (fun _ h => h) rfl (by kernel_rfl) rfl rfl rfl (m' := 32767) rfl (Pur.move rfl) ?_
      refine JM.take 15 (fun _ h => h) rfl (by kernel_rfl) rfl rfl rfl (m' := 65535) rfl (Pur.idx rfl rfl rfl (by first | rfl | (simp; done) | omega | (rw [List.length_set, hrl, hdn]) | (rw [hrl, hdn])) rfl (by omega)) ?_
      refine JM.take 16 (fun _ h => h) rfl (by kernel_rfl) rfl rfl rfl (m' := 131071) rfl (Pur.load rfl (CellIn.el0 rfl hH rfl)) ?_
      refine JM.setv (u' := .slice hd.a hd.n hd.cap) 65 rfl rfl ?_
      refine JM.take 17 (fun _ h => h) rfl (by kernel_rfl) rfl rfl rfl (m' := 262143) rfl (Pur.move rfl) ?_
      refine JM.take 18 (fun _ h => h) rfl (by kernel_rfl) rfl rfl rfl (m' := 524287) rfl (Pur.sub rfl rfl (wr64 (by omega))) ?_
      refine JM.take 19 (fun _ h => h) rfl (by kernel_rfl) rfl rfl rfl (m' := 1048575) rfl (Pur.move rfl) ?_
      refine JM.take 20 (fun _ h => h) rfl (by kernel_rfl) rfl rfl rfl (m' := 2097151) rfl (Pur.sub rfl rfl (wr64 (by omega))) ?_
      refine JM.take 21 (fun _ h => h) rfl (by kernel_rfl) rfl rfl rfl (m' := 4194303) rfl (Pur.idx rfl rfl rfl (by first | rfl | (simp; done) | omega | (rw [List.length_set, hrl, hdn]) | (rw [hrl, hdn])) hjj (by omega)) ?_
      refine JM.take 22 (fun _ h => h) rfl (by kernel_rfl) rfl rfl rfl (m' := 8388607) rfl (Pur.load rfl (CellIn.el0 rfl hxj rfl)) ?_
      refine JM.setv (u' := .int .i64 (x.getD (x.length - 1 - i) default)) 71 rfl rfl ?_
      refine JM.take 23 (fun _ h => h) rfl (by kernel_rfl) rfl rfl rfl (m' := 16777215) rfl (Pur.move rfl) ?_
      refine JM.take 24 (fun _ h => h) rfl (by kernel_rfl) rfl rfl rfl (m' := 33554431) rfl (Pur.move rfl) ?_
      refine JM.take 25 (fun _ h => h) rfl (by kernel_rfl) rfl rfl rfl (m' := 67108863) rfl (Pur.idx rfl rfl rfl (by first | rfl | (simp; done) | omega | (rw [List.length_set, hrl, hdn]) | (rw [hrl, hdn])) rfl (by omega)) ?_
      refine JM.take 26 (fun _ h => h) rfl (by kernel_rfl) rfl rfl rfl (m' := 134217727) rfl (Pur.load rfl (CellIn.el0 rfl hH rfl)) ?_
      refine JM.setv (u' := .slice hd.a hd.n hd.cap) 75 rfl rfl ?_
      refine JM.take 27 (fun _ h => h) rfl (by kernel_rfl) rfl rfl rfl (m' := 268435455) rfl (Pur.move rfl) ?_
      refine JM.take 28 (fun _ h => h) rfl (by kernel_rfl) rfl rfl rfl (m' := 536870911) rfl (Pur.idx rfl rfl rfl (by first | rfl | (simp; done) | omega | (rw [List.length_set, hrl, hdn]) | (rw [hrl, hdn])) rfl (by omega)) ?_
      refine JM.take 29 (fun _ h => h) rfl (by kernel_rfl) rfl rfl rfl (m' := 1073741823) rfl (Pur.load rfl (CellIn.el0 rfl hxk rfl)) ?_
      refine JM.setv (u' := .int .i64 (x.getD i default)) 78 rfl rfl ?_
      refine JM.take 30 (fun _ h => h) rfl (by kernel_rfl) rfl rfl rfl (m' := 2147483647) rfl (Pur.idx rfl rfl rfl (by first | rfl | (simp; done) | omega | (rw [List.length_set, hrl, hdn]) | (rw [hrl, hdn])) rfl (by omega)) ?_
      refine JM.one (i := 31) (by kernel_rfl) ?_
      refine JMi.effN rfl rfl rfl (m' := 4294967295) rfl (Eff.storeS0 (z' := (x.getD (x.length - 1 - i) default)) rfl rfl rfl rfl hxk .head) ?_
      rintro _ _ ⟨rfl, rfl⟩
      refine ⟨.inl (by simp), ?_⟩
      refine JM.one (i := 32) (by kernel_rfl) ?_
      refine JMi.eff rfl rfl rfl rfl (m' := 8589934591) rfl (Pur.eff (Pur.idx rfl rfl rfl (by first | rfl | (simp; done) | omega | (rw [List.length_set, hrl, hdn]) | (rw [hrl, hdn])) hjj (by rw [List.length_set]; omega))) ?_
      rintro _ _ ⟨rfl, rfl⟩
      refine ⟨.inl (.inr (by kernel_rfl)), ?_⟩
      refine JM.one (i := 33) (by kernel_rfl) ?_
      refine JMi.effN rfl rfl rfl (m' := 17179869183) rfl (Eff.storeS0 (z' := (x.getD i default)) rfl rfl rfl rfl (List.getElem?_eq_getElem (by rw [List.length_set]; omega)) .head) ?_
      rintro _ _ ⟨rfl, rfl⟩
      refine ⟨.inl (by simp), ?_⟩
      refine JM.done rfl ?_
      refine J.inBlock ?_
      refine J.region rfl ?_
      refine JO.pur rfl rfl rfl (Pur.move rfl) ?_
      refine JO.pur rfl rfl rfl (Pur.add rfl rfl (wr64 (by omega))) ?_
      refine JO.pur rfl rfl rfl (Pur.assign rfl) ?_
      refine JO.nil ?_
      exact J.weaken (.cons rfl (congrArg (Value.int .i64) (by first | rfl | (dsimp only; omega))) (.cons rfl rfl (.cons rfl rfl (.cons rfl rfl .nil)))) (fun h s => by rw [hst] at s; exact SubC.out h s) (ihi (i + 1) (by omega) (by omega))
    · try simp only [decide_eq_true_eq, decide_eq_false_iff_not, Bool.not_eq_true', Bool.not_eq_false', Bool.and_eq_true, Bool.or_eq_true, Bool.and_eq_false_iff, Bool.or_eq_false_iff, Option.isNone_some, Option.isSome_some, Option.isNone_none, Option.isSome_none, Int.not_lt, Int.not_le, beq_iff_eq, beq_eq_false_iff_ne, bne_iff_ne, ne_eq, Bool.not_not, Decidable.not_not] at h46
      have hie : i = x.length / 2 := by omega
      have hrev : rvL x i = x.reverse := rvL_all (by omega)
      refine J.condF rfl rfl ?_
      refine J.exit rfl rfl ?_
      refine J.inBlock ?_
      refine J.region rfl ?_
      refine JO.pur rfl rfl rfl (Pur.move rfl) ?_
      refine JO.pur rfl rfl rfl (Pur.add rfl rfl (wr64 (by omega))) ?_
      refine JO.pur rfl rfl rfl (Pur.assign rfl) ?_
      refine JO.nil ?_
      exact J.weaken (.cons rfl (congrArg (Value.int .i64) (by first | rfl | (dsimp only; omega))) (.cons rfl rfl .nil)) (fun h s => by rw [hrev] at s; have s2 := shut_row (E := intE) (i := j) (hs := hs0) (xss := midV true rs j) (hd := hd) (xs := x.reverse) hH (by rw [List.length_reverse]; exact hdn) s; rw [show x.reverse = ixL true x from rfl, mid_step hx] at s2; exact SubC.out h s2) (ihj (j + 1) (by omega) (by omega))
  · try simp only [decide_eq_true_eq, decide_eq_false_iff_not, Bool.not_eq_true', Bool.not_eq_false', Bool.and_eq_true, Bool.or_eq_true, Bool.and_eq_false_iff, Bool.or_eq_false_iff, Option.isNone_some, Option.isSome_some, Option.isNone_none, Option.isSome_none, Int.not_lt, Int.not_le, beq_iff_eq, beq_eq_false_iff_ne, bne_iff_ne, ne_eq, Bool.not_not, Decidable.not_not] at h35
    have hje : j = (srcV true rs).length := by omega
    refine J.condF rfl rfl ?_
    refine J.exit rfl rfl ?_
    refine J.seq rfl ?_
    refine J.region rfl ?_
    refine JO.pur rfl rfl rfl (Pur.move rfl) ?_
    refine JO.pur rfl rfl rfl (Pur.assign rfl) ?_
    refine JO.nil ?_
    refine J.ret rfl rfl ?_
    have hol := ord_len2 true rs
    refine ⟨_, _, ⟨a29, c29, hs0, rfl, rfl⟩, by rw [isC_t hs, hol, ← hsl]; rfl, fun h s => ?_⟩
    rw [isC_t hs]
    rw [hje, mid_all] at s
    exact SubC.out h s

theorem rorder {L : List Asn} {lay : ByteArray} {a : Option Addr} {n cap : Nat} {rs : List Rg} [SlIn rgE L a rs] (hn : n = rs.length) (h : okD rs) (hl : okL lay) : CallS Try.prog 128 [.string lay, .agg #[.slice a n cap]].toArray L (fun v M => ∃ a' c' hs, v = .slice a' (ordL (isC lay) rs).length c' ∧ M = sl hE a' c' hs :: rows intE hs (ordL (isC lay) rs) :: L) := by
  rcases hl with hs | hs
  · exact rorder_row hn h hs
  · exact rorder_col hn h hs
theorem rOffset {L : List Asn} {lay : ByteArray} {a b : Option Addr} {n cap m cq : Nat} {rs : List Rg} {x : List Int} [SlIn rgE L a rs] [SlIn intE L b x] (hn : n = rs.length) (hm : m = x.length) :
    CallS Try.prog 71 [.string lay, .agg #[.slice a n cap], .slice b m cq].toArray L (fun v M => v = .tuple #[.int .i64 (ofV lay rs x).1, .int .i64 (ofV lay rs x).2] ∧ M = L) := by
  subst hn
  subst hm
  refine CallS.ent ?_
  refine CallS.enter Try.func71 rfl rfl rfl rfl rfl ?_
  refine J.seq rfl ?_
  refine J.region rfl ?_
  refine JO.eff rfl rfl rfl (Eff.box (cs := [_]) rfl rfl) ?_
  rintro _ _ ⟨b4, rfl, rfl⟩
  refine JO.pur rfl rfl rfl (Pur.assign rfl) ?_
  refine JO.pur rfl rfl rfl (Pur.assign rfl) ?_
  refine JO.nil ?_
  refine J.seq rfl ?_
  refine J.seq rfl ?_
  refine J.region rfl ?_
  refine JO.pur rfl rfl rfl (Pur.move rfl) ?_
  refine JO.pur rfl rfl rfl (Pur.move rfl) ?_
  refine JO.pur rfl rfl rfl (Pur.loadA rfl rfl rfl CellsIn.blk) ?_
  refine JO.pur rfl rfl rfl (Pur.loadA rfl rfl rfl CellsIn.blk) ?_
  refine JO.effR rfl rfl rfl (Eff.call rfl (rAsked (lay := lay) (lay2 := lay) (rs := rs) (ss := rs) rfl rfl)) ?_
  rw [rAsk1]
  refine JO.pur rfl rfl rfl (Pur.assign rfl) ?_
  refine JO.nil ?_
  refine J.seq rfl ?_
  refine J.region rfl ?_
  refine JO.pur rfl rfl rfl (Pur.move rfl) ?_
  refine JO.pur rfl rfl rfl (Pur.neqI rfl rfl) ?_
  refine JO.nil ?_
  refine J.splitB 16 rfl (fun h16 => ?_) (fun h16 => ?_)
  · try simp only [decide_eq_true_eq, decide_eq_false_iff_not, Bool.not_eq_true', Bool.not_eq_false', Bool.and_eq_true, Bool.or_eq_true, Bool.and_eq_false_iff, Bool.or_eq_false_iff, Option.isNone_some, Option.isSome_some, Option.isNone_none, Option.isSome_none, Int.not_lt, Int.not_le, beq_iff_eq, beq_eq_false_iff_ne, bne_iff_ne, ne_eq, Bool.not_not, Decidable.not_not] at h16
    have h16' : ask1 lay rs ≠ 0 := h16
    refine J.condT rfl rfl ?_
    refine J.seq rfl ?_
    refine J.region rfl ?_
    refine JO.pur rfl rfl rfl (Pur.move rfl) ?_
    refine JO.pur rfl rfl rfl (Pur.assign rfl) ?_
    refine JO.pur rfl rfl rfl (Pur.assign rfl) ?_
    refine JO.nil ?_
    refine J.ret rfl rfl ?_
    have hv : ofV lay rs x = (0, ask1 lay rs) := by unfold ofV; rw [if_pos h16']
    refine ⟨_, _, ⟨rfl, rfl⟩, by rw [hv]; rfl, SubC.out⟩
  · try simp only [decide_eq_true_eq, decide_eq_false_iff_not, Bool.not_eq_true', Bool.not_eq_false', Bool.and_eq_true, Bool.or_eq_true, Bool.and_eq_false_iff, Bool.or_eq_false_iff, Option.isNone_some, Option.isSome_some, Option.isNone_none, Option.isSome_none, Int.not_lt, Int.not_le, beq_iff_eq, beq_eq_false_iff_ne, bne_iff_ne, ne_eq, Bool.not_not, Decidable.not_not] at h16
    have h16' : ask1 lay rs = 0 := by simpa using h16
    obtain ⟨g1, g2⟩ := ask1_ok h16'
    have hfo := findL_off (c := isC lay) g2.2.2.1 x
    refine J.condF rfl rfl ?_
    refine J.skip rfl ?_
    refine J.seq rfl ?_
    refine J.region rfl ?_
    refine JO.pur rfl rfl rfl (Pur.move rfl) ?_
    refine JO.pur rfl rfl rfl (Pur.loadA rfl rfl rfl CellsIn.blk) ?_
    refine JO.eff rfl rfl rfl (Eff.call rfl (rorder (rs := rs) rfl g2 g1)) ?_
    rintro _ _ ⟨a20, c20, hs, rfl, rfl⟩
    have hol := ord_len2 (isC lay) rs
    have hc4 := g2.2.2.2
    have hl3 := g2.2.1
    refine JO.fact (fun h s => RowsR.len (E := intE) (hs := hs) (xss := ordL (isC lay) rs) s) fun hn0 => ?_
    have hh0 := rows_len hn0
    refine JO.pur rfl rfl rfl (Pur.move rfl) ?_
    refine JO.effR rfl rfl rfl (Eff.call rfl (rfind (hs := hs) (xss := ordL (isC lay) rs) (x := x) (by rw [hh0]) rfl (fun y hy => by have := ord_row hy; omega) (by omega))) ?_
    refine JO.pur rfl rfl rfl (Pur.assign rfl) ?_
    refine JO.nil ?_
    refine J.seq rfl ?_
    refine J.seq rfl ?_
    refine J.region rfl ?_
    refine JO.pur rfl rfl rfl (Pur.move rfl) ?_
    refine JO.pur rfl rfl rfl (Pur.lss rfl rfl) ?_
    refine JO.nil ?_
    refine J.splitB 24 rfl (fun h24 => ?_) (fun h24 => ?_)
    · try simp only [decide_eq_true_eq, decide_eq_false_iff_not, Bool.not_eq_true', Bool.not_eq_false', Bool.and_eq_true, Bool.or_eq_true, Bool.and_eq_false_iff, Bool.or_eq_false_iff, Option.isNone_some, Option.isSome_some, Option.isNone_none, Option.isSome_none, Int.not_lt, Int.not_le, beq_iff_eq, beq_eq_false_iff_ne, bne_iff_ne, ne_eq, Bool.not_not, Decidable.not_not] at h24
      refine J.condT rfl rfl ?_
      refine J.seq rfl ?_
      refine J.region rfl ?_
      refine JO.pur rfl rfl rfl (Pur.assign rfl) ?_
      refine JO.pur rfl rfl rfl (Pur.assign rfl) ?_
      refine JO.nil ?_
      refine J.ret rfl rfl ?_
      have hv : ofV lay rs x = (0, 2) := by
        unfold ofV; rw [if_neg (not_not_intro h16')]
        cases e : offL (isC lay) rs x with
        | none => rfl
        | some z => rw [hfo, e] at h24; exact absurd h24 (Int.not_lt.2 (Int.natCast_nonneg z))
      refine ⟨_, _, ⟨rfl, rfl⟩, by rw [hv]; rfl, SubC.out⟩
    · try simp only [decide_eq_true_eq, decide_eq_false_iff_not, Bool.not_eq_true', Bool.not_eq_false', Bool.and_eq_true, Bool.or_eq_true, Bool.and_eq_false_iff, Bool.or_eq_false_iff, Option.isNone_some, Option.isSome_some, Option.isNone_none, Option.isSome_none, Int.not_lt, Int.not_le, beq_iff_eq, beq_eq_false_iff_ne, bne_iff_ne, ne_eq, Bool.not_not, Decidable.not_not] at h24
      refine J.condF rfl rfl ?_
      refine J.skip rfl ?_
      refine J.seq rfl ?_
      refine J.region rfl ?_
      refine JO.pur rfl rfl rfl (Pur.move rfl) ?_
      refine JO.pur rfl rfl rfl (Pur.assign rfl) ?_
      refine JO.pur rfl rfl rfl (Pur.assign rfl) ?_
      refine JO.nil ?_
      refine J.ret rfl rfl ?_
      have hv : ofV lay rs x = (findL (ordL (isC lay) rs) x, 0) := by
        unfold ofV; rw [if_neg (not_not_intro h16')]
        cases e : offL (isC lay) rs x with
        | none => rw [hfo, e] at h24; exact absurd h24 (by decide)
        | some n => rw [hfo, e]
      refine ⟨_, _, ⟨rfl, rfl⟩, by rw [hv]; rfl, SubC.out⟩

theorem rIndex {L : List Asn} {lay : ByteArray} {a : Option Addr} {n cap : Nat} {rs : List Rg} {i : Int} [SlIn rgE L a rs] (hn : n = rs.length) :
    CallS Try.prog 73 [.string lay, .agg #[.slice a n cap], .int .i64 i].toArray L (fun v M => ∃ a' c', v = .tuple #[.slice a' (ixV lay rs i).1.length c', .int .i64 (ixV lay rs i).2] ∧ M = rd intE a' (ixV lay rs i).1 :: L) := by
  subst hn
  refine CallS.ent ?_
  refine CallS.enter Try.func73 rfl rfl rfl rfl rfl ?_
  refine J.seq rfl ?_
  refine J.region rfl ?_
  refine JO.eff rfl rfl rfl (Eff.box (cs := [_]) rfl rfl) ?_
  rintro _ _ ⟨b4, rfl, rfl⟩
  refine JO.pur rfl rfl rfl (Pur.assign rfl) ?_
  refine JO.pur rfl rfl rfl (Pur.assign rfl) ?_
  refine JO.nil ?_
  refine J.seq rfl ?_
  refine J.seq rfl ?_
  refine J.region rfl ?_
  refine JO.pur rfl rfl rfl (Pur.move rfl) ?_
  refine JO.pur rfl rfl rfl (Pur.move rfl) ?_
  refine JO.pur rfl rfl rfl (Pur.loadA rfl rfl rfl CellsIn.blk) ?_
  refine JO.pur rfl rfl rfl (Pur.loadA rfl rfl rfl CellsIn.blk) ?_
  refine JO.effR rfl rfl rfl (Eff.call rfl (rAsked (lay := lay) (lay2 := lay) (rs := rs) (ss := rs) rfl rfl)) ?_
  rw [rAsk1]
  refine JO.pur rfl rfl rfl (Pur.assign rfl) ?_
  refine JO.nil ?_
  refine J.seq rfl ?_
  refine J.region rfl ?_
  refine JO.pur rfl rfl rfl (Pur.move rfl) ?_
  refine JO.pur rfl rfl rfl (Pur.neqI rfl rfl) ?_
  refine JO.nil ?_
  refine J.splitB 16 rfl (fun h16 => ?_) (fun h16 => ?_)
  · try simp only [decide_eq_true_eq, decide_eq_false_iff_not, Bool.not_eq_true', Bool.not_eq_false', Bool.and_eq_true, Bool.or_eq_true, Bool.and_eq_false_iff, Bool.or_eq_false_iff, Option.isNone_some, Option.isSome_some, Option.isNone_none, Option.isSome_none, Int.not_lt, Int.not_le, beq_iff_eq, beq_eq_false_iff_ne, bne_iff_ne, ne_eq, Bool.not_not, Decidable.not_not] at h16
    have h16' : ask1 lay rs ≠ 0 := h16
    refine J.condT rfl rfl ?_
    refine J.seq rfl ?_
    refine J.region rfl ?_
    refine JO.pur rfl rfl rfl (Pur.move rfl) ?_
    refine JO.pur rfl rfl rfl (Pur.assign rfl) ?_
    refine JO.pur rfl rfl rfl (Pur.assign rfl) ?_
    refine JO.nil ?_
    refine J.ret rfl rfl ?_
    have hv : ixV lay rs i = ([], ask1 lay rs) := by unfold ixV; rw [if_pos h16']
    refine ⟨_, _, ⟨none, 0, rfl, rfl⟩, by rw [hv]; rfl, fun h s => ?_⟩
    rw [hv]; exact rd_nil (SubC.out h s)
  · try simp only [decide_eq_true_eq, decide_eq_false_iff_not, Bool.not_eq_true', Bool.not_eq_false', Bool.and_eq_true, Bool.or_eq_true, Bool.and_eq_false_iff, Bool.or_eq_false_iff, Option.isNone_some, Option.isSome_some, Option.isNone_none, Option.isSome_none, Int.not_lt, Int.not_le, beq_iff_eq, beq_eq_false_iff_ne, bne_iff_ne, ne_eq, Bool.not_not, Decidable.not_not] at h16
    have h16' : ask1 lay rs = 0 := by simpa using h16
    obtain ⟨g1, g2⟩ := ask1_ok h16'
    refine J.condF rfl rfl ?_
    refine J.skip rfl ?_
    refine J.seq rfl ?_
    refine J.region rfl ?_
    refine JO.pur rfl rfl rfl (Pur.move rfl) ?_
    refine JO.pur rfl rfl rfl (Pur.loadA rfl rfl rfl CellsIn.blk) ?_
    refine JO.eff rfl rfl rfl (Eff.call rfl (rorder (rs := rs) rfl g2 g1)) ?_
    rintro _ _ ⟨a20, c20, hs, rfl, rfl⟩
    have hol := ord_len2 (isC lay) rs
    have hc4 := g2.2.2.2
    have hl3 := g2.2.1
    refine JO.fact (fun h s => RowsR.len (E := intE) (hs := hs) (xss := ordL (isC lay) rs) s) fun hn0 => ?_
    have hh0 := rows_len hn0
    refine JO.pur rfl rfl rfl (Pur.assign rfl) ?_
    refine JO.nil ?_
    refine J.seq rfl ?_
    refine J.seq rfl ?_
    refine J.region rfl ?_
    refine JO.pur rfl rfl rfl (Pur.move rfl) ?_
    refine JO.pur rfl rfl rfl (Pur.lss rfl rfl) ?_
    refine JO.pur rfl rfl rfl (Pur.move rfl) ?_
    refine JO.splitB 23 rfl (fun h23 => ?_) (fun h23 => ?_)
    · try simp only [decide_eq_true_eq, decide_eq_false_iff_not, Bool.not_eq_true', Bool.not_eq_false', Bool.and_eq_true, Bool.or_eq_true, Bool.and_eq_false_iff, Bool.or_eq_false_iff, Option.isNone_some, Option.isSome_some, Option.isNone_none, Option.isSome_none, Int.not_lt, Int.not_le, beq_iff_eq, beq_eq_false_iff_ne, bne_iff_ne, ne_eq, Bool.not_not, Decidable.not_not] at h23
      refine JO.no rfl rfl rfl ?_
      refine JO.no rfl rfl rfl ?_
      refine JO.no rfl rfl rfl ?_
      refine JO.no rfl rfl rfl ?_
      refine JO.pur rfl rfl rfl (Pur.pickT rfl rfl) ?_
      refine JO.nil ?_
      refine J.condT rfl rfl ?_
      refine J.seq rfl ?_
      refine J.region rfl ?_
      refine JO.pur rfl rfl rfl (Pur.assign rfl) ?_
      refine JO.pur rfl rfl rfl (Pur.assign rfl) ?_
      refine JO.nil ?_
      refine J.ret rfl rfl ?_
      have hv : ixV lay rs i = ([], 2) := by unfold ixV; rw [if_neg (not_not_intro h16'), if_pos (by omega)]
      refine ⟨_, _, ⟨none, 0, rfl, rfl⟩, by rw [hv]; rfl, fun h s => ?_⟩
      rw [hv]; exact rd_nil (SubC.out h s)
    · try simp only [decide_eq_true_eq, decide_eq_false_iff_not, Bool.not_eq_true', Bool.not_eq_false', Bool.and_eq_true, Bool.or_eq_true, Bool.and_eq_false_iff, Bool.or_eq_false_iff, Option.isNone_some, Option.isSome_some, Option.isNone_none, Option.isSome_none, Int.not_lt, Int.not_le, beq_iff_eq, beq_eq_false_iff_ne, bne_iff_ne, ne_eq, Bool.not_not, Decidable.not_not] at h23
      refine JO.pur rfl rfl rfl (Pur.move rfl) ?_
      refine JO.pur rfl rfl rfl (Pur.move rfl) ?_
      refine JO.pur rfl rfl rfl (Pur.len rfl) ?_
      refine JO.pur rfl rfl rfl (Pur.geq rfl rfl) ?_
      refine JO.pur rfl rfl rfl (Pur.pickF rfl rfl) ?_
      refine JO.nil ?_
      refine J.splitB 28 rfl (fun h28 => ?_) (fun h28 => ?_)
      · try simp only [decide_eq_true_eq, decide_eq_false_iff_not, Bool.not_eq_true', Bool.not_eq_false', Bool.and_eq_true, Bool.or_eq_true, Bool.and_eq_false_iff, Bool.or_eq_false_iff, Option.isNone_some, Option.isSome_some, Option.isNone_none, Option.isSome_none, Int.not_lt, Int.not_le, beq_iff_eq, beq_eq_false_iff_ne, bne_iff_ne, ne_eq, Bool.not_not, Decidable.not_not] at h28
        refine J.condT rfl rfl ?_
        refine J.seq rfl ?_
        refine J.region rfl ?_
        refine JO.pur rfl rfl rfl (Pur.assign rfl) ?_
        refine JO.pur rfl rfl rfl (Pur.assign rfl) ?_
        refine JO.nil ?_
        refine J.ret rfl rfl ?_
        have hv : ixV lay rs i = ([], 2) := by unfold ixV; rw [if_neg (not_not_intro h16'), if_pos (by omega)]
        refine ⟨_, _, ⟨none, 0, rfl, rfl⟩, by rw [hv]; rfl, fun h s => ?_⟩
        rw [hv]; exact rd_nil (SubC.out h s)
      · try simp only [decide_eq_true_eq, decide_eq_false_iff_not, Bool.not_eq_true', Bool.not_eq_false', Bool.and_eq_true, Bool.or_eq_true, Bool.and_eq_false_iff, Bool.or_eq_false_iff, Option.isNone_some, Option.isSome_some, Option.isNone_none, Option.isSome_none, Int.not_lt, Int.not_le, beq_iff_eq, beq_eq_false_iff_ne, bne_iff_ne, ne_eq, Bool.not_not, Decidable.not_not] at h28
        refine J.condF rfl rfl ?_
        refine J.skip rfl ?_
        refine J.seq rfl ?_
        obtain ⟨j, hj⟩ : ∃ j : Nat, i = (j : Int) := ⟨i.toNat, by omega⟩
        subst hj
        obtain ⟨y, hX⟩ : ∃ y, (ordL (isC lay) rs)[j]? = some y := ⟨_, List.getElem?_eq_getElem (by omega)⟩
        obtain ⟨hd, hH⟩ : ∃ hd, hs[j]? = some hd := ⟨_, List.getElem?_eq_getElem (by omega)⟩
        have hdn := hdr_n hn0 hH hX
        refine J.region rfl ?_
        refine JO.pur rfl rfl rfl (Pur.move rfl) ?_
        refine JO.pur rfl rfl rfl (Pur.move rfl) ?_
        refine JO.pur rfl rfl rfl (Pur.idx rfl rfl rfl (by first | rfl | (simp; done) | omega) rfl (by omega)) ?_
        refine JO.pur rfl rfl rfl (Pur.load rfl (CellIn.el0 rfl hH rfl)) ?_
        refine JO.pur rfl rfl rfl (Pur.assign rfl) ?_
        refine JO.pur rfl rfl rfl (Pur.assign rfl) ?_
        refine JO.nil ?_
        refine J.ret rfl rfl ?_
        have hv : ixV lay rs ((j : Nat) : Int) = (y, 0) := by unfold ixV; rw [if_neg (not_not_intro h16'), if_neg (by omega)]; show (((ordL (isC lay) rs)[j]?).getD [], (0 : Int)) = _; rw [hX]; rfl
        refine ⟨_, _, ⟨hd.a, hd.cap, rfl, rfl⟩, by rw [hv, ← hdn]; rfl, fun h s => ?_⟩
        rw [hv]
        exact rd_row hH hX (SubC.out h s)

end Go.Proofs.Ytnhippfllgnngaa

/- The text SpPlain. -/
set_option linter.unusedVariables false
set_option linter.unusedSimpArgs false
/-! Sparse domains, plain. -/
namespace Go.Proofs.Ytnhippfllgnngaa
open Go Go.KK Dm
/-- The place of an index, 0 where it has none. -/
def atS (rs : List Rg) (x : List Int) : Int := (((plD rs x).getD 0 : Nat) : Int)
def lastS (rs : List Rg) (xss : List (List Int)) (j : Nat) : Int := if j = 0 then -1 else atS rs (xss.getD (j - 1) [])
def stepS (rs : List Rg) (xss : List (List Int)) (j : Nat) : Prop := (plD rs (xss.getD j [])).isSome = true ∧ lastS rs xss j < atS rs (xss.getD j [])
instance (rs : List Rg) (xss : List (List Int)) (j : Nat) : Decidable (stepS rs xss j) := inferInstanceAs (Decidable (_ ∧ _))
def okS (rs : List Rg) (xss : List (List Int)) : Prop := okD rs ∧ xss.length ≤ 400 ∧ ∀ j, j < xss.length → stepS rs xss j
instance (rs : List Rg) (xss : List (List Int)) : Decidable (okS rs xss) := inferInstanceAs (Decidable (_ ∧ _))
theorem atS_nonneg (rs : List Rg) (x : List Int) : 0 ≤ atS rs x := Int.natCast_nonneg _
theorem plV_ok {rs : List Rg} (h : okD rs) (x : List Int) : ((plV rs x).2 = 0 ↔ (plD rs x).isSome = true) ∧ ((plD rs x).isSome = true → plV rs x = (atS rs x, 0)) := by
  unfold plV atS
  rw [if_neg (not_not_intro h)]
  by_cases hl : x.length = rs.length
  · rw [if_neg (not_not_intro hl)]
    cases e : plD rs x with
    | none => simp
    | some n => simp
  · rw [if_pos hl]
    have : plD rs x = none := by unfold plD; rw [if_neg hl]
    simp [this]
theorem getD_at' {α : Type} {l : List α} {k : Nat} (d : α) (h : k < l.length) : l[k]? = some (l.getD k d) := by
  rw [List.getD_eq_getElem?_getD, List.getElem?_eq_getElem h]; rfl
theorem okS_some {rs : List Rg} {xss : List (List Int)} (h : okS rs xss) {x : List Int} (hx : x ∈ xss) : (plD rs x).isSome = true := by
  obtain ⟨j, hj, e⟩ := List.getElem_of_mem hx
  have := (h.2.2 j hj).1
  rwa [List.getD_eq_getElem?_getD, List.getElem?_eq_getElem hj, Option.getD_some, e] at this
theorem okS_len {rs : List Rg} {xss : List (List Int)} (h : okS rs xss) {x : List Int} (hx : x ∈ xss) : x.length = rs.length := by
  have := okS_some h hx
  unfold plD at this
  by_cases e : x.length = rs.length
  · exact e
  · rw [if_neg e] at this; cases this
theorem atS_inj {rs : List Rg} (h : okRs rs) {x y : List Int} (hx : (plD rs x).isSome = true) (hy : (plD rs y).isSome = true) (e : atS rs x = atS rs y) : x = y := by
  obtain ⟨n, hn⟩ := Option.isSome_iff_exists.1 hx
  obtain ⟨m, hm⟩ := Option.isSome_iff_exists.1 hy
  unfold atS at e
  rw [hn, hm] at e
  have e2 : n = m := Int.ofNat.inj e
  subst e2
  have a1 := (plD_iff h).1 hn
  have a2 := (plD_iff h).1 hm
  rw [a1] at a2; exact Option.some.inj a2
/-- Ascending places. -/
theorem okS_asc {rs : List Rg} {xss : List (List Int)} (h : okS rs xss) : ∀ j i, i < j → j < xss.length → atS rs (xss.getD i []) < atS rs (xss.getD j []) := by
  intro j
  induction j with
  | zero => intro i hi; omega
  | succ j ih =>
    intro i hi hj
    have h1 := (h.2.2 (j + 1) hj).2
    unfold lastS at h1
    rw [if_neg (by omega), Nat.add_sub_cancel] at h1
    by_cases e : i = j
    · subst e; exact h1
    · have := ih i (by omega) (by omega); omega
/-- The places of a list, if all have one. -/
def plcV (rs : List Rg) (l : List (List Int)) : List Int × Bool := if ∀ x ∈ l, (plV rs x).2 = 0 then (l.map (atS rs), true) else ([], false)
/-- Which one of a list an index is, or where it would stand. -/
def fndV (rs : List Rg) (xss : List (List Int)) (x : List Int) : Int × Bool := if (plV rs x).2 ≠ 0 then (0, false) else (((xss.countP fun y => decide (atS rs y < atS rs x) : Nat) : Int), decide (x ∈ xss))
theorem okS_iff {rs : List Rg} {xss : List (List Int)} (h1 : okD rs) (h2 : xss.length ≤ 400) : okS rs xss ↔ (∀ x ∈ xss, (plV rs x).2 = 0) ∧ ∀ j, 1 ≤ j → j < xss.length → atS rs (xss.getD (j - 1) []) < atS rs (xss.getD j []) := by
  constructor
  · intro h
    refine ⟨fun x hx => (plV_ok h1 x).1.2 (okS_some h hx), fun j hj hl => okS_asc h j (j - 1) (by omega) hl⟩
  · rintro ⟨h3, h4⟩
    refine ⟨h1, h2, fun j hj => ⟨?_, ?_⟩⟩
    · refine (plV_ok h1 _).1.1 (h3 _ ?_)
      rw [List.getD_eq_getElem?_getD, List.getElem?_eq_getElem hj]; exact List.getElem_mem hj
    · unfold lastS
      by_cases e : j = 0
      · rw [if_pos e]; have := atS_nonneg rs (xss.getD j []); omega
      · rw [if_neg e]; exact h4 j (by omega) hj
/-- What the reference has found out about the first ones. -/
def okN (rs : List Rg) (xss : List (List Int)) (q : Nat) : Bool := (plcV rs xss).2 && decide (∀ j, j < q → (1 ≤ j ∧ j < (plcV rs xss).1.length) → (plcV rs xss).1.getD (j - 1) 0 < (plcV rs xss).1.getD j 0)
theorem plcV_yes {rs : List Rg} {l : List (List Int)} (h : ∀ x ∈ l, (plV rs x).2 = 0) : plcV rs l = (l.map (atS rs), true) := if_pos h
theorem plcV_no {rs : List Rg} {l : List (List Int)} (h : ¬ ∀ x ∈ l, (plV rs x).2 = 0) : plcV rs l = ([], false) := if_neg h
theorem map_getD {rs : List Rg} {l : List (List Int)} {j : Nat} (h : j < l.length) : (l.map (atS rs)).getD j 0 = atS rs (l.getD j []) := by
  rw [List.getD_eq_getElem?_getD, List.getElem?_map, List.getElem?_eq_getElem h, List.getD_eq_getElem?_getD, List.getElem?_eq_getElem h]; rfl
theorem okN_one (rs : List Rg) (xss : List (List Int)) : okN rs xss 1 = (plcV rs xss).2 := by
  unfold okN
  rw [decide_eq_true (fun j h1 h2 => by omega), Bool.and_true]
theorem okN_succ {rs : List Rg} {xss : List (List Int)} {q : Nat} (h : okN rs xss q = true) (hq : 1 ≤ q) (hl : q < (plcV rs xss).1.length) : okN rs xss (q + 1) = decide ((plcV rs xss).1.getD (q - 1) 0 < (plcV rs xss).1.getD q 0) := by
  unfold okN at h ⊢
  simp only [Bool.and_eq_true, decide_eq_true_eq] at h
  rw [h.1, Bool.true_and]
  refine decide_eq_decide.2 ⟨fun g => g q (by omega) ⟨hq, hl⟩, fun g j hj h1 => ?_⟩
  by_cases e : j = q
  · subst e; exact g
  · exact h.2 j (by omega) h1
theorem okN_end {rs : List Rg} {xss : List (List Int)} {q : Nat} (h1 : okD rs) (h2 : xss.length ≤ 400) (h : okN rs xss q = false ∨ (plcV rs xss).1.length ≤ q) : okN rs xss q = decide (okS rs xss) := by
  by_cases hp : ∀ x ∈ xss, (plV rs x).2 = 0
  · have hpv := plcV_yes hp
    have key : okN rs xss q = decide (∀ j, j < q → (1 ≤ j ∧ j < xss.length) → atS rs (xss.getD (j - 1) []) < atS rs (xss.getD j [])) := by
      unfold okN
      rw [hpv]
      simp only [Bool.true_and, List.length_map]
      refine decide_eq_decide.2 ⟨fun g j hj hl => ?_, fun g j hj hl => ?_⟩
      · have := g j hj hl; rwa [map_getD hl.2, map_getD (by omega)] at this
      · rw [map_getD hl.2, map_getD (by omega)]; exact g j hj hl
    rw [key] at h ⊢
    refine decide_eq_decide.2 ⟨fun g => ?_, fun g j hj hl => ((okS_iff h1 h2).1 g).2 j hl.1 hl.2⟩
    rcases h with h | h
    · exact absurd g (of_decide_eq_false h)
    · rw [hpv] at h
      simp only [List.length_map] at h
      exact (okS_iff h1 h2).2 ⟨hp, fun j hj hl => g j (by omega) ⟨hj, hl⟩⟩
  · rw [decide_eq_false (fun hs => hp ((okS_iff h1 h2).1 hs).1)]
    unfold okN; rw [plcV_no hp]; rfl
end Go.Proofs.Ytnhippfllgnngaa
