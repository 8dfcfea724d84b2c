/-
  A part of the proof of the claim that this folder bears.
-/
import Derived.Test.YtnhippfllgnngaaPAM
import Derived.Test.YtnhippfllgnngaaPAB
import Derived.Shelf.Lay
import Derived.Shelf.Sort.Plain
import Derived.Shelf.Slices.In.SortNone
import Derived.Ground.Names2Prog
import Derived.Sort.OwnSortedInts
/- The text SD4. -/
set_option linter.unusedVariables false
set_option linter.unusedSimpArgs false
set_option maxRecDepth 10000
namespace Go.Proofs.Ytnhippfllgnngaa
open Go Go.KK Dm

def rAskV (lay lay2 : ByteArray) (rs ss : List Rg) : Int := if ¬ (okL lay ∧ okL lay2) then 60 else if ¬ (okD rs ∧ okD ss) then 40 else if rs.length ≠ ss.length then 2 else 0
theorem rAsk1 (lay : ByteArray) (rs : List Rg) : rAskV lay lay rs rs = ask1 lay rs := by simp [rAskV, ask1]
theorem row_ne : rowS ≠ colS := by decide
theorem rAsked {L : List Asn} {lay lay2 : ByteArray} {a b : Option Addr} {n cap m cq : Nat} {rs ss : List Rg} [SlIn rgE L a rs] [SlIn rgE L b ss] (hn : n = rs.length) (hm : m = ss.length) :
    CallS Try.prog 127 [.string lay, .string lay2, .agg #[.slice a n cap], .agg #[.slice b m cq]].toArray L (fun v M => v = .int .i64 (rAskV lay lay2 rs ss) ∧ M = L) := by
  subst hn
  subst hm
  refine CallS.ent ?_
  refine CallS.enter Try.func127 rfl rfl rfl rfl rfl ?_
  refine J.seq rfl ?_
  refine J.region rfl ?_
  refine JO.eff rfl rfl rfl (Eff.box (cs := [_]) rfl rfl) ?_
  rintro _ _ ⟨b6, rfl, rfl⟩
  refine JO.eff rfl rfl rfl (Eff.box (cs := [_]) rfl rfl) ?_
  rintro _ _ ⟨b7, rfl, rfl⟩
  refine JO.pur rfl rfl rfl (Pur.assign rfl) ?_
  refine JO.nil ?_
  refine J.seq rfl ?_
  refine J.block rfl ?_
  refine J.seq rfl ?_
  refine J.region rfl ?_
  refine JO.pur rfl rfl rfl (Pur.move rfl) ?_
  refine JO.effR rfl rfl rfl (Eff.call rfl (rValid (lay := lay))) ?_
  refine JO.pur rfl rfl rfl (Pur.not rfl) ?_
  refine JO.pur rfl rfl rfl (Pur.move rfl) ?_
  refine JO.setv (u' := .bool (!decide (okL lay))) 13 rfl rfl ?_
  refine JO.splitB 13 rfl (fun h13 => ?_) (fun h13 => ?_)
  · try simp only [decide_eq_true_eq, decide_eq_false_iff_not, Bool.not_eq_true', Bool.not_eq_false', Bool.and_eq_true, Bool.or_eq_true, Bool.and_eq_false_iff, Bool.or_eq_false_iff, Option.isNone_some, Option.isSome_some, Option.isNone_none, Option.isSome_none, Int.not_lt, Int.not_le, beq_iff_eq, beq_eq_false_iff_ne, bne_iff_ne, ne_eq, Bool.not_not, Decidable.not_not] at h13
    have hb1 : ¬ okL lay := by simpa using h13
    refine JO.no rfl rfl rfl ?_
    refine JO.no rfl rfl rfl ?_
    refine JO.no rfl rfl rfl ?_
    refine JO.pur rfl rfl rfl (Pur.pickT rfl rfl) ?_
    refine JO.pur rfl rfl rfl (Pur.assign rfl) ?_
    refine JO.nil ?_
    refine J.condT rfl rfl ?_
    refine J.seq rfl ?_
    refine J.region rfl ?_
    refine JO.pur rfl rfl rfl (Pur.assign rfl) ?_
    refine JO.nil ?_
    refine J.ret rfl rfl ?_
    refine ⟨_, _, ⟨rfl, rfl⟩, congrArg (Value.int .i64) (show _ = rAskV lay lay2 rs ss from ?_), SubC.out⟩
    unfold rAskV; rw [if_pos (fun g => hb1 g.1)]
  · try simp only [decide_eq_true_eq, decide_eq_false_iff_not, Bool.not_eq_true', Bool.not_eq_false', Bool.and_eq_true, Bool.or_eq_true, Bool.and_eq_false_iff, Bool.or_eq_false_iff, Option.isNone_some, Option.isSome_some, Option.isNone_none, Option.isSome_none, Int.not_lt, Int.not_le, beq_iff_eq, beq_eq_false_iff_ne, bne_iff_ne, ne_eq, Bool.not_not, Decidable.not_not] at h13
    have hg1 : okL lay := by simpa using h13
    refine JO.pur rfl rfl rfl (Pur.move rfl) ?_
    refine JO.effR rfl rfl rfl (Eff.call rfl (rValid (lay := lay2))) ?_
    refine JO.pur rfl rfl rfl (Pur.not rfl) ?_
    refine JO.pur rfl rfl rfl (Pur.pickF rfl rfl) ?_
    refine JO.pur rfl rfl rfl (Pur.assign rfl) ?_
    refine JO.nil ?_
    refine J.splitB 9 rfl (fun h9 => ?_) (fun h9 => ?_)
    · try simp only [decide_eq_true_eq, decide_eq_false_iff_not, Bool.not_eq_true', Bool.not_eq_false', Bool.and_eq_true, Bool.or_eq_true, Bool.and_eq_false_iff, Bool.or_eq_false_iff, Option.isNone_some, Option.isSome_some, Option.isNone_none, Option.isSome_none, Int.not_lt, Int.not_le, beq_iff_eq, beq_eq_false_iff_ne, bne_iff_ne, ne_eq, Bool.not_not, Decidable.not_not] at h9
      have hb2 : ¬ okL lay2 := by simpa using h9
      refine J.condT rfl rfl ?_
      refine J.seq rfl ?_
      refine J.region rfl ?_
      refine JO.pur rfl rfl rfl (Pur.assign rfl) ?_
      refine JO.nil ?_
      refine J.ret rfl rfl ?_
      refine ⟨_, _, ⟨rfl, rfl⟩, congrArg (Value.int .i64) (show _ = rAskV lay lay2 rs ss from ?_), SubC.out⟩
      unfold rAskV; rw [if_pos (fun g => hb2 g.2)]
    · try simp only [decide_eq_true_eq, decide_eq_false_iff_not, Bool.not_eq_true', Bool.not_eq_false', Bool.and_eq_true, Bool.or_eq_true, Bool.and_eq_false_iff, Bool.or_eq_false_iff, Option.isNone_some, Option.isSome_some, Option.isNone_none, Option.isSome_none, Int.not_lt, Int.not_le, beq_iff_eq, beq_eq_false_iff_ne, bne_iff_ne, ne_eq, Bool.not_not, Decidable.not_not] at h9
      have hg2 : okL lay2 := by simpa using h9
      refine J.condF rfl rfl ?_
      refine J.seq rfl ?_
      refine J.region rfl ?_
      refine JO.pur rfl rfl rfl (Pur.loadA rfl rfl rfl CellsIn.blk) ?_
      refine JO.effR rfl rfl rfl (Eff.call rfl (r_Valid (rs := rs) rfl)) ?_
      refine JO.pur rfl rfl rfl (Pur.not rfl) ?_
      refine JO.pur rfl rfl rfl (Pur.move rfl) ?_
      refine JO.setv (u' := .bool (!decide (okD rs))) 22 rfl rfl ?_
      refine JO.splitB 22 rfl (fun h22 => ?_) (fun h22 => ?_)
      · try simp only [decide_eq_true_eq, decide_eq_false_iff_not, Bool.not_eq_true', Bool.not_eq_false', Bool.and_eq_true, Bool.or_eq_true, Bool.and_eq_false_iff, Bool.or_eq_false_iff, Option.isNone_some, Option.isSome_some, Option.isNone_none, Option.isSome_none, Int.not_lt, Int.not_le, beq_iff_eq, beq_eq_false_iff_ne, bne_iff_ne, ne_eq, Bool.not_not, Decidable.not_not] at h22
        have hb3 : ¬ okD rs := by simpa using h22
        refine JO.no rfl rfl rfl ?_
        refine JO.no rfl rfl rfl ?_
        refine JO.no rfl rfl rfl ?_
        refine JO.pur rfl rfl rfl (Pur.pickT rfl rfl) ?_
        refine JO.pur rfl rfl rfl (Pur.assign rfl) ?_
        refine JO.nil ?_
        refine J.condT rfl rfl ?_
        refine J.seq rfl ?_
        refine J.region rfl ?_
        refine JO.pur rfl rfl rfl (Pur.assign rfl) ?_
        refine JO.nil ?_
        refine J.ret rfl rfl ?_
        refine ⟨_, _, ⟨rfl, rfl⟩, congrArg (Value.int .i64) (show _ = rAskV lay lay2 rs ss from ?_), SubC.out⟩
        unfold rAskV; rw [if_neg (not_not_intro ⟨hg1, hg2⟩), if_pos (fun g => hb3 g.1)]
      · try simp only [decide_eq_true_eq, decide_eq_false_iff_not, Bool.not_eq_true', Bool.not_eq_false', Bool.and_eq_true, Bool.or_eq_true, Bool.and_eq_false_iff, Bool.or_eq_false_iff, Option.isNone_some, Option.isSome_some, Option.isNone_none, Option.isSome_none, Int.not_lt, Int.not_le, beq_iff_eq, beq_eq_false_iff_ne, bne_iff_ne, ne_eq, Bool.not_not, Decidable.not_not] at h22
        have hg3 : okD rs := by simpa using h22
        refine JO.pur rfl rfl rfl (Pur.loadA rfl rfl rfl CellsIn.blk) ?_
        refine JO.effR rfl rfl rfl (Eff.call rfl (r_Valid (rs := ss) rfl)) ?_
        refine JO.pur rfl rfl rfl (Pur.not rfl) ?_
        refine JO.pur rfl rfl rfl (Pur.pickF rfl rfl) ?_
        refine JO.pur rfl rfl rfl (Pur.assign rfl) ?_
        refine JO.nil ?_
        refine J.splitB 18 rfl (fun h18 => ?_) (fun h18 => ?_)
        · try simp only [decide_eq_true_eq, decide_eq_false_iff_not, Bool.not_eq_true', Bool.not_eq_false', Bool.and_eq_true, Bool.or_eq_true, Bool.and_eq_false_iff, Bool.or_eq_false_iff, Option.isNone_some, Option.isSome_some, Option.isNone_none, Option.isSome_none, Int.not_lt, Int.not_le, beq_iff_eq, beq_eq_false_iff_ne, bne_iff_ne, ne_eq, Bool.not_not, Decidable.not_not] at h18
          have hb4 : ¬ okD ss := by simpa using h18
          refine J.condT rfl rfl ?_
          refine J.seq rfl ?_
          refine J.region rfl ?_
          refine JO.pur rfl rfl rfl (Pur.assign rfl) ?_
          refine JO.nil ?_
          refine J.ret rfl rfl ?_
          refine ⟨_, _, ⟨rfl, rfl⟩, congrArg (Value.int .i64) (show _ = rAskV lay lay2 rs ss from ?_), SubC.out⟩
          unfold rAskV; rw [if_neg (not_not_intro ⟨hg1, hg2⟩), if_pos (fun g => hb4 g.2)]
        · try simp only [decide_eq_true_eq, decide_eq_false_iff_not, Bool.not_eq_true', Bool.not_eq_false', Bool.and_eq_true, Bool.or_eq_true, Bool.and_eq_false_iff, Bool.or_eq_false_iff, Option.isNone_some, Option.isSome_some, Option.isNone_none, Option.isSome_none, Int.not_lt, Int.not_le, beq_iff_eq, beq_eq_false_iff_ne, bne_iff_ne, ne_eq, Bool.not_not, Decidable.not_not] at h18
          have hg4 : okD ss := by simpa using h18
          refine J.condF rfl rfl ?_
          refine J.seq rfl ?_
          refine J.region rfl ?_
          refine JO.pur rfl rfl rfl (Pur.fieldAddr rfl) ?_
          refine JO.pur rfl rfl rfl (Pur.load rfl (CellIn.blk rfl)) ?_
          refine JO.pur rfl rfl rfl (Pur.len rfl) ?_
          refine JO.pur rfl rfl rfl (Pur.fieldAddr rfl) ?_
          refine JO.pur rfl rfl rfl (Pur.load rfl (CellIn.blk rfl)) ?_
          refine JO.pur rfl rfl rfl (Pur.len rfl) ?_
          refine JO.pur rfl rfl rfl (Pur.neqI rfl rfl) ?_
          refine JO.pur rfl rfl rfl (Pur.assign rfl) ?_
          refine JO.nil ?_
          refine J.splitB 27 rfl (fun h27 => ?_) (fun h27 => ?_)
          · try simp only [decide_eq_true_eq, decide_eq_false_iff_not, Bool.not_eq_true', Bool.not_eq_false', Bool.and_eq_true, Bool.or_eq_true, Bool.and_eq_false_iff, Bool.or_eq_false_iff, Option.isNone_some, Option.isSome_some, Option.isNone_none, Option.isSome_none, Int.not_lt, Int.not_le, beq_iff_eq, beq_eq_false_iff_ne, bne_iff_ne, ne_eq, Bool.not_not, Decidable.not_not] at h27
            have hle : rs.length ≠ ss.length := by omega
            refine J.condT rfl rfl ?_
            refine J.seq rfl ?_
            refine J.region rfl ?_
            refine JO.pur rfl rfl rfl (Pur.assign rfl) ?_
            refine JO.nil ?_
            refine J.ret rfl rfl ?_
            refine ⟨_, _, ⟨rfl, rfl⟩, congrArg (Value.int .i64) (show _ = rAskV lay lay2 rs ss from ?_), SubC.out⟩
            unfold rAskV; rw [if_neg (not_not_intro ⟨hg1, hg2⟩), if_neg (not_not_intro ⟨hg3, hg4⟩), if_pos hle]
          · try simp only [decide_eq_true_eq, decide_eq_false_iff_not, Bool.not_eq_true', Bool.not_eq_false', Bool.and_eq_true, Bool.or_eq_true, Bool.and_eq_false_iff, Bool.or_eq_false_iff, Option.isNone_some, Option.isSome_some, Option.isNone_none, Option.isSome_none, Int.not_lt, Int.not_le, beq_iff_eq, beq_eq_false_iff_ne, bne_iff_ne, ne_eq, Bool.not_not, Decidable.not_not] at h27
            have hle : rs.length = ss.length := by omega
            refine J.condF rfl rfl ?_
            refine J.skip rfl ?_
            refine J.inBlock ?_
            refine J.seq rfl ?_
            refine J.region rfl ?_
            refine JO.pur rfl rfl rfl (Pur.assign rfl) ?_
            refine JO.nil ?_
            refine J.ret rfl rfl ?_
            refine ⟨_, _, ⟨rfl, rfl⟩, congrArg (Value.int .i64) (show _ = rAskV lay lay2 rs ss from ?_), SubC.out⟩
            unfold rAskV; rw [if_neg (not_not_intro ⟨hg1, hg2⟩), if_neg (not_not_intro ⟨hg3, hg4⟩), if_neg (not_not_intro hle)]

theorem rfind {L : List Asn} {a b : Option Addr} {n cap m cq : Nat} {hs : List Hdr} {xss : List (List Int)} {x : List Int} [SlIn hE L a hs] [RowsR intE L hs xss] [SlIn intE L b x] (hn : n = hs.length) (hm : m = x.length) (hrl : ∀ y ∈ xss, y.length ≤ 1000000) (hb : hs.length ≤ 1000000) :
    CallS Try.prog 130 [.slice a n cap, .slice b m cq].toArray L (fun v M => v = .int .i64 (findL xss x) ∧ M = L) := by
  subst hn
  subst hm
  refine CallS.fact (fun h s => RowsR.len (E := intE) (hs := hs) (xss := xss) s) fun hnn => ?_
  have hhl : hs.length = xss.length := rows_len hnn
  refine CallS.ent ?_
  refine CallS.enter Try.func130 rfl rfl rfl rfl rfl ?_
  refine J.seq rfl ?_
  refine J.region rfl ?_
  refine JO.pur rfl rfl rfl (Pur.assign rfl) ?_
  refine JO.nil ?_
  refine J.seq rfl ?_
  refine J.seq rfl ?_
  refine J.region rfl ?_
  refine JO.pur rfl rfl rfl (Pur.assign rfl) ?_
  refine JO.nil ?_
  refine J.block rfl ?_
  refine J.loopF (ι := Nat) (fun q => q ≤ xss.length ∧ ∀ j, j < q → xss[j]? ≠ some x) (fun q => [(5, .int .i64 (q : Int))]) [(0, _), (1, _)] (fun q => L) (fun q => xss.length - q) 0 rfl (.cons rfl rfl (.cons rfl rfl .nil)) (.cons rfl rfl .nil) (by first | exact fun _ h => h | exact SubC.out | (dsimp only; exact SubC.out)) ⟨Nat.zero_le _, fun j hj => by omega⟩ ?_
  rintro k ⟨hk, hno⟩ ih0
  try dsimp only
  refine J.seq rfl ?_
  refine J.seq rfl ?_
  refine J.region rfl ?_
  refine JO.pur rfl rfl rfl (Pur.move rfl) ?_
  refine JO.pur rfl rfl rfl (Pur.move rfl) ?_
  refine JO.pur rfl rfl rfl (Pur.len rfl) ?_
  refine JO.pur rfl rfl rfl (Pur.lss rfl rfl) ?_
  refine JO.nil ?_
  refine J.splitB 9 rfl (fun h9 => ?_) (fun h9 => ?_)
  · try simp only [decide_eq_true_eq, decide_eq_false_iff_not, Bool.not_eq_true', Bool.not_eq_false', Bool.and_eq_true, Bool.or_eq_true, Bool.and_eq_false_iff, Bool.or_eq_false_iff, Option.isNone_some, Option.isSome_some, Option.isNone_none, Option.isSome_none, Int.not_lt, Int.not_le, beq_iff_eq, beq_eq_false_iff_ne, bne_iff_ne, ne_eq, Bool.not_not, Decidable.not_not] at h9
    have hkl : k < xss.length := by omega
    obtain ⟨hd, hH⟩ : ∃ hd, hs[k]? = some hd := ⟨_, List.getElem?_eq_getElem (by omega)⟩
    obtain ⟨y, hX⟩ : ∃ y, xss[k]? = some y := ⟨_, List.getElem?_eq_getElem hkl⟩
    have hdn := hdr_n hnn hH hX
    have hyl := hrl y (List.mem_of_getElem? hX)
    refine J.condT rfl rfl ?_
    refine J.skip rfl ?_
    refine J.seq rfl ?_
    refine J.block rfl ?_
    refine J.seq rfl ?_
    refine J.region rfl ?_
    refine JO.pur rfl rfl rfl (Pur.move rfl) ?_
    refine JO.pur rfl rfl rfl (Pur.move rfl) ?_
    refine JO.pur rfl rfl rfl (Pur.idx rfl rfl rfl (by first | rfl | (simp; done) | omega) rfl (by omega)) ?_
    refine JO.pur rfl rfl rfl (Pur.load rfl (CellIn.el0 rfl hH rfl)) ?_
    refine JO.pur rfl rfl rfl (Pur.move rfl) ?_
    refine JO.effR rfl rfl rfl (Eff.call rfl (@same2_ok _ _ _ _ _ _ _ y x (RowsR.row (E := intE) inferInstance hH hX) inferInstance hdn rfl hyl)) ?_
    refine JO.nil ?_
    refine J.splitB 17 rfl (fun h17 => ?_) (fun h17 => ?_)
    · try simp only [decide_eq_true_eq, decide_eq_false_iff_not, Bool.not_eq_true', Bool.not_eq_false', Bool.and_eq_true, Bool.or_eq_true, Bool.and_eq_false_iff, Bool.or_eq_false_iff, Option.isNone_some, Option.isSome_some, Option.isNone_none, Option.isSome_none, Int.not_lt, Int.not_le, beq_iff_eq, beq_eq_false_iff_ne, bne_iff_ne, ne_eq, Bool.not_not, Decidable.not_not] at h17
      have hf := find_of hkl hno (by rw [hX, h17])
      refine J.condT rfl rfl ?_
      refine J.seq rfl ?_
      refine J.region rfl ?_
      refine JO.pur rfl rfl rfl (Pur.move rfl) ?_
      refine JO.pur rfl rfl rfl (Pur.assign rfl) ?_
      refine JO.nil ?_
      refine J.ret rfl rfl ?_
      exact ⟨_, _, ⟨rfl, rfl⟩, congrArg (Value.int .i64) (show _ = findL xss x by unfold findL; rw [hf]), SubC.out⟩
    · try simp only [decide_eq_true_eq, decide_eq_false_iff_not, Bool.not_eq_true', Bool.not_eq_false', Bool.and_eq_true, Bool.or_eq_true, Bool.and_eq_false_iff, Bool.or_eq_false_iff, Option.isNone_some, Option.isSome_some, Option.isNone_none, Option.isSome_none, Int.not_lt, Int.not_le, beq_iff_eq, beq_eq_false_iff_ne, bne_iff_ne, ne_eq, Bool.not_not, Decidable.not_not] at h17
      have hno2 : ∀ j, j < k + 1 → xss[j]? ≠ some x := fun j hj => by
        rcases Nat.lt_or_ge j k with h | h
        · exact hno j h
        · obtain rfl : j = k := by omega
          rw [hX]; intro e; exact h17 (Option.some.inj e)
      refine J.condF rfl rfl ?_
      refine J.skip rfl ?_
      refine J.inBlock ?_
      refine J.region rfl ?_
      refine JO.pur rfl rfl rfl (Pur.move rfl) ?_
      refine JO.pur rfl rfl rfl (Pur.add rfl rfl (wr64 (by omega))) ?_
      refine JO.pur rfl rfl rfl (Pur.assign rfl) ?_
      refine JO.nil ?_
      exact J.weaken (.cons rfl (congrArg (Value.int .i64) (by first | rfl | (dsimp only; omega))) (.cons rfl rfl (.cons rfl rfl .nil))) (by first | exact fun _ h => h | exact SubC.out | (dsimp only; exact SubC.out)) (ih0 (k + 1) ⟨by omega, hno2⟩ (by omega))
  · try simp only [decide_eq_true_eq, decide_eq_false_iff_not, Bool.not_eq_true', Bool.not_eq_false', Bool.and_eq_true, Bool.or_eq_true, Bool.and_eq_false_iff, Bool.or_eq_false_iff, Option.isNone_some, Option.isSome_some, Option.isNone_none, Option.isSome_none, Int.not_lt, Int.not_le, beq_iff_eq, beq_eq_false_iff_ne, bne_iff_ne, ne_eq, Bool.not_not, Decidable.not_not] at h9
    have hke : k = xss.length := by omega
    have hf := find_no (l := xss) (x := x) (fun j hj => hno j (by omega))
    refine J.condF rfl rfl ?_
    refine J.exit rfl rfl ?_
    refine J.seq rfl ?_
    refine J.region rfl ?_
    refine JO.pur rfl rfl rfl (Pur.assign rfl) ?_
    refine JO.nil ?_
    refine J.ret rfl rfl ?_
    exact ⟨_, _, ⟨rfl, rfl⟩, congrArg (Value.int .i64) (show _ = findL xss x by unfold findL; rw [hf]), SubC.out⟩

theorem rorder_row {L : List Asn} {lay : ByteArray} {a : Option Addr} {n cap : Nat} {rs : List Rg} [SlIn rgE L a rs] (hn : n = rs.length) (h : okD rs) (hs : lay = rowS) :
    CallS Try.prog 128 [.string lay, .agg #[.slice a n cap]].toArray L (fun v M => ∃ a' c' hs, v = .slice a' (ordL (isC lay) rs).length c' ∧ M = sl hE a' c' hs :: rows intE hs (ordL (isC lay) rs) :: L) := by
  subst hn
  refine CallS.ent ?_
  refine CallS.enter Try.func128 rfl rfl rfl rfl rfl ?_
  refine J.seq rfl ?_
  refine J.region rfl ?_
  refine JO.eff rfl rfl rfl (Eff.box (cs := [_]) rfl rfl) ?_
  rintro _ _ ⟨b3, rfl, rfl⟩
  refine JO.pur rfl rfl rfl (Pur.assign rfl) ?_
  refine JO.nil ?_
  refine J.seq rfl ?_
  refine J.seq rfl ?_
  refine J.region rfl ?_
  refine JO.pur rfl rfl rfl (Pur.move rfl) ?_
  refine JO.pur rfl rfl rfl (Pur.eqlT rfl rfl) ?_
  refine JO.setv (u' := .bool true) 15 rfl (congrArg Value.bool (decide_eq_true hs)) ?_
  refine JO.nil ?_
  refine J.condT rfl rfl ?_
  refine J.seq rfl ?_
  refine J.region rfl ?_
  refine JO.pur rfl rfl rfl (Pur.loadA rfl rfl rfl CellsIn.blk) ?_
  refine JO.eff rfl rfl rfl (Eff.call rfl (r_Indexes (rs := rs) rfl)) ?_
  rintro _ _ ⟨a18, c18, hs2, rfl, rfl⟩
  refine JO.pur rfl rfl rfl (Pur.move rfl) ?_
  refine JO.pur rfl rfl rfl (Pur.extract rfl rfl) ?_
  refine JO.pur rfl rfl rfl (Pur.extract rfl rfl) ?_
  refine JO.pur rfl rfl rfl (Pur.assign rfl) ?_
  refine JO.pur rfl rfl rfl (Pur.assign rfl) ?_
  refine JO.nil ?_
  refine J.seq rfl ?_
  refine J.region rfl ?_
  refine JO.pur rfl rfl rfl (Pur.move rfl) ?_
  refine JO.pur rfl rfl rfl (Pur.assign rfl) ?_
  refine JO.nil ?_
  refine J.ret rfl rfl ?_
  have hv : ixsV rs = ordL (isC lay) rs := by
    unfold ixsV ordL tuL ixL; rw [if_pos h, isC_f (by rw [hs]; exact row_ne)]; simp
  refine ⟨_, _, ⟨a18, c18, hs2, rfl, rfl⟩, by rw [hv]; rfl, fun h s => ?_⟩
  rw [hv] at s; exact SubC.out h s

theorem rorder_col {L : List Asn} {lay : ByteArray} {a : Option Addr} {n cap : Nat} {rs : List Rg} [SlIn rgE L a rs] (hn : n = rs.length) (h : okD rs) (hs : lay = colS) :
    CallS Try.prog 128 [.string lay, .agg #[.slice a n cap]].toArray L (fun v M => ∃ a' c' hs, v = .slice a' (ordL (isC lay) rs).length c' ∧ M = sl hE a' c' hs :: rows intE hs (ordL (isC lay) rs) :: L) := by
  subst hn
  refine CallS.ent ?_
  refine CallS.enter Try.func128 rfl rfl rfl rfl rfl ?_
  refine J.seq rfl ?_
  refine J.region rfl ?_
  refine JO.eff rfl rfl rfl (Eff.box (cs := [_]) rfl rfl) ?_
  rintro _ _ ⟨b3, rfl, rfl⟩
  refine JO.pur rfl rfl rfl (Pur.assign rfl) ?_
  refine JO.nil ?_
  refine J.seq rfl ?_
  refine J.seq rfl ?_
  refine J.region rfl ?_
  refine JO.pur rfl rfl rfl (Pur.move rfl) ?_
  refine JO.pur rfl rfl rfl (Pur.eqlT rfl rfl) ?_
  refine JO.setv (u' := .bool false) 15 rfl (congrArg Value.bool (decide_eq_false (by rw [hs]; exact fun e => row_ne e.symm))) ?_
  refine JO.nil ?_
  refine J.condF rfl rfl ?_
  refine J.skip rfl ?_
  refine J.seq rfl ?_
  refine J.region rfl ?_
  refine JO.pur rfl rfl rfl (Pur.loadA rfl rfl rfl CellsIn.blk) ?_
  refine JO.eff rfl rfl rfl (Eff.call rfl (r_Transpose (rs := rs) rfl)) ?_
  rintro _ _ ⟨a24, c24, rfl, rfl⟩
  refine JO.pur rfl rfl rfl (Pur.move rfl) ?_
  refine JO.pur rfl rfl rfl (Pur.extract rfl rfl) ?_
  refine JO.pur rfl rfl rfl (Pur.extract rfl rfl) ?_
  refine JO.eff rfl rfl rfl (Eff.alloc (cs := [_]) rfl) ?_
  rintro _ _ ⟨b7, rfl, rfl⟩
  refine JO.effN rfl rfl (Eff.storeBA (cs' := [_]) rfl rfl (by rfl) (by rfl) (by rfl)) ?_
  rintro _ _ ⟨rfl, rfl⟩
  refine JO.pur rfl rfl rfl (Pur.assign rfl) ?_
  refine JO.nil ?_
  refine J.seq rfl ?_
  refine J.region rfl ?_
  refine JO.pur rfl rfl rfl (Pur.loadA rfl rfl rfl CellsIn.blk) ?_
  refine JO.eff rfl rfl rfl (Eff.call rfl (r_Indexes (rs := trD rs) rfl)) ?_
  rintro _ _ ⟨a29, c29, hs0, rfl, rfl⟩
  have htr : trD rs = (canD rs).reverse := by unfold trD; rw [if_pos h]
  have hsv : ixsV (trD rs) = srcV true rs := by rw [htr]; unfold ixsV srcV; rw [if_pos (col_ok h)]; exact col_idx h
  have hsl := src_len true rs
  rw [tuL_cnt] at hsl
  have hc4 := h.2.2.2
  have hl3 := h.2.1
  rw [hsv]
  refine JO.pur rfl rfl rfl (Pur.move rfl) ?_
  refine JO.pur rfl rfl rfl (Pur.extract rfl rfl) ?_
  refine JO.pur rfl rfl rfl (Pur.extract rfl rfl) ?_
  refine JO.pur rfl rfl rfl (Pur.assign rfl) ?_
  refine JO.pur rfl rfl rfl (Pur.assign rfl) ?_
  refine JO.nil ?_
  refine J.seq rfl ?_
  refine J.seq rfl ?_
  refine J.fact (fun h s => RowsR.len (E := intE) (hs := hs0) (xss := srcV true rs) s) fun hn0 => ?_
  have hh0 := rows_len hn0
  refine J.region rfl ?_
  refine JO.pur rfl rfl rfl (Pur.assign rfl) ?_
  refine JO.nil ?_
  refine J.block rfl ?_
  refine J.loopF (ι := Nat) (fun q => q ≤ (srcV true rs).length) (fun q => [(11, .int .i64 (q : Int))]) [(9, _)] (fun q => rows intE hs0 (midV true rs q) :: sl hE a29 c29 hs0 :: L) (fun q => (srcV true rs).length - q) 0 rfl (.cons rfl rfl .nil) (.cons rfl rfl .nil) (fun h s => by rw [mid_zero]; exact SubC.out h s) (Nat.zero_le _) ?_
  rintro j hj ihj
  try dsimp only
  refine J.seq rfl ?_
  refine J.seq rfl ?_
  refine J.region rfl ?_
  refine JO.pur rfl rfl rfl (Pur.move rfl) ?_
  refine JO.pur rfl rfl rfl (Pur.move rfl) ?_
  refine JO.pur rfl rfl rfl (Pur.len rfl) ?_
  refine JO.pur rfl rfl rfl (Pur.lss rfl rfl) ?_
  refine JO.nil ?_
  refine J.splitB 35 rfl (fun h35 => ?_) (fun h35 => ?_)
  · try simp only [decide_eq_true_eq, decide_eq_false_iff_not, Bool.not_eq_true', Bool.not_eq_false', Bool.and_eq_true, Bool.or_eq_true, Bool.and_eq_false_iff, Bool.or_eq_false_iff, Option.isNone_some, Option.isSome_some, Option.isNone_none, Option.isSome_none, Int.not_lt, Int.not_le, beq_iff_eq, beq_eq_false_iff_ne, bne_iff_ne, ne_eq, Bool.not_not, Decidable.not_not] at h35
    have hjl : j < (srcV true rs).length := by omega
    obtain ⟨x, hx⟩ : ∃ x, (srcV true rs)[j]? = some x := ⟨_, List.getElem?_eq_getElem hjl⟩
    have hX := mid_get hx
    have hxl := src_row hx
    obtain ⟨hd, hH⟩ : ∃ hd, hs0[j]? = some hd := ⟨_, List.getElem?_eq_getElem (by omega)⟩
    refine J.fact (fun h s => RowsR.len (E := intE) (hs := hs0) (xss := midV true rs j) s) fun hnn => ?_
    refine J.fact (fun h s => RowsR.fit (E := intE) (hs := hs0) (xss := midV true rs j) s hH hX) fun hfit => ?_
    have hdn := hdr_n hnn hH hX
    refine J.condT rfl rfl ?_
    refine J.skip rfl ?_
    refine J.seq rfl ?_
    refine J.block rfl ?_
    refine J.seq rfl ?_
    refine J.region rfl ?_
    refine JO.pur rfl rfl rfl (Pur.move rfl) ?_
    refine JO.pur rfl rfl rfl (Pur.move rfl) ?_
    refine JO.pur rfl rfl rfl (Pur.idx rfl rfl rfl (by first | rfl | (simp; done) | omega | (rw [List.length_set, hrl, hdn]) | (rw [hrl, hdn])) rfl (by omega)) ?_
    refine JO.pur rfl rfl rfl (Pur.load rfl (CellIn.el0 rfl hH rfl)) ?_
    refine JO.setv (u' := .slice hd.a hd.n hd.cap) 41 rfl rfl ?_
    refine JO.pur rfl rfl rfl (Pur.len rfl) ?_
    refine JO.setv (u' := .int .i64 (x.length : Int)) 42 rfl (congrArg (fun z : Nat => Value.int .i64 (z : Int)) hdn) ?_
    refine JO.pur rfl rfl rfl (Pur.assign rfl) ?_
    refine JO.nil ?_
    refine J.seq rfl ?_
    refine J.imp (fun h s => open_row (E := intE) (i := j) (hs := hs0) (xss := midV true rs j) hH hX s) ?_
    refine J.region rfl ?_
    refine JO.pur rfl rfl rfl (Pur.assign rfl) ?_
    refine JO.nil ?_
    refine J.block rfl ?_
    refine J.loopF (ι := Nat) (fun q => q ≤ x.length / 2) (fun q => [(13, .int .i64 (q : Int))]) [(9, _), (11, _), (12, _)] (fun q => sl intE hd.a hd.cap (rvL x q) :: rowsBut intE j hs0 (midV true rs j) :: sl hE a29 c29 hs0 :: L) (fun q => x.length - q) 0 rfl (.cons rfl rfl (.cons rfl rfl (.cons rfl rfl .nil))) (.cons rfl rfl .nil) (fun h s => by rw [rvL_zero]; exact SubC.out h s) (Nat.zero_le _) ?_
    rintro i hi ihi
    try dsimp only
    refine J.seq rfl ?_
    refine J.seq rfl ?_
    refine J.region rfl ?_
    refine JO.pur rfl rfl rfl (Pur.move rfl) ?_
    refine JO.pur rfl rfl rfl (Pur.move rfl) ?_
    refine JO.pur rfl rfl rfl (Pur.quo rfl rfl (by decide)) ?_
    refine JO.setv (u' := .int .i64 ((x.length / 2 : Nat) : Int)) 45 rfl (congrArg (Value.int .i64) (by rw [show (2 : Int) = ((2 : Nat) : Int) from rfl, tdiv_nat]; exact wr64 (by omega))) ?_
    refine JO.pur rfl rfl rfl (Pur.lss rfl rfl) ?_
    refine JO.nil ?_
    refine J.splitB 46 rfl (fun h46 => ?_) (fun h46 => ?_)
    · try simp only [decide_eq_true_eq, decide_eq_false_iff_not, Bool.not_eq_true', Bool.not_eq_false', Bool.and_eq_true, Bool.or_eq_true, Bool.and_eq_false_iff, Bool.or_eq_false_iff, Option.isNone_some, Option.isSome_some, Option.isNone_none, Option.isSome_none, Int.not_lt, Int.not_le, beq_iff_eq, beq_eq_false_iff_ne, bne_iff_ne, ne_eq, Bool.not_not, Decidable.not_not] at h46
      have hil : i < x.length - 1 - i := by omega
      have hst := rvL_step hil
      have hrl := rvL_len x i
      have hxk : (rvL x i)[i]? = some (x.getD i default) := by rw [rvL_get (by omega), if_neg (by omega)]
      have hxj : (rvL x i)[(x.length - 1 - i)]? = some (x.getD (x.length - 1 - i) default) := by rw [rvL_get (by omega), if_neg (by omega)]
      have hjj : (x.length : Int) - 1 - (i : Int) = (((x.length - 1 - i) : Nat) : Int) := by omega
      refine J.condT rfl rfl ?_
      refine J.skip rfl ?_
      refine J.seq rfl ?_
      refine J.block rfl ?_
      refine J.mask0 (n := 34) [31, 33] rfl Try.mixed rfl (by kernel_rfl) ?_
      refine JM.take 0 (fun _ h => h) rfl (by kernel_rfl) rfl rfl rfl (m' := 1) rfl (Pur.move rfl) ?_
      refine JM.take 1 (fun _ h => h) rfl (by kernel_rfl) rfl rfl rfl (m' := 3) rfl (Pur.move rfl) ?_
      refine JM.take 2 (fun _ h => h) rfl (by kernel_rfl) rfl rfl rfl (m' := 7) rfl (Pur.idx rfl rfl rfl (by first | rfl | (simp; done) | omega | (rw [List.length_set, hrl, hdn]) | (rw [hrl, hdn])) rfl (by omega)) ?_
      refine JM.take 3 (fun _ h => h) rfl (by kernel_rfl) rfl rfl rfl (m' := 15) rfl (Pur.load rfl (CellIn.el0 rfl hH rfl)) ?_
      refine JM.setv (u' := .slice hd.a hd.n hd.cap) 52 rfl rfl ?_
      refine JM.take 4 (fun _ h => h) rfl (by kernel_rfl) rfl rfl rfl (m' := 31) rfl (Pur.move rfl) ?_
      refine JM.take 5 (fun _ h => h) rfl (by kernel_rfl) rfl rfl rfl (m' := 63) rfl (Pur.move rfl) ?_
      refine JM.take 6 (fun _ h => h) rfl (by kernel_rfl) rfl rfl rfl (m' := 127) rfl (Pur.move rfl) ?_
      refine JM.take 7 (fun _ h => h) rfl (by kernel_rfl) rfl rfl rfl (m' := 255) rfl (Pur.idx rfl rfl rfl (by first | rfl | (simp; done) | omega | (rw [List.length_set, hrl, hdn]) | (rw [hrl, hdn])) rfl (by omega)) ?_
      refine JM.take 8 (fun _ h => h) rfl (by kernel_rfl) rfl rfl rfl (m' := 511) rfl (Pur.load rfl (CellIn.el0 rfl hH rfl)) ?_
      refine JM.setv (u' := .slice hd.a hd.n hd.cap) 57 rfl rfl ?_
      refine JM.takeF 9 (.inr (fun _ h => h)) rfl (by kernel_rfl) rfl rfl rfl (m' := 1023) rfl (Pur.move rfl) ?_
      refine JM.takeF 10 (.inr (fun _ h => h)) rfl (by kernel_rfl) rfl rfl rfl (m' := 2047) rfl (Pur.sub rfl rfl (wr64 (by omega))) ?_
      refine JM.takeF 11 (.inr (fun _ h => h)) rfl (by kernel_rfl) rfl rfl rfl (m' := 4095) rfl (Pur.move rfl) ?_
      refine JM.takeF 12 (.inr (fun _ h => h)) rfl (by kernel_rfl) rfl rfl rfl (m' := 8191) rfl (Pur.sub rfl rfl (wr64 (by omega))) ?_
      refine JM.take 13 (fun _ h => h) rfl (by kernel_rfl) rfl rfl rfl (m' := 16383) rfl (Pur.move rfl) ?_
      refine JM.take 14 (fun _ h => h) rfl (by kernel_rfl) rfl rfl rfl (m' := 32767) rfl (Pur.move rfl) ?_
      refine JM.take 15 (fun _ h => h) rfl (by kernel_rfl) rfl rfl rfl (m' := 65535) rfl (Pur.idx rfl rfl rfl (by first | rfl | (simp; done) | omega | (rw [List.length_set, hrl, hdn]) | (rw [hrl, hdn])) rfl (by omega)) ?_
      refine JM.take 16 (fun _ h => h) rfl (by kernel_rfl) rfl rfl rfl (m' := 131071) rfl (Pur.load rfl (CellIn.el0 rfl hH rfl)) ?_
      refine JM.setv (u' := .slice hd.a hd.n hd.cap) 65 rfl rfl ?_
      refine JM.take 17 (fun _ h => h) rfl (by kernel_rfl) rfl rfl rfl (m' := 262143) rfl (Pur.move rfl) ?_
      refine JM.take 18 (fun _ h => h) rfl (by kernel_rfl) rfl rfl rfl (m' := 524287) rfl (Pur.sub rfl rfl (wr64 (by omega))) ?_
      refine JM.take 19 (fun _ h => h) rfl (by kernel_rfl) rfl rfl rfl (m' := 1048575) rfl (Pur.move rfl) ?_
      refine JM.take 20 (fun _ h => h) rfl (by kernel_rfl) rfl rfl rfl (m' := 2097151) rfl (Pur.sub rfl rfl (wr64 (by omega))) ?_
      refine JM.take 21 (fun _ h => h) rfl (by kernel_rfl) rfl rfl rfl (m' := 4194303) rfl (Pur.idx rfl rfl rfl (by first | rfl | (simp; done) | omega | (rw [List.length_set, hrl, hdn]) | (rw [hrl, hdn])) hjj (by omega)) ?_
      refine JM.take 22 (fun _ h => h) rfl (by kernel_rfl) rfl rfl rfl (m' := 8388607) rfl (Pur.load rfl (CellIn.el0 rfl hxj rfl)) ?_
      refine JM.setv (u' := .int .i64 (x.getD (x.length - 1 - i) default)) 71 rfl rfl ?_
      refine JM.take 23 (fun _ h => h) rfl (by kernel_rfl) rfl rfl rfl (m' := 16777215) rfl (Pur.move rfl) ?_
      refine JM.take 24 (fun _ h => h) rfl (by kernel_rfl) rfl rfl rfl (m' := 33554431) rfl (Pur.move rfl) ?_
      refine JM.take 25 (fun _ h => h) rfl (by kernel_rfl) rfl rfl rfl (m' := 67108863) rfl (Pur.idx rfl rfl rfl (by first | rfl | (simp; done) | omega | (rw [List.length_set, hrl, hdn]) | (rw [hrl, hdn])) rfl (by omega)) ?_
      refine JM.take 26 (fun _ h => h) rfl (by kernel_rfl) rfl rfl rfl (m' := 134217727) rfl (Pur.load rfl (CellIn.el0 rfl hH rfl)) ?_
      refine JM.setv (u' := .slice hd.a hd.n hd.cap) 75 rfl rfl ?_
      refine JM.take 27 (fun _ h => h) rfl (by kernel_rfl) rfl rfl rfl (m' := 268435455) rfl (Pur.move rfl) ?_
      refine JM.take 28 (fun _ h => h) rfl (by kernel_rfl) rfl rfl rfl (m' := 536870911) rfl (Pur.idx rfl rfl rfl (by first | rfl | (simp; done) | omega | (rw [List.length_set, hrl, hdn]) | (rw [hrl, hdn])) rfl (by omega)) ?_
      refine JM.take 29 (fun _ h => h) rfl (by kernel_rfl) rfl rfl rfl (m' := 1073741823) rfl (Pur.load rfl (CellIn.el0 rfl hxk rfl)) ?_
      refine JM.setv (u' := .int .i64 (x.getD i default)) 78 rfl rfl ?_
      refine JM.take 30 (fun _ h => h) rfl (by kernel_rfl) rfl rfl rfl (m' := 2147483647) rfl (Pur.idx rfl rfl rfl (by first | rfl | (simp; done) | omega | (rw [List.length_set, hrl, hdn]) | (rw [hrl, hdn])) rfl (by omega)) ?_
      refine JM.one (i := 31) (by kernel_rfl) ?_
      refine JMi.effN rfl rfl rfl (m' := 4294967295) rfl (Eff.storeS0 (z' := (x.getD (x.length - 1 - i) default)) rfl rfl rfl rfl hxk .head) ?_
      rintro _ _ ⟨rfl, rfl⟩
      refine ⟨.inl (by simp), ?_⟩
      refine JM.one (i := 32) (by kernel_rfl) ?_
      refine JMi.eff rfl rfl rfl rfl (m' := 8589934591) rfl (Pur.eff (Pur.idx rfl rfl rfl (by first | rfl | (simp; done) | omega | (rw [List.length_set, hrl, hdn]) | (rw [hrl, hdn])) hjj (by rw [List.length_set]; omega))) ?_
      rintro _ _ ⟨rfl, rfl⟩
      refine ⟨.inl (.inr (by kernel_rfl)), ?_⟩
      refine JM.one (i := 33) (by kernel_rfl) ?_
      refine JMi.effN rfl rfl rfl (m' := 17179869183) rfl (Eff.storeS0 (z' := (x.getD i default)) rfl rfl rfl rfl (List.getElem?_eq_getElem (by rw [List.length_set]; omega)) .head) ?_
      rintro _ _ ⟨rfl, rfl⟩
      refine ⟨.inl (by simp), ?_⟩
      refine JM.done rfl ?_
      refine J.inBlock ?_
      refine J.region rfl ?_
      refine JO.pur rfl rfl rfl (Pur.move rfl) ?_
      refine JO.pur rfl rfl rfl (Pur.add rfl rfl (wr64 (by omega))) ?_
      refine JO.pur rfl rfl rfl (Pur.assign rfl) ?_
      refine JO.nil ?_
      exact J.weaken (.cons rfl (congrArg (Value.int .i64) (by first | rfl | (dsimp only; omega))) (.cons rfl rfl (.cons rfl rfl (.cons rfl rfl .nil)))) (fun h s => by rw [hst] at s; exact SubC.out h s) (ihi (i + 1) (by omega) (by omega))
    · try simp only [decide_eq_true_eq, decide_eq_false_iff_not, Bool.not_eq_true', Bool.not_eq_false', Bool.and_eq_true, Bool.or_eq_true, Bool.and_eq_false_iff, Bool.or_eq_false_iff, Option.isNone_some, Option.isSome_some, Option.isNone_none, Option.isSome_none, Int.not_lt, Int.not_le, beq_iff_eq, beq_eq_false_iff_ne, bne_iff_ne, ne_eq, Bool.not_not, Decidable.not_not] at h46
      have hie : i = x.length / 2 := by omega
      have hrev : rvL x i = x.reverse := rvL_all (by omega)
      refine J.condF rfl rfl ?_
      refine J.exit rfl rfl ?_
      refine J.inBlock ?_
      refine J.region rfl ?_
      refine JO.pur rfl rfl rfl (Pur.move rfl) ?_
      refine JO.pur rfl rfl rfl (Pur.add rfl rfl (wr64 (by omega))) ?_
      refine JO.pur rfl rfl rfl (Pur.assign rfl) ?_
      refine JO.nil ?_
      exact J.weaken (.cons rfl (congrArg (Value.int .i64) (by first | rfl | (dsimp only; omega))) (.cons rfl rfl .nil)) (fun h s => by rw [hrev] at s; have s2 := shut_row (E := intE) (i := j) (hs := hs0) (xss := midV true rs j) (hd := hd) (xs := x.reverse) hH (by rw [List.length_reverse]; exact hdn) s; rw [show x.reverse = ixL true x from rfl, mid_step hx] at s2; exact SubC.out h s2) (ihj (j + 1) (by omega) (by omega))
  · try simp only [decide_eq_true_eq, decide_eq_false_iff_not, Bool.not_eq_true', Bool.not_eq_false', Bool.and_eq_true, Bool.or_eq_true, Bool.and_eq_false_iff, Bool.or_eq_false_iff, Option.isNone_some, Option.isSome_some, Option.isNone_none, Option.isSome_none, Int.not_lt, Int.not_le, beq_iff_eq, beq_eq_false_iff_ne, bne_iff_ne, ne_eq, Bool.not_not, Decidable.not_not] at h35
    have hje : j = (srcV true rs).length := by omega
    refine J.condF rfl rfl ?_
    refine J.exit rfl rfl ?_
    refine J.seq rfl ?_
    refine J.region rfl ?_
    refine JO.pur rfl rfl rfl (Pur.move rfl) ?_
    refine JO.pur rfl rfl rfl (Pur.assign rfl) ?_
    refine JO.nil ?_
    refine J.ret rfl rfl ?_
    have hol := ord_len2 true rs
    refine ⟨_, _, ⟨a29, c29, hs0, rfl, rfl⟩, by rw [isC_t hs, hol, ← hsl]; rfl, fun h s => ?_⟩
    rw [isC_t hs]
    rw [hje, mid_all] at s
    exact SubC.out h s

theorem rorder {L : List Asn} {lay : ByteArray} {a : Option Addr} {n cap : Nat} {rs : List Rg} [SlIn rgE L a rs] (hn : n = rs.length) (h : okD rs) (hl : okL lay) : CallS Try.prog 128 [.string lay, .agg #[.slice a n cap]].toArray L (fun v M => ∃ a' c' hs, v = .slice a' (ordL (isC lay) rs).length c' ∧ M = sl hE a' c' hs :: rows intE hs (ordL (isC lay) rs) :: L) := by
  rcases hl with hs | hs
  · exact rorder_row hn h hs
  · exact rorder_col hn h hs
theorem rOffset {L : List Asn} {lay : ByteArray} {a b : Option Addr} {n cap m cq : Nat} {rs : List Rg} {x : List Int} [SlIn rgE L a rs] [SlIn intE L b x] (hn : n = rs.length) (hm : m = x.length) :
    CallS Try.prog 71 [.string lay, .agg #[.slice a n cap], .slice b m cq].toArray L (fun v M => v = .tuple #[.int .i64 (ofV lay rs x).1, .int .i64 (ofV lay rs x).2] ∧ M = L) := by
  subst hn
  subst hm
  refine CallS.ent ?_
  refine CallS.enter Try.func71 rfl rfl rfl rfl rfl ?_
  refine J.seq rfl ?_
  refine J.region rfl ?_
  refine JO.eff rfl rfl rfl (Eff.box (cs := [_]) rfl rfl) ?_
  rintro _ _ ⟨b4, rfl, rfl⟩
  refine JO.pur rfl rfl rfl (Pur.assign rfl) ?_
  refine JO.pur rfl rfl rfl (Pur.assign rfl) ?_
  refine JO.nil ?_
  refine J.seq rfl ?_
  refine J.seq rfl ?_
  refine J.region rfl ?_
  refine JO.pur rfl rfl rfl (Pur.move rfl) ?_
  refine JO.pur rfl rfl rfl (Pur.move rfl) ?_
  refine JO.pur rfl rfl rfl (Pur.loadA rfl rfl rfl CellsIn.blk) ?_
  refine JO.pur rfl rfl rfl (Pur.loadA rfl rfl rfl CellsIn.blk) ?_
  refine JO.effR rfl rfl rfl (Eff.call rfl (rAsked (lay := lay) (lay2 := lay) (rs := rs) (ss := rs) rfl rfl)) ?_
  rw [rAsk1]
  refine JO.pur rfl rfl rfl (Pur.assign rfl) ?_
  refine JO.nil ?_
  refine J.seq rfl ?_
  refine J.region rfl ?_
  refine JO.pur rfl rfl rfl (Pur.move rfl) ?_
  refine JO.pur rfl rfl rfl (Pur.neqI rfl rfl) ?_
  refine JO.nil ?_
  refine J.splitB 16 rfl (fun h16 => ?_) (fun h16 => ?_)
  · try simp only [decide_eq_true_eq, decide_eq_false_iff_not, Bool.not_eq_true', Bool.not_eq_false', Bool.and_eq_true, Bool.or_eq_true, Bool.and_eq_false_iff, Bool.or_eq_false_iff, Option.isNone_some, Option.isSome_some, Option.isNone_none, Option.isSome_none, Int.not_lt, Int.not_le, beq_iff_eq, beq_eq_false_iff_ne, bne_iff_ne, ne_eq, Bool.not_not, Decidable.not_not] at h16
    have h16' : ask1 lay rs ≠ 0 := h16
    refine J.condT rfl rfl ?_
    refine J.seq rfl ?_
    refine J.region rfl ?_
    refine JO.pur rfl rfl rfl (Pur.move rfl) ?_
    refine JO.pur rfl rfl rfl (Pur.assign rfl) ?_
    refine JO.pur rfl rfl rfl (Pur.assign rfl) ?_
    refine JO.nil ?_
    refine J.ret rfl rfl ?_
    have hv : ofV lay rs x = (0, ask1 lay rs) := by unfold ofV; rw [if_pos h16']
    refine ⟨_, _, ⟨rfl, rfl⟩, by rw [hv]; rfl, SubC.out⟩
  · try simp only [decide_eq_true_eq, decide_eq_false_iff_not, Bool.not_eq_true', Bool.not_eq_false', Bool.and_eq_true, Bool.or_eq_true, Bool.and_eq_false_iff, Bool.or_eq_false_iff, Option.isNone_some, Option.isSome_some, Option.isNone_none, Option.isSome_none, Int.not_lt, Int.not_le, beq_iff_eq, beq_eq_false_iff_ne, bne_iff_ne, ne_eq, Bool.not_not, Decidable.not_not] at h16
    have h16' : ask1 lay rs = 0 := by simpa using h16
    obtain ⟨g1, g2⟩ := ask1_ok h16'
    have hfo := findL_off (c := isC lay) g2.2.2.1 x
    refine J.condF rfl rfl ?_
    refine J.skip rfl ?_
    refine J.seq rfl ?_
    refine J.region rfl ?_
    refine JO.pur rfl rfl rfl (Pur.move rfl) ?_
    refine JO.pur rfl rfl rfl (Pur.loadA rfl rfl rfl CellsIn.blk) ?_
    refine JO.eff rfl rfl rfl (Eff.call rfl (rorder (rs := rs) rfl g2 g1)) ?_
    rintro _ _ ⟨a20, c20, hs, rfl, rfl⟩
    have hol := ord_len2 (isC lay) rs
    have hc4 := g2.2.2.2
    have hl3 := g2.2.1
    refine JO.fact (fun h s => RowsR.len (E := intE) (hs := hs) (xss := ordL (isC lay) rs) s) fun hn0 => ?_
    have hh0 := rows_len hn0
    refine JO.pur rfl rfl rfl (Pur.move rfl) ?_
    refine JO.effR rfl rfl rfl (Eff.call rfl (rfind (hs := hs) (xss := ordL (isC lay) rs) (x := x) (by rw [hh0]) rfl (fun y hy => by have := ord_row hy; omega) (by omega))) ?_
    refine JO.pur rfl rfl rfl (Pur.assign rfl) ?_
    refine JO.nil ?_
    refine J.seq rfl ?_
    refine J.seq rfl ?_
    refine J.region rfl ?_
    refine JO.pur rfl rfl rfl (Pur.move rfl) ?_
    refine JO.pur rfl rfl rfl (Pur.lss rfl rfl) ?_
    refine JO.nil ?_
    refine J.splitB 24 rfl (fun h24 => ?_) (fun h24 => ?_)
    · try simp only [decide_eq_true_eq, decide_eq_false_iff_not, Bool.not_eq_true', Bool.not_eq_false', Bool.and_eq_true, Bool.or_eq_true, Bool.and_eq_false_iff, Bool.or_eq_false_iff, Option.isNone_some, Option.isSome_some, Option.isNone_none, Option.isSome_none, Int.not_lt, Int.not_le, beq_iff_eq, beq_eq_false_iff_ne, bne_iff_ne, ne_eq, Bool.not_not, Decidable.not_not] at h24
      refine J.condT rfl rfl ?_
      refine J.seq rfl ?_
      refine J.region rfl ?_
      refine JO.pur rfl rfl rfl (Pur.assign rfl) ?_
      refine JO.pur rfl rfl rfl (Pur.assign rfl) ?_
      refine JO.nil ?_
      refine J.ret rfl rfl ?_
      have hv : ofV lay rs x = (0, 2) := by
        unfold ofV; rw [if_neg (not_not_intro h16')]
        cases e : offL (isC lay) rs x with
        | none => rfl
        | some z => rw [hfo, e] at h24; exact absurd h24 (Int.not_lt.2 (Int.natCast_nonneg z))
      refine ⟨_, _, ⟨rfl, rfl⟩, by rw [hv]; rfl, SubC.out⟩
    · try simp only [decide_eq_true_eq, decide_eq_false_iff_not, Bool.not_eq_true', Bool.not_eq_false', Bool.and_eq_true, Bool.or_eq_true, Bool.and_eq_false_iff, Bool.or_eq_false_iff, Option.isNone_some, Option.isSome_some, Option.isNone_none, Option.isSome_none, Int.not_lt, Int.not_le, beq_iff_eq, beq_eq_false_iff_ne, bne_iff_ne, ne_eq, Bool.not_not, Decidable.not_not] at h24
      refine J.condF rfl rfl ?_
      refine J.skip rfl ?_
      refine J.seq rfl ?_
      refine J.region rfl ?_
      refine JO.pur rfl rfl rfl (Pur.move rfl) ?_
      refine JO.pur rfl rfl rfl (Pur.assign rfl) ?_
      refine JO.pur rfl rfl rfl (Pur.assign rfl) ?_
      refine JO.nil ?_
      refine J.ret rfl rfl ?_
      have hv : ofV lay rs x = (findL (ordL (isC lay) rs) x, 0) := by
        unfold ofV; rw [if_neg (not_not_intro h16')]
        cases e : offL (isC lay) rs x with
        | none => rw [hfo, e] at h24; exact absurd h24 (by decide)
        | some n => rw [hfo, e]
      refine ⟨_, _, ⟨rfl, rfl⟩, by rw [hv]; rfl, SubC.out⟩

theorem rIndex {L : List Asn} {lay : ByteArray} {a : Option Addr} {n cap : Nat} {rs : List Rg} {i : Int} [SlIn rgE L a rs] (hn : n = rs.length) :
    CallS Try.prog 73 [.string lay, .agg #[.slice a n cap], .int .i64 i].toArray L (fun v M => ∃ a' c', v = .tuple #[.slice a' (ixV lay rs i).1.length c', .int .i64 (ixV lay rs i).2] ∧ M = rd intE a' (ixV lay rs i).1 :: L) := by
  subst hn
  refine CallS.ent ?_
  refine CallS.enter Try.func73 rfl rfl rfl rfl rfl ?_
  refine J.seq rfl ?_
  refine J.region rfl ?_
  refine JO.eff rfl rfl rfl (Eff.box (cs := [_]) rfl rfl) ?_
  rintro _ _ ⟨b4, rfl, rfl⟩
  refine JO.pur rfl rfl rfl (Pur.assign rfl) ?_
  refine JO.pur rfl rfl rfl (Pur.assign rfl) ?_
  refine JO.nil ?_
  refine J.seq rfl ?_
  refine J.seq rfl ?_
  refine J.region rfl ?_
  refine JO.pur rfl rfl rfl (Pur.move rfl) ?_
  refine JO.pur rfl rfl rfl (Pur.move rfl) ?_
  refine JO.pur rfl rfl rfl (Pur.loadA rfl rfl rfl CellsIn.blk) ?_
  refine JO.pur rfl rfl rfl (Pur.loadA rfl rfl rfl CellsIn.blk) ?_
  refine JO.effR rfl rfl rfl (Eff.call rfl (rAsked (lay := lay) (lay2 := lay) (rs := rs) (ss := rs) rfl rfl)) ?_
  rw [rAsk1]
  refine JO.pur rfl rfl rfl (Pur.assign rfl) ?_
  refine JO.nil ?_
  refine J.seq rfl ?_
  refine J.region rfl ?_
  refine JO.pur rfl rfl rfl (Pur.move rfl) ?_
  refine JO.pur rfl rfl rfl (Pur.neqI rfl rfl) ?_
  refine JO.nil ?_
  refine J.splitB 16 rfl (fun h16 => ?_) (fun h16 => ?_)
  · try simp only [decide_eq_true_eq, decide_eq_false_iff_not, Bool.not_eq_true', Bool.not_eq_false', Bool.and_eq_true, Bool.or_eq_true, Bool.and_eq_false_iff, Bool.or_eq_false_iff, Option.isNone_some, Option.isSome_some, Option.isNone_none, Option.isSome_none, Int.not_lt, Int.not_le, beq_iff_eq, beq_eq_false_iff_ne, bne_iff_ne, ne_eq, Bool.not_not, Decidable.not_not] at h16
    have h16' : ask1 lay rs ≠ 0 := h16
    refine J.condT rfl rfl ?_
    refine J.seq rfl ?_
    refine J.region rfl ?_
    refine JO.pur rfl rfl rfl (Pur.move rfl) ?_
    refine JO.pur rfl rfl rfl (Pur.assign rfl) ?_
    refine JO.pur rfl rfl rfl (Pur.assign rfl) ?_
    refine JO.nil ?_
    refine J.ret rfl rfl ?_
    have hv : ixV lay rs i = ([], ask1 lay rs) := by unfold ixV; rw [if_pos h16']
    refine ⟨_, _, ⟨none, 0, rfl, rfl⟩, by rw [hv]; rfl, fun h s => ?_⟩
    rw [hv]; exact rd_nil (SubC.out h s)
  · try simp only [decide_eq_true_eq, decide_eq_false_iff_not, Bool.not_eq_true', Bool.not_eq_false', Bool.and_eq_true, Bool.or_eq_true, Bool.and_eq_false_iff, Bool.or_eq_false_iff, Option.isNone_some, Option.isSome_some, Option.isNone_none, Option.isSome_none, Int.not_lt, Int.not_le, beq_iff_eq, beq_eq_false_iff_ne, bne_iff_ne, ne_eq, Bool.not_not, Decidable.not_not] at h16
    have h16' : ask1 lay rs = 0 := by simpa using h16
    obtain ⟨g1, g2⟩ := ask1_ok h16'
    refine J.condF rfl rfl ?_
    refine J.skip rfl ?_
    refine J.seq rfl ?_
    refine J.region rfl ?_
    refine JO.pur rfl rfl rfl (Pur.move rfl) ?_
    refine JO.pur rfl rfl rfl (Pur.loadA rfl rfl rfl CellsIn.blk) ?_
    refine JO.eff rfl rfl rfl (Eff.call rfl (rorder (rs := rs) rfl g2 g1)) ?_
    rintro _ _ ⟨a20, c20, hs, rfl, rfl⟩
    have hol := ord_len2 (isC lay) rs
    have hc4 := g2.2.2.2
    have hl3 := g2.2.1
    refine JO.fact (fun h s => RowsR.len (E := intE) (hs := hs) (xss := ordL (isC lay) rs) s) fun hn0 => ?_
    have hh0 := rows_len hn0
    refine JO.pur rfl rfl rfl (Pur.assign rfl) ?_
    refine JO.nil ?_
    refine J.seq rfl ?_
    refine J.seq rfl ?_
    refine J.region rfl ?_
    refine JO.pur rfl rfl rfl (Pur.move rfl) ?_
    refine JO.pur rfl rfl rfl (Pur.lss rfl rfl) ?_
    refine JO.pur rfl rfl rfl (Pur.move rfl) ?_
    refine JO.splitB 23 rfl (fun h23 => ?_) (fun h23 => ?_)
    · try simp only [decide_eq_true_eq, decide_eq_false_iff_not, Bool.not_eq_true', Bool.not_eq_false', Bool.and_eq_true, Bool.or_eq_true, Bool.and_eq_false_iff, Bool.or_eq_false_iff, Option.isNone_some, Option.isSome_some, Option.isNone_none, Option.isSome_none, Int.not_lt, Int.not_le, beq_iff_eq, beq_eq_false_iff_ne, bne_iff_ne, ne_eq, Bool.not_not, Decidable.not_not] at h23
      refine JO.no rfl rfl rfl ?_
      refine JO.no rfl rfl rfl ?_
      refine JO.no rfl rfl rfl ?_
      refine JO.no rfl rfl rfl ?_
      refine JO.pur rfl rfl rfl (Pur.pickT rfl rfl) ?_
      refine JO.nil ?_
      refine J.condT rfl rfl ?_
      refine J.seq rfl ?_
      refine J.region rfl ?_
      refine JO.pur rfl rfl rfl (Pur.assign rfl) ?_
      refine JO.pur rfl rfl rfl (Pur.assign rfl) ?_
      refine JO.nil ?_
      refine J.ret rfl rfl ?_
      have hv : ixV lay rs i = ([], 2) := by unfold ixV; rw [if_neg (not_not_intro h16'), if_pos (by omega)]
      refine ⟨_, _, ⟨none, 0, rfl, rfl⟩, by rw [hv]; rfl, fun h s => ?_⟩
      rw [hv]; exact rd_nil (SubC.out h s)
    · try simp only [decide_eq_true_eq, decide_eq_false_iff_not, Bool.not_eq_true', Bool.not_eq_false', Bool.and_eq_true, Bool.or_eq_true, Bool.and_eq_false_iff, Bool.or_eq_false_iff, Option.isNone_some, Option.isSome_some, Option.isNone_none, Option.isSome_none, Int.not_lt, Int.not_le, beq_iff_eq, beq_eq_false_iff_ne, bne_iff_ne, ne_eq, Bool.not_not, Decidable.not_not] at h23
      refine JO.pur rfl rfl rfl (Pur.move rfl) ?_
      refine JO.pur rfl rfl rfl (Pur.move rfl) ?_
      refine JO.pur rfl rfl rfl (Pur.len rfl) ?_
      refine JO.pur rfl rfl rfl (Pur.geq rfl rfl) ?_
      refine JO.pur rfl rfl rfl (Pur.pickF rfl rfl) ?_
      refine JO.nil ?_
      refine J.splitB 28 rfl (fun h28 => ?_) (fun h28 => ?_)
      · try simp only [decide_eq_true_eq, decide_eq_false_iff_not, Bool.not_eq_true', Bool.not_eq_false', Bool.and_eq_true, Bool.or_eq_true, Bool.and_eq_false_iff, Bool.or_eq_false_iff, Option.isNone_some, Option.isSome_some, Option.isNone_none, Option.isSome_none, Int.not_lt, Int.not_le, beq_iff_eq, beq_eq_false_iff_ne, bne_iff_ne, ne_eq, Bool.not_not, Decidable.not_not] at h28
        refine J.condT rfl rfl ?_
        refine J.seq rfl ?_
        refine J.region rfl ?_
        refine JO.pur rfl rfl rfl (Pur.assign rfl) ?_
        refine JO.pur rfl rfl rfl (Pur.assign rfl) ?_
        refine JO.nil ?_
        refine J.ret rfl rfl ?_
        have hv : ixV lay rs i = ([], 2) := by unfold ixV; rw [if_neg (not_not_intro h16'), if_pos (by omega)]
        refine ⟨_, _, ⟨none, 0, rfl, rfl⟩, by rw [hv]; rfl, fun h s => ?_⟩
        rw [hv]; exact rd_nil (SubC.out h s)
      · try simp only [decide_eq_true_eq, decide_eq_false_iff_not, Bool.not_eq_true', Bool.not_eq_false', Bool.and_eq_true, Bool.or_eq_true, Bool.and_eq_false_iff, Bool.or_eq_false_iff, Option.isNone_some, Option.isSome_some, Option.isNone_none, Option.isSome_none, Int.not_lt, Int.not_le, beq_iff_eq, beq_eq_false_iff_ne, bne_iff_ne, ne_eq, Bool.not_not, Decidable.not_not] at h28
        refine J.condF rfl rfl ?_
        refine J.skip rfl ?_
        refine J.seq rfl ?_
        obtain ⟨j, hj⟩ : ∃ j : Nat, i = (j : Int) := ⟨i.toNat, by omega⟩
        subst hj
        obtain ⟨y, hX⟩ : ∃ y, (ordL (isC lay) rs)[j]? = some y := ⟨_, List.getElem?_eq_getElem (by omega)⟩
        obtain ⟨hd, hH⟩ : ∃ hd, hs[j]? = some hd := ⟨_, List.getElem?_eq_getElem (by omega)⟩
        have hdn := hdr_n hn0 hH hX
        refine J.region rfl ?_
        refine JO.pur rfl rfl rfl (Pur.move rfl) ?_
        refine JO.pur rfl rfl rfl (Pur.move rfl) ?_
        refine JO.pur rfl rfl rfl (Pur.idx rfl rfl rfl (by first | rfl | (simp; done) | omega) rfl (by omega)) ?_
        refine JO.pur rfl rfl rfl (Pur.load rfl (CellIn.el0 rfl hH rfl)) ?_
        refine JO.pur rfl rfl rfl (Pur.assign rfl) ?_
        refine JO.pur rfl rfl rfl (Pur.assign rfl) ?_
        refine JO.nil ?_
        refine J.ret rfl rfl ?_
        have hv : ixV lay rs ((j : Nat) : Int) = (y, 0) := by unfold ixV; rw [if_neg (not_not_intro h16'), if_neg (by omega)]; show (((ordL (isC lay) rs)[j]?).getD [], (0 : Int)) = _; rw [hX]; rfl
        refine ⟨_, _, ⟨hd.a, hd.cap, rfl, rfl⟩, by rw [hv, ← hdn]; rfl, fun h s => ?_⟩
        rw [hv]
        exact rd_row hH hX (SubC.out h s)

end Go.Proofs.Ytnhippfllgnngaa

/- The text SSort. -/
/-! A list of numbers that the call owns is sorted by the library. -/
set_option linter.unusedVariables false
set_option linter.unusedSimpArgs false
namespace Go.Proofs.Ytnhippfllgnngaa
open Go Go.KK Go.Shelf
def laysR : Go.Shelf.Ren := ⟨fun | 189 => 126 | 125 => 167 | 257 => 166 | 128 => 192 | 129 => 193 | 294 => 184 | 295 => 185 | 296 => 186 | 297 => 187 | 298 => 188 | 299 => 189 | 216 => 146 | 300 => 190 | 301 => 191 | 328 => 203 | 329 => 204 | 330 => 205 | 331 => 206 | 332 => 207 | 215 => 169 | 343 => 209 | n => n, fun | 28 => 28 | 3 => 3 | 46 => 154 | 0 => 0 | 51 => 175 | 53 => 177 | 4 => 4 | 183 => 169 | 182 => 168 | 131 => 78 | 5 => 5 | 9 => 9 | 218 => 184 | 222 => 188 | 228 => 190 | 229 => 85 | n => n, fun n => n⟩
theorem lays189 : Lays.n189 Try.prog laysR where
  mixed := by kernel_rfl
  f125 := Try.func167.trans (congrArg some (by kernel_rfl))
  f128 := Try.func192.trans (congrArg some (by kernel_rfl))
  f129 := Try.func193.trans (congrArg some (by kernel_rfl))
  f189 := Try.func126.trans (congrArg some (by kernel_rfl))
  f215 := Try.func169.trans (congrArg some (by kernel_rfl))
  f216 := Try.func146.trans (congrArg some (by kernel_rfl))
  f257 := Try.func166.trans (congrArg some (by kernel_rfl))
  f294 := Try.func184.trans (congrArg some (by kernel_rfl))
  f295 := Try.func185.trans (congrArg some (by kernel_rfl))
  f296 := Try.func186.trans (congrArg some (by kernel_rfl))
  f297 := Try.func187.trans (congrArg some (by kernel_rfl))
  f298 := Try.func188.trans (congrArg some (by kernel_rfl))
  f299 := Try.func189.trans (congrArg some (by kernel_rfl))
  f300 := Try.func190.trans (congrArg some (by kernel_rfl))
  f301 := Try.func191.trans (congrArg some (by kernel_rfl))
  f328 := Try.func203.trans (congrArg some (by kernel_rfl))
  f329 := Try.func204.trans (congrArg some (by kernel_rfl))
  f330 := Try.func205.trans (congrArg some (by kernel_rfl))
  f331 := Try.func206.trans (congrArg some (by kernel_rfl))
  f332 := Try.func207.trans (congrArg some (by kernel_rfl))
  f343 := Try.func209.trans (congrArg some (by kernel_rfl))
  t0 := Try.underlying0
  a0 := Try.isAgg0
  z0 := Try.sizeOf0
  v0 := Try.zeroValue0
  t3 := Try.underlying3
  a3 := Try.isAgg3
  z3 := Try.sizeOf3
  v3 := Try.zeroValue3
  t4 := Try.underlying4
  a4 := Try.isAgg4
  z4 := Try.sizeOf4
  v4 := Try.zeroValue4
  t5 := Try.underlying5
  a5 := Try.isAgg5
  z5 := Try.sizeOf5
  v5 := Try.zeroValue5
  t9 := Try.underlying9
  a9 := Try.isAgg9
  z9 := Try.sizeOf9
  v9 := Try.zeroValue9
  t28 := Try.underlying28
  a28 := Try.isAgg28
  z28 := Try.sizeOf28
  v28 := Try.zeroValue28
  t46 := Try.underlying154
  a46 := Try.isAgg154
  z46 := Try.sizeOf154
  v46 := Try.zeroValue154
  t51 := Try.underlying175
  a51 := Try.isAgg175
  z51 := Try.sizeOf175
  v51 := Try.zeroValue175
  t53 := Try.underlying177
  a53 := Try.isAgg177
  z53 := Try.sizeOf177
  v53 := Try.zeroValue177
  t131 := Try.underlying78
  a131 := Try.isAgg78
  z131 := Try.sizeOf78
  v131 := Try.zeroValue78
  t182 := Try.underlying168
  a182 := Try.isAgg168
  z182 := Try.sizeOf168
  v182 := Try.zeroValue168
  t183 := Try.underlying169
  a183 := Try.isAgg169
  z183 := Try.sizeOf169
  v183 := Try.zeroValue169
  t218 := Try.underlying184
  a218 := Try.isAgg184
  z218 := Try.sizeOf184
  v218 := Try.zeroValue184
  t222 := Try.underlying188
  a222 := Try.isAgg188
  z222 := Try.sizeOf188
  v222 := Try.zeroValue188
  t228 := Try.underlying190
  a228 := Try.isAgg190
  z228 := Try.sizeOf190
  v228 := Try.zeroValue190
  t229 := Try.underlying85
  a229 := Try.isAgg85
  z229 := Try.sizeOf85
  v229 := Try.zeroValue85
def srt (xs : List Int) : List Int := xs.mergeSort fun x y => decide (x ≤ y)
theorem srt_len (xs : List Int) : (srt xs).length = xs.length := by simp [srt]
theorem intE_all (xs : List Int) : intE.all xs = xs.map (Value.int .i64) := by
  induction xs with
  | nil => rfl
  | cons x xs ih => rw [show intE.all (x :: xs) = Value.int .i64 x :: intE.all xs by simp [Enc.all, intE], ih]; rfl
theorem putCells_all {xs ts : List Int} {spare : List Value} (hl : ts.length = xs.length) : Go.Sort.putCells (Value.int .i64) 0 ts.toArray (intE.all xs ++ spare).toArray = (intE.all ts ++ spare).toArray := by
  rw [intE_all, intE_all]
  apply Array.ext
  · simp [Go.Sort.putCells, hl]
  · intro j h1 h2
    have hj : j < xs.length + spare.length := by simpa [Go.Sort.putCells] using h1
    simp only [Go.Sort.putCells, Array.getElem_mapIdx]
    by_cases hk : j < ts.length
    · rw [if_pos (by simp; omega)]
      simp [List.getElem_append, hk]
    · rw [if_neg (by simp; omega)]
      simp [List.getElem_append, hk, show ¬ j < xs.length by omega, hl]
theorem Sort_ok {L : List Asn} {a : Option Addr} {cap : Nat} {xs : List Int} (hx : xs.length < 4611686018427387904) : CallS Try.prog 126 [.slice a xs.length cap].toArray (sl intE a cap xs :: L) (fun v M => v = .tuple #[] ∧ M = sl intE a cap (srt xs) :: L) := fun w hs => by
  obtain ⟨h1, l1, a1⟩ := hs.head
  rcases sl_iff.1 a1 with ⟨rfl, rfl, rfl⟩ | ⟨b, spare, rfl, q1, q2, q3, hb⟩
  · refine (Any.slices_Sort_int_none lays189 none 0 w).mono ?_
    rintro e w' ⟨rfl, rfl⟩
    exact ⟨_, _, ⟨rfl, rfl⟩, rfl, by simpa [srt] using hs, rfl⟩
  · have hb0 : w.heap[b]? = some (.cells (intE.all xs ++ spare).toArray intE.T (0, 0)) := l1 _ _ hb
    have hbl : b < w.heap.size := (Array.getElem?_eq_some_iff.1 hb0).1
    have hH : Go.Sort.Holds (Value.int .i64) w b 0 xs.toArray := by
      refine holds_of_blockI hb0 ?_
      rw [intE_all]; simp
    refine (Any.slices_Sort_int lays189 b 0 cap xs w hH hbl hx).mono ?_
    rintro e w' ⟨rfl, n, os, rfl⟩
    have hg := grownBy_sortedI (w := w) (g := b) (n := n) (os := os) (srt xs).toArray
    have hn := heap_sortedI (n := n) (os := os) (srt xs).toArray hb0
    rw [putCells_all (srt_len xs)] at hn
    refine ⟨_, _, ⟨rfl, rfl⟩, rfl, ?_, ?_⟩
    · refine Sat.frame hs fun k1 ha hk => ?_
      rcases sl_iff.1 ha with ⟨e1, _⟩ | ⟨b', spare', e1, q1', q2', q3', hb'⟩
      · cases e1
      · cases e1
        refine ⟨fun x => if x = b then some (.cells (intE.all (srt xs) ++ spare).toArray intE.T (0, 0)) else none, sl_iff.2 (.inr ⟨b, spare, rfl, by rw [srt_len]; exact q1, q2, by rw [srt_len]; exact q3, by simp⟩), fun x o hxo => ?_, fun x hx => ?_, fun x o hx1 hx2 => ?_⟩
        · dsimp only at hxo
          by_cases hxb : x = b
          · subst hxb; rw [if_pos rfl] at hxo; rw [← hxo]; exact hn
          · rw [if_neg hxb] at hxo; cases hxo
        · by_cases hxb : x = b
          · subst hxb; left; rw [hb']; simp
          · exact absurd (if_neg hxb) hx
        · have hxb : ¬ x = b := fun e => by rw [e, hb'] at hx2; cases hx2
          have hxs : x < w.heap.size := (Array.getElem?_eq_some_iff.1 hx1).1
          exact (hg.block x hxs (fun e => hxb (Option.some.inj e))).trans hx1
    · rfl
theorem srt_eq {ks ns : List Int} (hp : ks.Perm ns) (ho : ns.Pairwise (· < ·)) : srt ks = ns := by
  have h1 : (srt ks).Perm ns := (List.mergeSort_perm ks _).trans hp
  have h2 : (srt ks).Pairwise (fun x y => decide (x ≤ y) = true) := List.pairwise_mergeSort (le := fun (x y : Int) => decide (x ≤ y)) (fun a b c h1 h2 => decide_eq_true (Int.le_trans (of_decide_eq_true h1) (of_decide_eq_true h2))) (fun a b => by rcases Int.le_total a b with h | h <;> simp [h]) ks
  exact h1.eq_of_pairwise (le := fun x y => decide (x ≤ y) = true) (fun a b _ _ h1 h2 => Int.le_antisymm (of_decide_eq_true h1) (of_decide_eq_true h2)) h2 (ho.imp fun h => decide_eq_true (Int.le_of_lt h))
end Go.Proofs.Ytnhippfllgnngaa
