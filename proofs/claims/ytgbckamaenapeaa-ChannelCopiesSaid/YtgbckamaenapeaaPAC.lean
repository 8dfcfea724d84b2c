/-
  A part of the proof of the claim that this folder bears.
-/
import Derived.Test.YtgbckamaenapeaaPAB
/- The text HFn3. -/
set_option linter.unusedVariables false
set_option linter.unusedSimpArgs false
set_option maxRecDepth 10000
namespace Go.Proofs.Ytgbckamaenapeaa
open Go Go.KK Hf

theorem Write_no {L : List Asn} {p : Nat} {F : Fl} {n : Int} {b : Option Addr} {m cq : Nat} {ys : List UInt8} [SlIn byE L b ys] (hm : m = ys.length) (hys : ys.length ≤ 9223372036854775807) (hnil : b = none → m = 0 ∧ cq = 0) (hx : ix F n = none) :
    CallS Try.prog 19 [.pointer (some ⟨p, 0, none⟩), .int .i64 n, .slice b m cq].toArray (FA p F :: L) (fun v M => v = .int .i64 (writeF F n ys).2 ∧ M = FA p (writeF F n ys).1 :: L) := by
  subst hm
  refine CallS.ent ?_
  refine CallS.enter Try.func19 rfl rfl rfl rfl rfl ?_
  refine J.seq rfl ?_
  refine FA_open fun ab cb mb rs hr => ?_
  refine J.region rfl ?_
  refine JO.pur rfl rfl rfl (Pur.assign rfl) ?_
  refine JO.nil ?_
  refine J.seq rfl ?_
  refine J.region rfl ?_
  refine JO.pur rfl rfl rfl (Pur.move rfl) ?_
  refine JO.pur rfl rfl rfl (Pur.move rfl) ?_
  refine JO.eff rfl rfl rfl (Eff.call rfl (find_no hr hx)) ?_
  rintro _ _ ⟨rfl, rfl⟩
  refine JO.pur rfl rfl rfl (Pur.move rfl) ?_
  refine JO.pur rfl rfl rfl (Pur.extract rfl rfl) ?_
  refine JO.pur rfl rfl rfl (Pur.extract rfl rfl) ?_
  refine JO.pur rfl rfl rfl (Pur.assign rfl) ?_
  refine JO.pur rfl rfl rfl (Pur.assign rfl) ?_
  refine JO.nil ?_
  refine J.seq rfl ?_
  refine J.block rfl ?_
  refine J.seq rfl ?_
  refine J.region rfl ?_
  refine JO.pur rfl rfl rfl (Pur.move rfl) ?_
  refine JO.pur rfl rfl rfl (Pur.neqI rfl rfl) ?_
  refine JO.setv (u' := .bool true) 17 rfl (congrArg Value.bool (rfl)) ?_
  refine JO.pur rfl rfl rfl (Pur.assign rfl) ?_
  refine JO.nil ?_
  refine J.condT rfl rfl ?_
  refine J.seq rfl ?_
  refine J.region rfl ?_
  refine JO.pur rfl rfl rfl (Pur.move rfl) ?_
  refine JO.pur rfl rfl rfl (Pur.assign rfl) ?_
  refine JO.nil ?_
  refine J.ret rfl rfl ?_
  have hv : writeF F n ys = (F, 5) := by unfold writeF; rw [hx]
  refine ⟨_, _, ⟨rfl, rfl⟩, by rw [hv]; rfl, fun h s => ?_⟩
  rw [hv]
  exact FA_mk (ab := ab) (cb := cb) (mb := mb) hr (SubC.out h s)

theorem Write_yes {L : List Asn} {p : Nat} {F : Fl} {n : Int} {b : Option Addr} {m cq : Nat} {ys : List UInt8} [SlIn byE L b ys] (hm : m = ys.length) (hys : ys.length ≤ 9223372036854775807) (hnil : b = none → m = 0 ∧ cq = 0) {i : Nat} {k : Nat} (g : Hf.Good F k) (hk : k ≤ 100000) (hx : ix F n = some i) :
    CallS Try.prog 19 [.pointer (some ⟨p, 0, none⟩), .int .i64 n, .slice b m cq].toArray (FA p F :: L) (fun v M => v = .int .i64 (writeF F n ys).2 ∧ M = FA p (writeF F n ys).1 :: L) := by
  subst hm
  refine CallS.ent ?_
  refine CallS.enter Try.func19 rfl rfl rfl rfl rfl ?_
  refine J.seq rfl ?_
  refine FA_open fun ab cb mb rs hr => ?_
  obtain ⟨hil, hch, hnum⟩ := ix_some hx
  obtain ⟨r, hrg⟩ : ∃ r, rs[i]? = some r := ⟨_, List.getElem?_eq_getElem (by omega)⟩
  have gc := g.gc _ (ch_mem hx)
  have gmk := g.mks _ (ch_mem hx)
  have gb := g.b4
  have gf0 := gc.f0
  have gft := gc.ft
  have gt4 := gc.t4
  have gfa := gc.fa
  have ga4 := gc.at4
  refine J.region rfl ?_
  refine JO.pur rfl rfl rfl (Pur.assign rfl) ?_
  refine JO.nil ?_
  refine J.seq rfl ?_
  refine J.region rfl ?_
  refine JO.pur rfl rfl rfl (Pur.move rfl) ?_
  refine JO.pur rfl rfl rfl (Pur.move rfl) ?_
  refine JO.eff rfl rfl rfl (Eff.call rfl (find_yes hr hx hrg)) ?_
  rintro _ _ ⟨rfl, rfl⟩
  refine JO.pur rfl rfl rfl (Pur.move rfl) ?_
  refine JO.pur rfl rfl rfl (Pur.extract rfl rfl) ?_
  refine JO.pur rfl rfl rfl (Pur.extract rfl rfl) ?_
  refine JO.pur rfl rfl rfl (Pur.assign rfl) ?_
  refine JO.pur rfl rfl rfl (Pur.assign rfl) ?_
  refine JO.nil ?_
  refine J.seq rfl ?_
  refine J.block rfl ?_
  refine J.seq rfl ?_
  refine J.region rfl ?_
  refine JO.pur rfl rfl rfl (Pur.move rfl) ?_
  refine JO.pur rfl rfl rfl (Pur.neqI rfl rfl) ?_
  refine JO.setv (u' := .bool false) 17 rfl (congrArg Value.bool (rfl)) ?_
  refine JO.pur rfl rfl rfl (Pur.assign rfl) ?_
  refine JO.nil ?_
  refine J.condF rfl rfl ?_
  refine J.seq rfl ?_
  refine J.imp (fun h s => ch_take (rs := rs) (cs := F.opens) (i := i) hrg hch s) ?_
  refine J.quiet rfl Try.mixed (by kernel_rfl) ?_
  refine JQ.pur rfl rfl rfl (Pur.move rfl) ?_
  refine JQ.pur rfl rfl rfl (Pur.nilCheck rfl) ?_
  refine JQ.pur rfl rfl rfl (Pur.fieldAddr rfl) ?_
  refine JQ.pur rfl rfl rfl (Pur.load rfl (CellIn.blk rfl)) ?_
  refine JQ.pur rfl rfl rfl (Pur.not rfl) ?_
  refine JQ.pur rfl rfl rfl (Pur.move rfl) ?_
  refine JQ.splitB 25 rfl (fun h25 => ?_) (fun h25 => ?_)
  · try simp only [decide_eq_true_eq, decide_eq_false_iff_not, Bool.not_eq_true', Bool.not_eq_false', Bool.and_eq_true, Bool.or_eq_true, Bool.and_eq_false_iff, Bool.or_eq_false_iff, Option.isNone_some, Option.isSome_some, Option.isNone_none, Option.isSome_none, Int.not_lt, Int.not_le, beq_iff_eq, beq_eq_false_iff_ne, bne_iff_ne, ne_eq, Bool.not_not, Decidable.not_not] at h25
    have hw : (ch F i).wr = false := by simpa using h25
    refine JQ.no rfl rfl rfl ?_
    refine JQ.no rfl rfl rfl ?_
    refine JQ.no rfl rfl rfl ?_
    refine JQ.no rfl rfl rfl ?_
    refine JQ.no rfl rfl rfl ?_
    refine JQ.no rfl rfl rfl ?_
    refine JQ.no rfl rfl rfl ?_
    refine JQ.no rfl rfl rfl ?_
    refine JQ.no rfl rfl rfl ?_
    refine JQ.no rfl rfl rfl ?_
    refine JQ.no rfl rfl rfl ?_
    refine JQ.no rfl rfl rfl ?_
    refine JQ.pur rfl rfl rfl (Pur.pickT rfl rfl) ?_
    refine JQ.pur rfl rfl rfl (Pur.assign rfl) ?_
    refine JQ.nil ?_
    refine J.condT rfl rfl ?_
    refine J.seq rfl ?_
    refine J.region rfl ?_
    refine JO.pur rfl rfl rfl (Pur.assign rfl) ?_
    refine JO.nil ?_
    refine J.ret rfl rfl ?_
    have hv : writeF F n ys = (F, 230) := by unfold writeF; rw [hx]; dsimp only; rw [if_pos (.inl hw)]
    refine ⟨_, _, ⟨rfl, rfl⟩, by rw [hv]; rfl, fun h s => ?_⟩
    rw [hv]
    have s2 := FA_shut (L := L) (p := p) (bs := F.bytes) (nx := F.next) (F := F) (c' := ch F i) (ab := ab) (cb := cb) (mb := mb) (ap := r.ap) (cp := r.cp) (am := r.am) (cm := r.cm) hr hrg hch rfl (SubC.out h s)
    rw [upd_same hx] at s2
    exact s2
  · try simp only [decide_eq_true_eq, decide_eq_false_iff_not, Bool.not_eq_true', Bool.not_eq_false', Bool.and_eq_true, Bool.or_eq_true, Bool.and_eq_false_iff, Bool.or_eq_false_iff, Option.isNone_some, Option.isSome_some, Option.isNone_none, Option.isSome_none, Int.not_lt, Int.not_le, beq_iff_eq, beq_eq_false_iff_ne, bne_iff_ne, ne_eq, Bool.not_not, Decidable.not_not] at h25
    have hw : (ch F i).wr = true := by simpa using h25
    have hw1 := gc.w1 hw
    refine JQ.pur rfl rfl rfl (Pur.move rfl) ?_
    refine JQ.pur rfl rfl rfl (Pur.len rfl) ?_
    refine JQ.pur rfl rfl rfl (Pur.move rfl) ?_
    refine JQ.pur rfl rfl rfl (Pur.nilCheck rfl) ?_
    refine JQ.pur rfl rfl rfl (Pur.fieldAddr rfl) ?_
    refine JQ.pur rfl rfl rfl (Pur.load rfl (CellIn.blk rfl)) ?_
    refine JQ.pur rfl rfl rfl (Pur.move rfl) ?_
    refine JQ.pur rfl rfl rfl (Pur.nilCheck rfl) ?_
    refine JQ.pur rfl rfl rfl (Pur.fieldAddr rfl) ?_
    refine JQ.pur rfl rfl rfl (Pur.load rfl (CellIn.blk rfl)) ?_
    refine JQ.pur rfl rfl rfl (Pur.sub rfl rfl (wr64 (by omega))) ?_
    refine JQ.pur rfl rfl rfl (Pur.gtr rfl rfl) ?_
    refine JQ.pur rfl rfl rfl (Pur.pickF rfl rfl) ?_
    refine JQ.pur rfl rfl rfl (Pur.assign rfl) ?_
    refine JQ.nil ?_
    refine J.splitB 19 rfl (fun h19 => ?_) (fun h19 => ?_)
    · try simp only [decide_eq_true_eq, decide_eq_false_iff_not, Bool.not_eq_true', Bool.not_eq_false', Bool.and_eq_true, Bool.or_eq_true, Bool.and_eq_false_iff, Bool.or_eq_false_iff, Option.isNone_some, Option.isSome_some, Option.isNone_none, Option.isSome_none, Int.not_lt, Int.not_le, beq_iff_eq, beq_eq_false_iff_ne, bne_iff_ne, ne_eq, Bool.not_not, Decidable.not_not] at h19
      refine J.condT rfl rfl ?_
      refine J.seq rfl ?_
      refine J.region rfl ?_
      refine JO.pur rfl rfl rfl (Pur.assign rfl) ?_
      refine JO.nil ?_
      refine J.ret rfl rfl ?_
      have hv : writeF F n ys = (F, 230) := by unfold writeF; rw [hx]; dsimp only; rw [if_pos (.inr (by omega))]
      refine ⟨_, _, ⟨rfl, rfl⟩, by rw [hv]; rfl, fun h s => ?_⟩
      rw [hv]
      have s2 := FA_shut (L := L) (p := p) (bs := F.bytes) (nx := F.next) (F := F) (c' := ch F i) (ab := ab) (cb := cb) (mb := mb) (ap := r.ap) (cp := r.cp) (am := r.am) (cm := r.cm) hr hrg hch rfl (SubC.out h s)
      rw [upd_same hx] at s2
      exact s2
    · try simp only [decide_eq_true_eq, decide_eq_false_iff_not, Bool.not_eq_true', Bool.not_eq_false', Bool.and_eq_true, Bool.or_eq_true, Bool.and_eq_false_iff, Bool.or_eq_false_iff, Option.isNone_some, Option.isSome_some, Option.isNone_none, Option.isSome_none, Int.not_lt, Int.not_le, beq_iff_eq, beq_eq_false_iff_ne, bne_iff_ne, ne_eq, Bool.not_not, Decidable.not_not] at h19
      refine J.condF rfl rfl ?_
      refine J.skip rfl ?_
      refine J.inBlock ?_
      refine J.seq rfl ?_
      refine J.region rfl ?_
      refine JO.pur rfl rfl rfl (Pur.move rfl) ?_
      refine JO.pur rfl rfl rfl (Pur.move rfl) ?_
      refine JO.pur rfl rfl rfl (Pur.nilCheck rfl) ?_
      refine JO.pur rfl rfl rfl (Pur.fieldAddr rfl) ?_
      refine JO.pur rfl rfl rfl (Pur.load rfl (CellIn.blk rfl)) ?_
      refine JO.pur rfl rfl rfl (Pur.move rfl) ?_
      refine JO.eff rfl rfl rfl (Eff.append rfl rfl rfl rfl (by first | rfl | omega | (simp; done) | (simp; omega)) (by first | rfl | omega | (simp; done) | (simp; omega)) (by decide) (by omega) (by omega) (fun e => hnil e)) ?_
      rintro _ _ ⟨a45, c45, rfl, rfl⟩
      refine JO.pur rfl rfl rfl (Pur.nilCheck rfl) ?_
      refine JO.pur rfl rfl rfl (Pur.fieldAddr rfl) ?_
      refine JO.effN rfl rfl (Eff.storeB rfl rfl rfl (.tail (.tail (.tail (.tail .head))))) ?_
      rintro _ _ ⟨rfl, rfl⟩
      refine JO.nil ?_
      refine J.seq rfl ?_
      refine J.region rfl ?_
      refine JO.pur rfl rfl rfl (Pur.move rfl) ?_
      refine JO.pur rfl rfl rfl (Pur.nilCheck rfl) ?_
      refine JO.pur rfl rfl rfl (Pur.fieldAddr rfl) ?_
      refine JO.pur rfl rfl rfl (Pur.load rfl (CellIn.blk rfl)) ?_
      refine JO.pur rfl rfl rfl (Pur.move rfl) ?_
      refine JO.pur rfl rfl rfl (Pur.len rfl) ?_
      refine JO.pur rfl rfl rfl (Pur.add rfl rfl (wr64 (by omega))) ?_
      refine JO.pur rfl rfl rfl (Pur.nilCheck rfl) ?_
      refine JO.pur rfl rfl rfl (Pur.fieldAddr rfl) ?_
      refine JO.effN rfl rfl (Eff.storeB rfl rfl rfl (.tail (.tail .head))) ?_
      rintro _ _ ⟨rfl, rfl⟩
      refine JO.nil ?_
      refine J.seq rfl ?_
      refine J.region rfl ?_
      refine JO.pur rfl rfl rfl (Pur.assign rfl) ?_
      refine JO.nil ?_
      refine J.ret rfl rfl ?_
      have hv : writeF F n ys = (upd F i { ch F i with pend := (ch F i).pend ++ ys, at' := (ch F i).at' + ys.length }, 0) := by unfold writeF; rw [hx]; dsimp only; rw [if_neg (by rintro (h | h); rw [hw] at h; cases h; omega)]
      refine ⟨_, _, ⟨rfl, rfl⟩, by rw [hv]; rfl, fun h s => ?_⟩
      rw [hv]
      refine FA_shut (L := L) (p := p) (bs := F.bytes) (nx := F.next) (F := F) (c' := { ch F i with pend := (ch F i).pend ++ ys, at' := (ch F i).at' + ys.length }) (ab := ab) (cb := cb) (mb := mb) (ap := a45) (cp := c45) (am := r.am) (cm := r.cm) hr hrg hch rfl ?_
      dsimp only
      simp only [List.length_append]
      exact SubC.out h s

theorem Write_ok {L : List Asn} {p : Nat} {F : Fl} {n : Int} {b : Option Addr} {m cq : Nat} {ys : List UInt8} [SlIn byE L b ys] (hm : m = ys.length) (hys : ys.length ≤ 9223372036854775807) (hnil : b = none → m = 0 ∧ cq = 0) {k : Nat} (g : Hf.Good F k) (hk : k ≤ 100000) : CallS Try.prog 19 [.pointer (some ⟨p, 0, none⟩), .int .i64 n, .slice b m cq].toArray (FA p F :: L) (fun v M => v = .int .i64 (writeF F n ys).2 ∧ M = FA p (writeF F n ys).1 :: L) := by
  cases hx : ix F n with
  | none => exact Write_no hm hys hnil hx
  | some i => exact Write_yes hm hys hnil g hk hx
end Go.Proofs.Ytgbckamaenapeaa

/- The text HRead. -/
set_option linter.unusedVariables false
set_option linter.unusedSimpArgs false
set_option maxRecDepth 10000
namespace Go.Proofs.Ytgbckamaenapeaa
open Go Go.KK Hf

theorem upd_eq {F : Fl} {n : Int} {i : Nat} (h : ix F n = some i) : upd F i (ch F i) = F := by unfold upd; rw [upd_same h]
theorem tail_none {a : Option Addr} {cap j m : Nat} (h : tailA a cap j m = none) : a = none := by
  unfold tailA at h
  split at h
  · exact h
  · cases a with
    | none => rfl
    | some x => cases h
theorem Read_no {L : List Asn} {p : Nat} {F : Fl} {n : Int} {q : Int} (hx : ix F n = none) :
    CallS Try.prog 23 [.pointer (some ⟨p, 0, none⟩), .int .i64 n, .int .i64 q].toArray (FA p F :: L) (fun v M => ∃ a' c', v = .tuple #[.slice a' (readF F n q).2.1.length c', .int .i64 (readF F n q).2.2] ∧ M = sl byE a' c' (readF F n q).2.1 :: FA p (readF F n q).1 :: L) := by
  refine CallS.ent ?_
  refine CallS.enter Try.func23 rfl rfl rfl rfl rfl ?_
  refine J.seq rfl ?_
  refine FA_open fun ab cb mb rs hr => ?_
  refine J.region rfl ?_
  refine JO.pur rfl rfl rfl (Pur.assign rfl) ?_
  refine JO.pur rfl rfl rfl (Pur.assign rfl) ?_
  refine JO.nil ?_
  refine J.seq rfl ?_
  refine J.region rfl ?_
  refine JO.pur rfl rfl rfl (Pur.move rfl) ?_
  refine JO.pur rfl rfl rfl (Pur.move rfl) ?_
  refine JO.eff rfl rfl rfl (Eff.call rfl (find_no hr hx)) ?_
  rintro _ _ ⟨rfl, rfl⟩
  refine JO.pur rfl rfl rfl (Pur.move rfl) ?_
  refine JO.pur rfl rfl rfl (Pur.extract rfl rfl) ?_
  refine JO.pur rfl rfl rfl (Pur.extract rfl rfl) ?_
  refine JO.pur rfl rfl rfl (Pur.assign rfl) ?_
  refine JO.pur rfl rfl rfl (Pur.assign rfl) ?_
  refine JO.nil ?_
  refine J.seq rfl ?_
  refine J.block rfl ?_
  refine J.seq rfl ?_
  refine J.region rfl ?_
  refine JO.pur rfl rfl rfl (Pur.move rfl) ?_
  refine JO.pur rfl rfl rfl (Pur.neqI rfl rfl) ?_
  refine JO.setv (u' := .bool true) 20 rfl (congrArg Value.bool (rfl)) ?_
  refine JO.pur rfl rfl rfl (Pur.assign rfl) ?_
  refine JO.nil ?_
  refine J.condT rfl rfl ?_
  refine J.seq rfl ?_
  refine J.region rfl ?_
  refine JO.pur rfl rfl rfl (Pur.move rfl) ?_
  refine JO.pur rfl rfl rfl (Pur.assign rfl) ?_
  refine JO.pur rfl rfl rfl (Pur.assign rfl) ?_
  refine JO.nil ?_
  refine J.ret rfl rfl ?_
  have hv : readF F n q = (F, [], 5) := by unfold readF; rw [hx]
  refine ⟨_, _, ⟨none, 0, by rw [hv]; rfl, rfl⟩, rfl, fun h s => ?_⟩
  rw [hv]
  refine sl_nil_new ?_
  exact FA_mk (ab := ab) (cb := cb) (mb := mb) hr (SubC.out h s)

theorem Read_yes {L : List Asn} {p : Nat} {F : Fl} {n : Int} {q : Int} {i : Nat} {k : Nat} (g : Hf.Good F k) (hk : k ≤ 100000) (hx : ix F n = some i) :
    CallS Try.prog 23 [.pointer (some ⟨p, 0, none⟩), .int .i64 n, .int .i64 q].toArray (FA p F :: L) (fun v M => ∃ a' c', v = .tuple #[.slice a' (readF F n q).2.1.length c', .int .i64 (readF F n q).2.2] ∧ M = sl byE a' c' (readF F n q).2.1 :: FA p (readF F n q).1 :: L) := by
  refine CallS.ent ?_
  refine CallS.enter Try.func23 rfl rfl rfl rfl rfl ?_
  refine J.seq rfl ?_
  refine FA_open fun ab cb mb rs hr => ?_
  obtain ⟨hil, hch, hnum⟩ := ix_some hx
  obtain ⟨r, hrg⟩ : ∃ r, rs[i]? = some r := ⟨_, List.getElem?_eq_getElem (by omega)⟩
  have gc := g.gc _ (ch_mem hx)
  have gmk := g.mks _ (ch_mem hx)
  have gb := g.b4
  have gf0 := gc.f0
  have gft := gc.ft
  have gt4 := gc.t4
  have gfa := gc.fa
  have ga4 := gc.at4
  refine J.region rfl ?_
  refine JO.pur rfl rfl rfl (Pur.assign rfl) ?_
  refine JO.pur rfl rfl rfl (Pur.assign rfl) ?_
  refine JO.nil ?_
  refine J.seq rfl ?_
  refine J.region rfl ?_
  refine JO.pur rfl rfl rfl (Pur.move rfl) ?_
  refine JO.pur rfl rfl rfl (Pur.move rfl) ?_
  refine JO.eff rfl rfl rfl (Eff.call rfl (find_yes hr hx hrg)) ?_
  rintro _ _ ⟨rfl, rfl⟩
  refine JO.pur rfl rfl rfl (Pur.move rfl) ?_
  refine JO.pur rfl rfl rfl (Pur.extract rfl rfl) ?_
  refine JO.pur rfl rfl rfl (Pur.extract rfl rfl) ?_
  refine JO.pur rfl rfl rfl (Pur.assign rfl) ?_
  refine JO.pur rfl rfl rfl (Pur.assign rfl) ?_
  refine JO.nil ?_
  refine J.seq rfl ?_
  refine J.block rfl ?_
  refine J.seq rfl ?_
  refine J.region rfl ?_
  refine JO.pur rfl rfl rfl (Pur.move rfl) ?_
  refine JO.pur rfl rfl rfl (Pur.neqI rfl rfl) ?_
  refine JO.setv (u' := .bool false) 20 rfl (congrArg Value.bool (rfl)) ?_
  refine JO.pur rfl rfl rfl (Pur.assign rfl) ?_
  refine JO.nil ?_
  refine J.condF rfl rfl ?_
  refine J.seq rfl ?_
  refine J.imp (fun h s => ch_take (rs := rs) (cs := F.opens) (i := i) hrg hch s) ?_
  refine J.region rfl ?_
  refine JO.pur rfl rfl rfl (Pur.move rfl) ?_
  refine JO.pur rfl rfl rfl (Pur.lss rfl rfl) ?_
  refine JO.pur rfl rfl rfl (Pur.assign rfl) ?_
  refine JO.nil ?_
  refine J.splitB 22 rfl (fun h22 => ?_) (fun h22 => ?_)
  · try simp only [decide_eq_true_eq, decide_eq_false_iff_not, Bool.not_eq_true', Bool.not_eq_false', Bool.and_eq_true, Bool.or_eq_true, Bool.and_eq_false_iff, Bool.or_eq_false_iff, Option.isNone_some, Option.isSome_some, Option.isNone_none, Option.isSome_none, Int.not_lt, Int.not_le, beq_iff_eq, beq_eq_false_iff_ne, bne_iff_ne, ne_eq, Bool.not_not, Decidable.not_not] at h22
    have hq : q < 0 := h22
    refine J.condT rfl rfl ?_
    refine J.seq rfl ?_
    refine J.region rfl ?_
    refine JO.pur rfl rfl rfl (Pur.assign rfl) ?_
    refine JO.pur rfl rfl rfl (Pur.assign rfl) ?_
    refine JO.nil ?_
    refine J.ret rfl rfl ?_
    have hv : readF F n q = (F, [], 2) := by unfold readF; rw [hx]; dsimp only; rw [if_pos hq]
    refine ⟨_, _, ⟨none, 0, by rw [hv]; rfl, rfl⟩, rfl, fun h s => ?_⟩
    rw [hv]
    refine sl_nil_new ?_
    have s2 := FA_shut (L := L) (p := p) (bs := F.bytes) (nx := F.next) (F := F) (c' := ch F i) (ab := ab) (cb := cb) (mb := mb) (ap := r.ap) (cp := r.cp) (am := r.am) (cm := r.cm) hr hrg hch rfl (SubC.out h s)
    rw [upd_same hx] at s2
    exact s2
  · try simp only [decide_eq_true_eq, decide_eq_false_iff_not, Bool.not_eq_true', Bool.not_eq_false', Bool.and_eq_true, Bool.or_eq_true, Bool.and_eq_false_iff, Bool.or_eq_false_iff, Option.isNone_some, Option.isSome_some, Option.isNone_none, Option.isSome_none, Int.not_lt, Int.not_le, beq_iff_eq, beq_eq_false_iff_ne, bne_iff_ne, ne_eq, Bool.not_not, Decidable.not_not] at h22
    have hq : ¬ q < 0 := by omega
    refine J.condF rfl rfl ?_
    refine J.seq rfl ?_
    refine J.region rfl ?_
    refine JO.pur rfl rfl rfl (Pur.move rfl) ?_
    refine JO.pur rfl rfl rfl (Pur.nilCheck rfl) ?_
    refine JO.pur rfl rfl rfl (Pur.fieldAddr rfl) ?_
    refine JO.pur rfl rfl rfl (Pur.load rfl (CellIn.blk rfl)) ?_
    refine JO.pur rfl rfl rfl (Pur.assign rfl) ?_
    refine JO.nil ?_
    refine J.splitB 25 rfl (fun h25 => ?_) (fun h25 => ?_)
    · try simp only [decide_eq_true_eq, decide_eq_false_iff_not, Bool.not_eq_true', Bool.not_eq_false', Bool.and_eq_true, Bool.or_eq_true, Bool.and_eq_false_iff, Bool.or_eq_false_iff, Option.isNone_some, Option.isSome_some, Option.isNone_none, Option.isSome_none, Int.not_lt, Int.not_le, beq_iff_eq, beq_eq_false_iff_ne, bne_iff_ne, ne_eq, Bool.not_not, Decidable.not_not] at h25
      have hw : (ch F i).wr = true := h25
      refine J.condT rfl rfl ?_
      refine J.seq rfl ?_
      refine J.region rfl ?_
      refine JO.pur rfl rfl rfl (Pur.assign rfl) ?_
      refine JO.pur rfl rfl rfl (Pur.assign rfl) ?_
      refine JO.nil ?_
      refine J.ret rfl rfl ?_
      have hv : readF F n q = (F, [], 230) := by unfold readF; rw [hx]; dsimp only; rw [if_neg hq, if_pos hw]
      refine ⟨_, _, ⟨none, 0, by rw [hv]; rfl, rfl⟩, rfl, fun h s => ?_⟩
      rw [hv]
      refine sl_nil_new ?_
      have s2 := FA_shut (L := L) (p := p) (bs := F.bytes) (nx := F.next) (F := F) (c' := ch F i) (ab := ab) (cb := cb) (mb := mb) (ap := r.ap) (cp := r.cp) (am := r.am) (cm := r.cm) hr hrg hch rfl (SubC.out h s)
      rw [upd_same hx] at s2
      exact s2
    · try simp only [decide_eq_true_eq, decide_eq_false_iff_not, Bool.not_eq_true', Bool.not_eq_false', Bool.and_eq_true, Bool.or_eq_true, Bool.and_eq_false_iff, Bool.or_eq_false_iff, Option.isNone_some, Option.isSome_some, Option.isNone_none, Option.isSome_none, Int.not_lt, Int.not_le, beq_iff_eq, beq_eq_false_iff_ne, bne_iff_ne, ne_eq, Bool.not_not, Decidable.not_not] at h25
      have hw : ¬ (ch F i).wr = true := by simpa using h25
      refine J.condF rfl rfl ?_
      refine J.skip rfl ?_
      refine J.inBlock ?_
      refine J.seq rfl ?_
      refine J.quiet rfl Try.mixed (by kernel_rfl) ?_
      refine JQ.pur rfl rfl rfl (Pur.move rfl) ?_
      refine JQ.pur rfl rfl rfl (Pur.nilCheck rfl) ?_
      refine JQ.pur rfl rfl rfl (Pur.fieldAddr rfl) ?_
      refine JQ.pur rfl rfl rfl (Pur.load rfl (CellIn.blk rfl)) ?_
      refine JQ.pur rfl rfl rfl (Pur.move rfl) ?_
      refine JQ.pur rfl rfl rfl (Pur.nilCheck rfl) ?_
      refine JQ.pur rfl rfl rfl (Pur.fieldAddr rfl) ?_
      refine JQ.pur rfl rfl rfl (Pur.load rfl (CellIn.blk rfl)) ?_
      refine JQ.pur rfl rfl rfl (Pur.len rfl) ?_
      refine JQ.pur rfl rfl rfl (Pur.min2 rfl rfl) ?_
      refine JQ.pur rfl rfl rfl (Pur.assign rfl) ?_
      refine JQ.nil ?_
      refine J.seq rfl ?_
      refine J.seq rfl ?_
      refine J.region rfl ?_
      refine JO.pur rfl rfl rfl (Pur.move rfl) ?_
      refine JO.pur rfl rfl rfl (Pur.nilCheck rfl) ?_
      refine JO.pur rfl rfl rfl (Pur.fieldAddr rfl) ?_
      refine JO.pur rfl rfl rfl (Pur.load rfl (CellIn.blk rfl)) ?_
      refine JO.pur rfl rfl rfl (Pur.move rfl) ?_
      refine JO.pur rfl rfl rfl (Pur.geq rfl rfl) ?_
      refine JO.nil ?_
      refine J.splitB 45 rfl (fun h45 => ?_) (fun h45 => ?_)
      · try simp only [decide_eq_true_eq, decide_eq_false_iff_not, Bool.not_eq_true', Bool.not_eq_false', Bool.and_eq_true, Bool.or_eq_true, Bool.and_eq_false_iff, Bool.or_eq_false_iff, Option.isNone_some, Option.isSome_some, Option.isNone_none, Option.isSome_none, Int.not_lt, Int.not_le, beq_iff_eq, beq_eq_false_iff_ne, bne_iff_ne, ne_eq, Bool.not_not, Decidable.not_not] at h45
        have hm0 : (many F (ch F i) q) = 0 := by unfold many; omega
        refine J.condT rfl rfl ?_
        refine J.seq rfl ?_
        refine J.region rfl ?_
        refine JO.pur rfl rfl rfl (Pur.assign rfl) ?_
        refine JO.pur rfl rfl rfl (Pur.assign rfl) ?_
        refine JO.nil ?_
        refine J.ret rfl rfl ?_
        have hv : readF F n q = (F, [], 0) := by unfold readF; rw [hx]; dsimp only; rw [if_neg hq, if_neg hw, hm0, show ((0 : Nat) : Int) = 0 from rfl, Int.add_zero, List.take_zero]; exact congrArg (fun z => (z, ([] : List UInt8), (0 : Int))) (upd_eq hx)
        refine ⟨_, _, ⟨none, 0, by rw [hv]; rfl, rfl⟩, rfl, fun h s => ?_⟩
        rw [hv]
        refine sl_nil_new ?_
        have s2 := FA_shut (L := L) (p := p) (bs := F.bytes) (nx := F.next) (F := F) (c' := ch F i) (ab := ab) (cb := cb) (mb := mb) (ap := r.ap) (cp := r.cp) (am := r.am) (cm := r.cm) hr hrg hch rfl (SubC.out h s)
        rw [upd_same hx] at s2
        exact s2
      · try simp only [decide_eq_true_eq, decide_eq_false_iff_not, Bool.not_eq_true', Bool.not_eq_false', Bool.and_eq_true, Bool.or_eq_true, Bool.and_eq_false_iff, Bool.or_eq_false_iff, Option.isNone_some, Option.isSome_some, Option.isNone_none, Option.isSome_none, Int.not_lt, Int.not_le, beq_iff_eq, beq_eq_false_iff_ne, bne_iff_ne, ne_eq, Bool.not_not, Decidable.not_not] at h45
        have hm1 : (many F (ch F i) q) ≤ 400 ∧ (ch F i).at' + (many F (ch F i) q) ≤ (ch F i).to ∧ (ch F i).at' + (many F (ch F i) q) ≤ F.bytes.length := by unfold many; omega
        refine J.condF rfl rfl ?_
        refine J.skip rfl ?_
        refine J.seq rfl ?_
        refine J.region rfl ?_
        refine JO.pur rfl rfl rfl (Pur.move rfl) ?_
        refine JO.pur rfl rfl rfl (Pur.move rfl) ?_
        refine JO.pur rfl rfl rfl (Pur.move rfl) ?_
        refine JO.pur rfl rfl rfl (Pur.nilCheck rfl) ?_
        refine JO.pur rfl rfl rfl (Pur.fieldAddr rfl) ?_
        refine JO.pur rfl rfl rfl (Pur.load rfl (CellIn.blk rfl)) ?_
        refine JO.pur rfl rfl rfl (Pur.sub rfl rfl (wr64 (by omega))) ?_
        refine JO.pur rfl rfl rfl (Pur.min2 rfl rfl) ?_
        refine JO.setv (u' := .int .i64 (((many F (ch F i) q) : Nat) : Int)) 53 rfl (congrArg (Value.int .i64) (by unfold many; omega)) ?_
        refine JO.pur rfl rfl rfl (Pur.assign rfl) ?_
        refine JO.nil ?_
        refine J.seq rfl ?_
        refine J.fact (fun h s => SlH.le (a := ab) (cap := cb) (E := byE) (xs := F.bytes) s) fun hcap => ?_
        refine J.fact (fun h s => SlH.nil (a := ab) (cap := cb) (E := byE) (xs := F.bytes) s) fun hnl => ?_
        have hn69 : tailA ab cb (ch F i).at'.toNat 1 = none → (ch F i).at'.toNat + (many F (ch F i) q) - (ch F i).at'.toNat = 0 ∧ cb - (ch F i).at'.toNat = 0 := fun e => by
          obtain ⟨e1, e2⟩ := hnl (tail_none e)
          have e3 : F.bytes.length = 0 := by rw [e1]; rfl
          omega
        have hol : ((F.bytes.drop (ch F i).at'.toNat).take (many F (ch F i) q)).length = (many F (ch F i) q) := by rw [List.length_take, List.length_drop]; omega
        refine J.mask0 (n := 17) [] rfl Try.mixed rfl (by kernel_rfl) ?_
        refine JM.take 0 (fun _ h => h) rfl (by kernel_rfl) rfl rfl rfl (m' := 1) rfl (Pur.move rfl) ?_
        refine JM.take 1 (fun _ h => h) rfl (by kernel_rfl) rfl rfl rfl (m' := 3) rfl (Pur.nilCheck rfl) ?_
        refine JM.take 2 (fun _ h => h) rfl (by kernel_rfl) rfl rfl rfl (m' := 7) rfl (Pur.fieldAddr rfl) ?_
        refine JM.take 3 (fun _ h => h) rfl (by kernel_rfl) rfl rfl rfl (m' := 15) rfl (Pur.load rfl (CellIn.blk rfl)) ?_
        refine JM.take 4 (fun _ h => h) rfl (by kernel_rfl) rfl rfl rfl (m' := 31) rfl (Pur.move rfl) ?_
        refine JM.take 5 (fun _ h => h) rfl (by kernel_rfl) rfl rfl rfl (m' := 63) rfl (Pur.nilCheck rfl) ?_
        refine JM.take 6 (fun _ h => h) rfl (by kernel_rfl) rfl rfl rfl (m' := 127) rfl (Pur.fieldAddr rfl) ?_
        refine JM.take 7 (fun _ h => h) rfl (by kernel_rfl) rfl rfl rfl (m' := 255) rfl (Pur.load rfl (CellIn.blk rfl)) ?_
        refine JM.take 8 (fun _ h => h) rfl (by kernel_rfl) rfl rfl rfl (m' := 511) rfl (Pur.move rfl) ?_
        refine JM.take 9 (fun _ h => h) rfl (by kernel_rfl) rfl rfl rfl (m' := 1023) rfl (Pur.nilCheck rfl) ?_
        refine JM.take 10 (fun _ h => h) rfl (by kernel_rfl) rfl rfl rfl (m' := 2047) rfl (Pur.fieldAddr rfl) ?_
        refine JM.take 11 (fun _ h => h) rfl (by kernel_rfl) rfl rfl rfl (m' := 4095) rfl (Pur.load rfl (CellIn.blk rfl)) ?_
        refine JM.take 12 (fun _ h => h) rfl (by kernel_rfl) rfl rfl rfl (m' := 8191) rfl (Pur.move rfl) ?_
        refine JM.take 13 (fun _ h => h) rfl (by kernel_rfl) rfl rfl rfl (m' := 16383) rfl (Pur.add rfl rfl (wr64 (by omega))) ?_
        refine JM.take 14 (fun _ h => h) rfl (by kernel_rfl) rfl rfl rfl (m' := 32767) rfl (Pur.slice2 rfl rfl rfl (Int.toNat_of_nonneg (by omega)).symm (show (ch F i).at' + (((many F (ch F i) q) : Nat) : Int) = (((ch F i).at'.toNat + (many F (ch F i) q) : Nat) : Int) by omega) (by omega) (by omega)) ?_
        refine JM.one (i := 15) (by kernel_rfl) ?_
        refine JMi.eff rfl rfl rfl rfl (m' := 65535) rfl (Eff.call rfl (@cloneB _ _ _ _ ((F.bytes.drop (ch F i).at'.toNat).take (many F (ch F i) q)) (SlIn.takeN (SlIn.dropN (cap := cb) inferInstance rfl (ch F i).at'.toNat (fun e => by omega)) (many F (ch F i) q)) (by omega) (by omega) hn69)) ?_
        rintro _ _ ⟨a69, c69, ⟨rfl, -⟩, rfl⟩
        refine ⟨.inr (fun _ h => h.tail), ?_⟩
        refine JM.take 16 (fun _ h => h.tail) rfl (by kernel_rfl) rfl rfl rfl (m' := 131071) rfl (Pur.assign rfl) ?_
        refine JM.done rfl ?_
        refine J.seq rfl ?_
        refine J.region rfl ?_
        refine JO.pur rfl rfl rfl (Pur.move rfl) ?_
        refine JO.pur rfl rfl rfl (Pur.nilCheck rfl) ?_
        refine JO.pur rfl rfl rfl (Pur.fieldAddr rfl) ?_
        refine JO.pur rfl rfl rfl (Pur.load rfl (CellIn.blk rfl)) ?_
        refine JO.pur rfl rfl rfl (Pur.move rfl) ?_
        refine JO.pur rfl rfl rfl (Pur.add rfl rfl (wr64 (by omega))) ?_
        refine JO.pur rfl rfl rfl (Pur.nilCheck rfl) ?_
        refine JO.pur rfl rfl rfl (Pur.fieldAddr rfl) ?_
        refine JO.effN rfl rfl (Eff.storeB rfl rfl rfl (.tail (.tail .head))) ?_
        rintro _ _ ⟨rfl, rfl⟩
        refine JO.nil ?_
        refine J.seq rfl ?_
        refine J.region rfl ?_
        refine JO.pur rfl rfl rfl (Pur.move rfl) ?_
        refine JO.pur rfl rfl rfl (Pur.assign rfl) ?_
        refine JO.pur rfl rfl rfl (Pur.assign rfl) ?_
        refine JO.nil ?_
        refine J.ret rfl rfl ?_
        have hv : readF F n q = (upd F i { ch F i with at' := (ch F i).at' + (many F (ch F i) q) }, ((F.bytes.drop (ch F i).at'.toNat).take (many F (ch F i) q)), 0) := by unfold readF; rw [hx]; dsimp only; rw [if_neg hq, if_neg hw]
        refine ⟨.tuple #[.slice a69 (many F (ch F i) q) c69, .int .i64 0], _, ⟨a69, c69, by rw [hv, hol], rfl⟩, congrArg (fun z => Value.tuple #[.slice a69 z c69, .int .i64 0]) (show (ch F i).at'.toNat + (many F (ch F i) q) - (ch F i).at'.toNat = (many F (ch F i) q) by omega), fun h s => ?_⟩
        rw [hv]
        have s2 := FA_shut (L := sl byE a69 c69 ((F.bytes.drop (ch F i).at'.toNat).take (many F (ch F i) q)) :: L) (p := p) (bs := F.bytes) (nx := F.next) (F := F) (c' := { ch F i with at' := (ch F i).at' + (many F (ch F i) q) }) (ab := ab) (cb := cb) (mb := mb) (ap := r.ap) (cp := r.cp) (am := r.am) (cm := r.cm) hr hrg hch rfl (by dsimp only; exact SubC.out h s)
        exact s2.swap

theorem Read_ok {L : List Asn} {p : Nat} {F : Fl} {n : Int} {q : Int} {k : Nat} (g : Hf.Good F k) (hk : k ≤ 100000) : CallS Try.prog 23 [.pointer (some ⟨p, 0, none⟩), .int .i64 n, .int .i64 q].toArray (FA p F :: L) (fun v M => ∃ a' c', v = .tuple #[.slice a' (readF F n q).2.1.length c', .int .i64 (readF F n q).2.2] ∧ M = sl byE a' c' (readF F n q).2.1 :: FA p (readF F n q).1 :: L) := by
  cases hx : ix F n with
  | none => exact Read_no  hx
  | some i => exact Read_yes  g hk hx
end Go.Proofs.Ytgbckamaenapeaa
