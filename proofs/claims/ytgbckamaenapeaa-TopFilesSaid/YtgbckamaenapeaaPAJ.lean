/-
  A part of the proof of the claim that this folder bears.
-/
import Derived.Test.YtgbckamaenapeaaPAI
/- The text HRf6. -/
set_option linter.unusedVariables false
set_option linter.unusedSimpArgs false
set_option maxRecDepth 10000
namespace Go.Proofs.Ytgbckamaenapeaa
open Go Go.KK Hf

theorem rNew_ok {L : List Asn} {b : Option Addr} {m cq : Nat} {ys : List UInt8} [SlIn byE L b ys] (hm : m = ys.length) (hb : ys.length ≤ 400) (hnil : b = none → m = 0 ∧ cq = 0) :
    CallS Try.prog 44 [.slice b m cq].toArray L (fun v M => ∃ p, v = .tuple #[.pointer (some ⟨p, 0, none⟩), .int .i64 0] ∧ M = RA p (newF ys) :: L) := by
  subst hm
  refine CallS.ent ?_
  refine CallS.enter Try.func44 rfl rfl rfl rfl rfl ?_
  refine J.seq rfl ?_
  refine J.region rfl ?_
  refine JO.pur rfl rfl rfl (Pur.assign rfl) ?_
  refine JO.pur rfl rfl rfl (Pur.assign rfl) ?_
  refine JO.nil ?_
  refine J.seq rfl ?_
  refine J.seq rfl ?_
  refine J.region rfl ?_
  refine JO.pur rfl rfl rfl (Pur.move rfl) ?_
  refine JO.pur rfl rfl rfl (Pur.len rfl) ?_
  refine JO.pur rfl rfl rfl (Pur.gtr rfl rfl) ?_
  refine JO.setv (u' := .bool false) 6 rfl (congrArg Value.bool (decide_eq_false (by omega))) ?_
  refine JO.nil ?_
  refine J.condF rfl rfl ?_
  refine J.skip rfl ?_
  refine J.seq rfl ?_
  refine J.region rfl ?_
  refine JO.eff rfl rfl rfl (Eff.buildSlice byE ([] : List UInt8) rfl rfl rfl rfl rfl rfl rfl) ?_
  rintro _ _ ⟨b7, rfl, -, rfl⟩
  refine JO.pur rfl rfl rfl (Pur.move rfl) ?_
  refine JO.eff rfl rfl rfl (Eff.append rfl rfl rfl rfl (by first | rfl | omega | (simp; done) | (simp; omega)) (by first | rfl | omega | (simp; done) | (simp; omega)) (by decide) (by simp; omega) (by simp; omega) hnil) ?_
  rintro _ _ ⟨a9, c9, rfl, rfl⟩
  refine JO.pur rfl rfl rfl (Pur.build (cs := [_, _, _]) rfl rfl) ?_
  refine JO.eff rfl rfl rfl (Eff.box (cs := [_, _, _]) rfl rfl) ?_
  rintro _ _ ⟨b11, rfl, rfl⟩
  refine JO.pur rfl rfl rfl (Pur.assign rfl) ?_
  refine JO.pur rfl rfl rfl (Pur.assign rfl) ?_
  refine JO.nil ?_
  refine J.ret rfl rfl ?_
  refine ⟨_, _, ⟨b11, rfl, rfl⟩, rfl, fun h s => ?_⟩
  refine RA_mk (F := newF ys) (ab := a9) (cb := c9) (ao := none) (co := 0) (rs := []) rfl ?_
  simp only [List.length_nil, Nat.zero_add, List.nil_append] at s
  have s2 : Sat h (star (rmL [] []) :: sl rcE none 0 [] :: _) := star_nil (sl_nil_new (E := rcE) s)
  show Sat h (blk b11 (.cells #[.slice a9 ys.length c9, .slice none 0 0, .int .i64 1] 93) :: sl byE a9 c9 ys :: sl rcE none 0 [] :: star (rmL [] []) :: L)
  exact SubC.out h s2

theorem rNew_big {L : List Asn} {b : Option Addr} {m cq : Nat} {ys : List UInt8} [SlIn byE L b ys] (hm : m = ys.length) (hb : ¬ ys.length ≤ 400) :
    CallS Try.prog 44 [.slice b m cq].toArray L (fun v M => v = .tuple #[.pointer none, .int .i64 2] ∧ M = L) := by
  subst hm
  refine CallS.enter Try.func44 rfl rfl rfl rfl rfl ?_
  refine J.seq rfl ?_
  refine J.region rfl ?_
  refine JO.pur rfl rfl rfl (Pur.assign rfl) ?_
  refine JO.pur rfl rfl rfl (Pur.assign rfl) ?_
  refine JO.nil ?_
  refine J.seq rfl ?_
  refine J.seq rfl ?_
  refine J.region rfl ?_
  refine JO.pur rfl rfl rfl (Pur.move rfl) ?_
  refine JO.pur rfl rfl rfl (Pur.len rfl) ?_
  refine JO.pur rfl rfl rfl (Pur.gtr rfl rfl) ?_
  refine JO.setv (u' := .bool true) 6 rfl (congrArg Value.bool (decide_eq_true (by omega))) ?_
  refine JO.nil ?_
  refine J.condT rfl rfl ?_
  refine J.seq rfl ?_
  refine J.region rfl ?_
  refine JO.pur rfl rfl rfl (Pur.assign rfl) ?_
  refine JO.pur rfl rfl rfl (Pur.assign rfl) ?_
  refine JO.nil ?_
  refine J.ret rfl rfl ?_
  exact ⟨rfl, rfl⟩

theorem rBytes_ok {L : List Asn} {p : Nat} {F : Fl} (hb : F.bytes.length ≤ 400) :
    CallS Try.prog 56 [.pointer (some ⟨p, 0, none⟩)].toArray (RA p F :: L) (fun v M => ∃ a' c', v = .slice a' F.bytes.length c' ∧ M = sl byE a' c' F.bytes :: RA p F :: L) := by
  refine CallS.ent ?_
  refine CallS.enter Try.func56 rfl rfl rfl rfl rfl ?_
  refine J.seq rfl ?_
  refine RA_open fun ab cb ao co rs hr => ?_
  refine J.fact (fun h s => SlH.nil (a := ab) (cap := cb) (E := byE) (xs := F.bytes) s) fun hnl => ?_
  have hnl2 : ab = none → F.bytes.length = 0 ∧ cb = 0 := fun e => by obtain ⟨e1, e2⟩ := hnl e; exact ⟨by rw [e1]; rfl, e2⟩
  refine J.region rfl ?_
  refine JO.pur rfl rfl rfl (Pur.assign rfl) ?_
  refine JO.nil ?_
  refine J.seq rfl ?_
  refine J.region rfl ?_
  refine JO.eff rfl rfl rfl (Eff.buildSlice byE ([] : List UInt8) rfl rfl rfl rfl rfl rfl rfl) ?_
  rintro _ _ ⟨b3, rfl, -, rfl⟩
  refine JO.pur rfl rfl rfl (Pur.move rfl) ?_
  refine JO.pur rfl rfl rfl (Pur.nilCheck rfl) ?_
  refine JO.pur rfl rfl rfl (Pur.fieldAddr rfl) ?_
  refine JO.pur rfl rfl rfl (Pur.load rfl (CellIn.blk rfl)) ?_
  refine JO.eff rfl rfl rfl (Eff.append rfl rfl rfl rfl (by first | rfl | omega | (simp; done) | (simp; omega)) (by first | rfl | omega | (simp; done) | (simp; omega)) (by decide) (by simp; omega) (by simp; omega) hnl2) ?_
  rintro _ _ ⟨a8, c8, rfl, rfl⟩
  refine JO.setv (u' := .slice a8 F.bytes.length c8) 8 rfl (congrArg (fun z => Value.slice a8 z c8) (by simp)) ?_
  refine JO.pur rfl rfl rfl (Pur.assign rfl) ?_
  refine JO.nil ?_
  refine J.ret rfl rfl ?_
  refine ⟨_, _, ⟨a8, c8, rfl, rfl⟩, rfl, fun h s => ?_⟩
  rw [List.nil_append] at s
  have s2 := RA_mk (L := sl byE a8 c8 F.bytes :: L) (F := F) (p := p) (ab := ab) (cb := cb) (ao := ao) (co := co) hr (SubC.out h s)
  exact s2.swap

theorem rOpen_ok {L : List Asn} {p : Nat} {F : Fl} (hb : F.opens.length ≤ 100000) :
    CallS Try.prog 58 [.pointer (some ⟨p, 0, none⟩)].toArray (RA p F :: L) (fun v M => ∃ a' c', v = .slice a' (numsF F).length c' ∧ M = sl intE a' c' (numsF F) :: RA p F :: L) := by
  refine CallS.ent ?_
  refine CallS.enter Try.func58 rfl rfl rfl rfl rfl ?_
  refine J.seq rfl ?_
  refine RA_open fun ab cb ao co rs hr => ?_
  have hrl := rcL_len hr
  have hnl : (numsF F).length = F.opens.length := by simp [numsF]
  refine J.region rfl ?_
  refine JO.pur rfl rfl rfl (Pur.assign rfl) ?_
  refine JO.nil ?_
  refine J.seq rfl ?_
  refine J.region rfl ?_
  refine JO.pur rfl rfl rfl (Pur.assign rfl) ?_
  refine JO.nil ?_
  refine J.seq rfl ?_
  refine J.seq rfl ?_
  refine J.region rfl ?_
  refine JO.pur rfl rfl rfl (Pur.assign rfl) ?_
  refine JO.nil ?_
  refine J.block rfl ?_
  refine J.loopF (ι := Nat × Option Addr × Nat) (fun q => q.1 ≤ F.opens.length) (fun q => [(3, .slice q.2.1 ((numsF F).take q.1).length q.2.2), (4, .int .i64 (q.1 : Int))]) [(0, _)] (fun q => sl intE q.2.1 q.2.2 ((numsF F).take q.1) :: blk p (.cells #[.slice ab F.bytes.length cb, .slice ao F.opens.length co, .int .i64 F.next] 93) :: sl byE ab cb F.bytes :: sl rcE ao co (rcL rs F.opens) :: star (rmL rs F.opens) :: L) (fun q => F.opens.length - q.1) (0, none, 0) rfl (.cons rfl rfl .nil) (.cons rfl rfl (.cons rfl rfl .nil)) (fun h s => by dsimp only; rw [List.take_zero]; exact SubC.out h (sl_nil_new (E := intE) s)) (Nat.zero_le _) ?_
  rintro ⟨k, a3, c3⟩ hk ih0
  try dsimp only
  dsimp only at hk
  refine J.seq rfl ?_
  refine J.seq rfl ?_
  refine J.region rfl ?_
  refine JO.pur rfl rfl rfl (Pur.move rfl) ?_
  refine JO.pur rfl rfl rfl (Pur.move rfl) ?_
  refine JO.pur rfl rfl rfl (Pur.nilCheck rfl) ?_
  refine JO.pur rfl rfl rfl (Pur.fieldAddr rfl) ?_
  refine JO.pur rfl rfl rfl (Pur.load rfl (CellIn.blk rfl)) ?_
  refine JO.pur rfl rfl rfl (Pur.len rfl) ?_
  refine JO.pur rfl rfl rfl (Pur.lss rfl rfl) ?_
  refine JO.nil ?_
  refine J.splitB 11 rfl (fun h11 => ?_) (fun h11 => ?_)
  · try simp only [decide_eq_true_eq, decide_eq_false_iff_not, Bool.not_eq_true', Bool.not_eq_false', Bool.and_eq_true, Bool.or_eq_true, Bool.and_eq_false_iff, Bool.or_eq_false_iff, Option.isNone_some, Option.isSome_some, Option.isNone_none, Option.isSome_none, Int.not_lt, Int.not_le, beq_iff_eq, beq_eq_false_iff_ne, bne_iff_ne, ne_eq, Bool.not_not, Decidable.not_not] at h11
    have hkl : k < F.opens.length := by omega
    have hch := ch_get hkl
    obtain ⟨r, hrg⟩ : ∃ r, rs[k]? = some r := ⟨_, List.getElem?_eq_getElem (by omega)⟩
    have hrc := rcL_get hrg hch
    have htk : (numsF F).take (k + 1) = (numsF F).take k ++ [(ch F k).num] := by
      rw [List.take_add_one, show (numsF F)[k]? = some (ch F k).num by unfold numsF; rw [List.getElem?_map, hch]; rfl]; rfl
    have htl : ((numsF F).take k).length = k := by rw [List.length_take]; omega
    refine J.condT rfl rfl ?_
    refine J.skip rfl ?_
    refine J.seq rfl ?_
    refine J.block rfl ?_
    refine J.region rfl ?_
    refine JO.pur rfl rfl rfl (Pur.move rfl) ?_
    refine JO.pur rfl rfl rfl (Pur.move rfl) ?_
    refine JO.pur rfl rfl rfl (Pur.nilCheck rfl) ?_
    refine JO.pur rfl rfl rfl (Pur.fieldAddr rfl) ?_
    refine JO.pur rfl rfl rfl (Pur.load rfl (CellIn.blk rfl)) ?_
    refine JO.pur rfl rfl rfl (Pur.move rfl) ?_
    refine JO.pur rfl rfl rfl (Pur.idx rfl rfl rfl (by first | rfl | (simp; done) | omega) rfl (by omega)) ?_
    refine JO.pur rfl rfl rfl (Pur.fieldAddr rfl) ?_
    refine JO.pur rfl rfl rfl (Pur.load rfl (CellIn.el rfl hrc rfl)) ?_
    refine JO.setv (u' := .int .i64 (ch F k).num) 22 rfl rfl ?_
    refine JO.eff rfl rfl rfl (Eff.buildSlice intE [(ch F k).num] rfl rfl rfl rfl rfl rfl rfl) ?_
    rintro _ _ ⟨b23, rfl, -, rfl⟩
    refine JO.eff rfl rfl rfl (Eff.append rfl rfl rfl rfl (by first | rfl | omega | (simp; done) | (simp; omega)) (by first | rfl | omega | (simp; done) | (simp; omega)) (by decide) (by simp; omega) (by simp; omega) (fun h => by cases h)) ?_
    rintro _ _ ⟨a24, c24, rfl, rfl⟩
    refine JO.pur rfl rfl rfl (Pur.assign rfl) ?_
    refine JO.nil ?_
    refine J.inBlock ?_
    refine J.region rfl ?_
    refine JO.pur rfl rfl rfl (Pur.move rfl) ?_
    refine JO.pur rfl rfl rfl (Pur.add rfl rfl (wr64 (by omega))) ?_
    refine JO.pur rfl rfl rfl (Pur.assign rfl) ?_
    refine JO.nil ?_
    exact J.weaken (.cons rfl (by dsimp only; rw [htk, List.length_append]) (.cons rfl (congrArg (Value.int .i64) (by first | rfl | (dsimp only; omega))) (.cons rfl rfl .nil))) (fun h s => by dsimp only; rw [htk]; exact SubC.out h s) (ih0 (k + 1, a24, c24) (by dsimp only; omega) (by dsimp only; omega))
  · try simp only [decide_eq_true_eq, decide_eq_false_iff_not, Bool.not_eq_true', Bool.not_eq_false', Bool.and_eq_true, Bool.or_eq_true, Bool.and_eq_false_iff, Bool.or_eq_false_iff, Option.isNone_some, Option.isSome_some, Option.isNone_none, Option.isSome_none, Int.not_lt, Int.not_le, beq_iff_eq, beq_eq_false_iff_ne, bne_iff_ne, ne_eq, Bool.not_not, Decidable.not_not] at h11
    refine J.condF rfl rfl ?_
    refine J.exit rfl rfl ?_
    refine J.seq rfl ?_
    refine J.region rfl ?_
    refine JO.pur rfl rfl rfl (Pur.move rfl) ?_
    refine JO.pur rfl rfl rfl (Pur.assign rfl) ?_
    refine JO.nil ?_
    refine J.ret rfl rfl ?_
    obtain rfl : k = F.opens.length := by omega
    have hta : (numsF F).take F.opens.length = numsF F := by rw [← hnl, List.take_length]
    refine ⟨_, _, ⟨a3, c3, by rw [hta]; rfl, rfl⟩, rfl, fun h s => ?_⟩
    rw [hta] at s
    have s2 := RA_mk (L := sl intE a3 c3 (numsF F) :: L) (F := F) (p := p) (ab := ab) (cb := cb) (ao := ao) (co := co) hr (SubC.out h s)
    exact s2.swap

theorem rRead_no {L : List Asn} {p : Nat} {F : Fl} {n : Int} {q : Int} {k : Nat} (g : Hf.Good F k) (hk : k ≤ 100000) (hx : ix F n = none) :
    CallS Try.prog 47 [.pointer (some ⟨p, 0, none⟩), .int .i64 n, .int .i64 q].toArray (RA p F :: L) (fun v M => ∃ a' c', v = .tuple #[.slice a' (readF F n q).2.1.length c', .int .i64 (readF F n q).2.2] ∧ M = sl byE a' c' (readF F n q).2.1 :: RA p (readF F n q).1 :: L) := by
  refine CallS.ent ?_
  refine CallS.enter Try.func47 rfl rfl rfl rfl rfl ?_
  refine J.seq rfl ?_
  refine RA_open fun ab cb ao co rs hr => ?_
  refine J.region rfl ?_
  refine JO.pur rfl rfl rfl (Pur.assign rfl) ?_
  refine JO.pur rfl rfl rfl (Pur.assign rfl) ?_
  refine JO.nil ?_
  refine J.seq rfl ?_
  refine J.region rfl ?_
  refine JO.pur rfl rfl rfl (Pur.move rfl) ?_
  refine JO.pur rfl rfl rfl (Pur.move rfl) ?_
  refine JO.effR rfl rfl rfl (Eff.call rfl (rfind_no hr (Nat.le_trans g.ol hk) hx)) ?_
  refine JO.pur rfl rfl rfl (Pur.assign rfl) ?_
  refine JO.nil ?_
  refine J.seq rfl ?_
  refine J.block rfl ?_
  refine J.seq rfl ?_
  refine J.region rfl ?_
  refine JO.pur rfl rfl rfl (Pur.move rfl) ?_
  refine JO.pur rfl rfl rfl (Pur.lss rfl rfl) ?_
  refine JO.setv (u' := .bool true) 17 rfl (congrArg Value.bool (rfl)) ?_
  refine JO.pur rfl rfl rfl (Pur.assign rfl) ?_
  refine JO.nil ?_
  refine J.condT rfl rfl ?_
  refine J.seq rfl ?_
  refine J.region rfl ?_
  refine JO.pur rfl rfl rfl (Pur.assign rfl) ?_
  refine JO.pur rfl rfl rfl (Pur.assign rfl) ?_
  refine JO.nil ?_
  refine J.ret rfl rfl ?_
  have hv : readF F n q = (F, [], 5) := by unfold readF; rw [hx]
  refine ⟨_, _, ⟨none, 0, by rw [hv]; rfl, rfl⟩, rfl, fun h s => ?_⟩
  rw [hv]
  refine sl_nil_new ?_
  exact RA_mk (ab := ab) (cb := cb) (ao := ao) (co := co) hr (SubC.out h s)

theorem rRead_yes {L : List Asn} {p : Nat} {F : Fl} {n : Int} {q : Int} {i : Nat} {k : Nat} (g : Hf.Good F k) (hk : k ≤ 100000) (hx : ix F n = some i) :
    CallS Try.prog 47 [.pointer (some ⟨p, 0, none⟩), .int .i64 n, .int .i64 q].toArray (RA p F :: L) (fun v M => ∃ a' c', v = .tuple #[.slice a' (readF F n q).2.1.length c', .int .i64 (readF F n q).2.2] ∧ M = sl byE a' c' (readF F n q).2.1 :: RA p (readF F n q).1 :: L) := by
  refine CallS.ent ?_
  refine CallS.enter Try.func47 rfl rfl rfl rfl rfl ?_
  refine J.seq rfl ?_
  refine RA_open fun ab cb ao co rs hr => ?_
  obtain ⟨hil, hch, hnum⟩ := ix_some hx
  obtain ⟨r, hrg⟩ : ∃ r, rs[i]? = some r := ⟨_, List.getElem?_eq_getElem (by omega)⟩
  have hrl := rcL_len hr
  have hrc := rcL_get hrg hch
  have gc := g.gc _ (ch_mem hx)
  have gmk := g.mks _ (ch_mem hx)
  have gb := g.b4
  have gf0 := gc.f0
  have gft := gc.ft
  have gt4 := gc.t4
  have gfa := gc.fa
  have ga4 := gc.at4
  refine J.region rfl ?_
  refine JO.pur rfl rfl rfl (Pur.assign rfl) ?_
  refine JO.pur rfl rfl rfl (Pur.assign rfl) ?_
  refine JO.nil ?_
  refine J.seq rfl ?_
  refine J.region rfl ?_
  refine JO.pur rfl rfl rfl (Pur.move rfl) ?_
  refine JO.pur rfl rfl rfl (Pur.move rfl) ?_
  refine JO.effR rfl rfl rfl (Eff.call rfl (rfind_yes hr (Nat.le_trans g.ol hk) hx)) ?_
  refine JO.pur rfl rfl rfl (Pur.assign rfl) ?_
  refine JO.nil ?_
  refine J.seq rfl ?_
  refine J.block rfl ?_
  refine J.seq rfl ?_
  refine J.region rfl ?_
  refine JO.pur rfl rfl rfl (Pur.move rfl) ?_
  refine JO.pur rfl rfl rfl (Pur.lss rfl rfl) ?_
  refine JO.setv (u' := .bool false) 17 rfl (congrArg Value.bool (by simp)) ?_
  refine JO.pur rfl rfl rfl (Pur.assign rfl) ?_
  refine JO.nil ?_
  refine J.condF rfl rfl ?_
  refine J.seq rfl ?_
  refine J.region rfl ?_
  refine JO.pur rfl rfl rfl (Pur.move rfl) ?_
  refine JO.pur rfl rfl rfl (Pur.lss rfl rfl) ?_
  refine JO.pur rfl rfl rfl (Pur.assign rfl) ?_
  refine JO.nil ?_
  refine J.splitB 18 rfl (fun h18 => ?_) (fun h18 => ?_)
  · try simp only [decide_eq_true_eq, decide_eq_false_iff_not, Bool.not_eq_true', Bool.not_eq_false', Bool.and_eq_true, Bool.or_eq_true, Bool.and_eq_false_iff, Bool.or_eq_false_iff, Option.isNone_some, Option.isSome_some, Option.isNone_none, Option.isSome_none, Int.not_lt, Int.not_le, beq_iff_eq, beq_eq_false_iff_ne, bne_iff_ne, ne_eq, Bool.not_not, Decidable.not_not] at h18
    have hq : q < 0 := h18
    refine J.condT rfl rfl ?_
    refine J.seq rfl ?_
    refine J.region rfl ?_
    refine JO.pur rfl rfl rfl (Pur.assign rfl) ?_
    refine JO.pur rfl rfl rfl (Pur.assign rfl) ?_
    refine JO.nil ?_
    refine J.ret rfl rfl ?_
    have hv : readF F n q = (F, [], 2) := by unfold readF; rw [hx]; dsimp only; rw [if_pos hq]
    refine ⟨_, _, ⟨none, 0, by rw [hv]; rfl, rfl⟩, rfl, fun h s => ?_⟩
    rw [hv]
    refine sl_nil_new ?_
    exact RA_mk (ab := ab) (cb := cb) (ao := ao) (co := co) hr (SubC.out h s)
  · try simp only [decide_eq_true_eq, decide_eq_false_iff_not, Bool.not_eq_true', Bool.not_eq_false', Bool.and_eq_true, Bool.or_eq_true, Bool.and_eq_false_iff, Bool.or_eq_false_iff, Option.isNone_some, Option.isSome_some, Option.isNone_none, Option.isSome_none, Int.not_lt, Int.not_le, beq_iff_eq, beq_eq_false_iff_ne, bne_iff_ne, ne_eq, Bool.not_not, Decidable.not_not] at h18
    have hq : ¬ q < 0 := by omega
    refine J.condF rfl rfl ?_
    refine J.seq rfl ?_
    refine J.region rfl ?_
    refine JO.pur rfl rfl rfl (Pur.move rfl) ?_
    refine JO.pur rfl rfl rfl (Pur.nilCheck rfl) ?_
    refine JO.pur rfl rfl rfl (Pur.fieldAddr rfl) ?_
    refine JO.pur rfl rfl rfl (Pur.load rfl (CellIn.blk rfl)) ?_
    refine JO.pur rfl rfl rfl (Pur.move rfl) ?_
    refine JO.pur rfl rfl rfl (Pur.idx rfl rfl rfl (by first | rfl | (simp; done) | omega | (rw [List.length_set, hrl])) rfl (by omega)) ?_
    refine JO.pur rfl rfl rfl (Pur.fieldAddr rfl) ?_
    refine JO.pur rfl rfl rfl (Pur.load rfl (CellIn.el rfl hrc rfl)) ?_
    refine JO.setv (u' := .bool (ch F i).wr) 29 rfl rfl ?_
    refine JO.pur rfl rfl rfl (Pur.assign rfl) ?_
    refine JO.nil ?_
    refine J.splitB 21 rfl (fun h21 => ?_) (fun h21 => ?_)
    · try simp only [decide_eq_true_eq, decide_eq_false_iff_not, Bool.not_eq_true', Bool.not_eq_false', Bool.and_eq_true, Bool.or_eq_true, Bool.and_eq_false_iff, Bool.or_eq_false_iff, Option.isNone_some, Option.isSome_some, Option.isNone_none, Option.isSome_none, Int.not_lt, Int.not_le, beq_iff_eq, beq_eq_false_iff_ne, bne_iff_ne, ne_eq, Bool.not_not, Decidable.not_not] at h21
      have hw : (ch F i).wr = true := h21
      refine J.condT rfl rfl ?_
      refine J.seq rfl ?_
      refine J.region rfl ?_
      refine JO.pur rfl rfl rfl (Pur.assign rfl) ?_
      refine JO.pur rfl rfl rfl (Pur.assign rfl) ?_
      refine JO.nil ?_
      refine J.ret rfl rfl ?_
      have hv : readF F n q = (F, [], 230) := by unfold readF; rw [hx]; dsimp only; rw [if_neg hq, if_pos hw]
      refine ⟨_, _, ⟨none, 0, by rw [hv]; rfl, rfl⟩, rfl, fun h s => ?_⟩
      rw [hv]
      refine sl_nil_new ?_
      exact RA_mk (ab := ab) (cb := cb) (ao := ao) (co := co) hr (SubC.out h s)
    · try simp only [decide_eq_true_eq, decide_eq_false_iff_not, Bool.not_eq_true', Bool.not_eq_false', Bool.and_eq_true, Bool.or_eq_true, Bool.and_eq_false_iff, Bool.or_eq_false_iff, Option.isNone_some, Option.isSome_some, Option.isNone_none, Option.isSome_none, Int.not_lt, Int.not_le, beq_iff_eq, beq_eq_false_iff_ne, bne_iff_ne, ne_eq, Bool.not_not, Decidable.not_not] at h21
      have hw : ¬ (ch F i).wr = true := by simpa using h21
      have hmm : ∀ j : Nat, j ≤ many F (ch F i) q ↔ ((j : Int) ≤ q ∧ (j = 0 ∨ ((ch F i).at' + (j : Int) ≤ (ch F i).to ∧ (ch F i).at' + (j : Int) ≤ F.bytes.length))) := fun j => by unfold many; omega
      refine J.condF rfl rfl ?_
      refine J.skip rfl ?_
      refine J.inBlock ?_
      refine J.seq rfl ?_
      refine J.region rfl ?_
      refine JO.pur rfl rfl rfl (Pur.assign rfl) ?_
      refine JO.nil ?_
      refine J.seq rfl ?_
      refine J.seq rfl ?_
      refine J.region rfl ?_
      refine JO.pur rfl rfl rfl (Pur.assign rfl) ?_
      refine JO.nil ?_
      refine J.block rfl ?_
      refine J.loopF (ι := Nat × Option Addr × Nat) (fun w => w.1 ≤ (many F (ch F i) q)) (fun w => [(9, .slice w.2.1 ((F.bytes.drop (ch F i).at'.toNat).take w.1).length w.2.2), (10, .int .i64 (w.1 : Int))]) [(0, _), (2, _), (8, _)] (fun w => sl byE w.2.1 w.2.2 ((F.bytes.drop (ch F i).at'.toNat).take w.1) :: blk p (.cells #[.slice ab F.bytes.length cb, .slice ao F.opens.length co, .int .i64 F.next] 93) :: sl byE ab cb F.bytes :: sl rcE ao co ((rcL rs F.opens).set i (⟨(ch F i).num, (ch F i).fr, (ch F i).to, ((ch F i).at' + ((w.1 : Nat) : Int)), (ch F i).wr, (ch F i).st, r.ap, (ch F i).pend.length, r.cp, r.am, (ch F i).marks.length, r.cm⟩ : Rc)) :: star (rmL rs F.opens) :: L) (fun w => 401 - w.1) (0, none, 0) rfl (.cons rfl rfl (.cons rfl rfl (.cons rfl rfl .nil))) (.cons rfl rfl (.cons rfl rfl .nil)) (fun h s => by dsimp only; rw [List.take_zero, show (⟨(ch F i).num, (ch F i).fr, (ch F i).to, ((ch F i).at' + ((0 : Nat) : Int)), (ch F i).wr, (ch F i).st, r.ap, (ch F i).pend.length, r.cp, r.am, (ch F i).marks.length, r.cm⟩ : Rc) = rcOf r (ch F i) by simp [rcOf], set_same hrc]; exact SubC.out h (sl_nil_new (E := byE) s)) (Nat.zero_le _) ?_
      rintro ⟨j, a9, c9⟩ hj ih0
      try dsimp only
      dsimp only at hj
      have hj0 := (hmm j).1 hj
      have hjl : ((F.bytes.drop (ch F i).at'.toNat).take j).length = j := by rw [List.length_take, List.length_drop]; omega
      refine J.seq rfl ?_
      refine J.seq rfl ?_
      refine J.region rfl ?_
      refine JO.pur rfl rfl rfl (Pur.move rfl) ?_
      refine JO.pur rfl rfl rfl (Pur.move rfl) ?_
      refine JO.pur rfl rfl rfl (Pur.lss rfl rfl) ?_
      refine JO.nil ?_
      refine J.splitB 32 rfl (fun h32 => ?_) (fun h32 => ?_)
      · try simp only [decide_eq_true_eq, decide_eq_false_iff_not, Bool.not_eq_true', Bool.not_eq_false', Bool.and_eq_true, Bool.or_eq_true, Bool.and_eq_false_iff, Bool.or_eq_false_iff, Option.isNone_some, Option.isSome_some, Option.isNone_none, Option.isSome_none, Int.not_lt, Int.not_le, beq_iff_eq, beq_eq_false_iff_ne, bne_iff_ne, ne_eq, Bool.not_not, Decidable.not_not] at h32
        refine J.condT rfl rfl ?_
        refine J.skip rfl ?_
        refine J.seq rfl ?_
        refine J.block rfl ?_
        refine J.seq rfl ?_
        refine J.region rfl ?_
        refine JO.pur rfl rfl rfl (Pur.move rfl) ?_
        refine JO.pur rfl rfl rfl (Pur.nilCheck rfl) ?_
        refine JO.pur rfl rfl rfl (Pur.fieldAddr rfl) ?_
        refine JO.pur rfl rfl rfl (Pur.load rfl (CellIn.blk rfl)) ?_
        refine JO.pur rfl rfl rfl (Pur.move rfl) ?_
        refine JO.pur rfl rfl rfl (Pur.idx rfl rfl rfl (by first | rfl | (simp; done) | omega | (rw [List.length_set, hrl])) rfl (by rw [List.length_set, hrl]; omega)) ?_
        refine JO.pur rfl rfl rfl (Pur.fieldAddr rfl) ?_
        refine JO.pur rfl rfl rfl (Pur.load rfl (CellIn.el rfl (by exact List.getElem?_set_self (by rw [hrl]; omega)) rfl)) ?_
        refine JO.setv (u' := .int .i64 ((ch F i).at' + (j : Int))) 42 rfl rfl ?_
        refine JO.pur rfl rfl rfl (Pur.assign rfl) ?_
        refine JO.nil ?_
        refine J.seq rfl ?_
        refine J.seq rfl ?_
        refine J.region rfl ?_
        refine JO.pur rfl rfl rfl (Pur.move rfl) ?_
        refine JO.pur rfl rfl rfl (Pur.move rfl) ?_
        refine JO.pur rfl rfl rfl (Pur.nilCheck rfl) ?_
        refine JO.pur rfl rfl rfl (Pur.fieldAddr rfl) ?_
        refine JO.pur rfl rfl rfl (Pur.load rfl (CellIn.blk rfl)) ?_
        refine JO.pur rfl rfl rfl (Pur.move rfl) ?_
        refine JO.pur rfl rfl rfl (Pur.idx rfl rfl rfl (by first | rfl | (simp; done) | omega | (rw [List.length_set, hrl])) rfl (by rw [List.length_set, hrl]; omega)) ?_
        refine JO.pur rfl rfl rfl (Pur.fieldAddr rfl) ?_
        refine JO.pur rfl rfl rfl (Pur.load rfl (CellIn.el rfl (by exact List.getElem?_set_self (by rw [hrl]; omega)) rfl)) ?_
        refine JO.setv (u' := .int .i64 (ch F i).to) 51 rfl rfl ?_
        refine JO.pur rfl rfl rfl (Pur.geq rfl rfl) ?_
        refine JO.pur rfl rfl rfl (Pur.move rfl) ?_
        refine JO.splitB 53 rfl (fun h53 => ?_) (fun h53 => ?_)
        · try simp only [decide_eq_true_eq, decide_eq_false_iff_not, Bool.not_eq_true', Bool.not_eq_false', Bool.and_eq_true, Bool.or_eq_true, Bool.and_eq_false_iff, Bool.or_eq_false_iff, Option.isNone_some, Option.isSome_some, Option.isNone_none, Option.isSome_none, Int.not_lt, Int.not_le, beq_iff_eq, beq_eq_false_iff_ne, bne_iff_ne, ne_eq, Bool.not_not, Decidable.not_not] at h53
          refine JO.no rfl rfl rfl ?_
          refine JO.no rfl rfl rfl ?_
          refine JO.no rfl rfl rfl ?_
          refine JO.no rfl rfl rfl ?_
          refine JO.no rfl rfl rfl ?_
          refine JO.no rfl rfl rfl ?_
          refine JO.no rfl rfl rfl ?_
          refine JO.pur rfl rfl rfl (Pur.pickT rfl rfl) ?_
          refine JO.nil ?_
          refine J.condT rfl rfl ?_
          refine J.exit rfl rfl ?_
          refine J.seq rfl ?_
          refine J.region rfl ?_
          refine JO.pur rfl rfl rfl (Pur.move rfl) ?_
          refine JO.pur rfl rfl rfl (Pur.assign rfl) ?_
          refine JO.pur rfl rfl rfl (Pur.assign rfl) ?_
          refine JO.nil ?_
          refine J.ret rfl rfl ?_
          have hje : j = (many F (ch F i) q) := by
            have h2 := (hmm (j + 1)).1
            by_cases h3 : j + 1 ≤ many F (ch F i) q
            · have h4 := h2 h3; omega
            · omega
          have hv : readF F n q = (upd F i { ch F i with at' := (ch F i).at' + (many F (ch F i) q) }, ((F.bytes.drop (ch F i).at'.toNat).take (many F (ch F i) q)), 0) := by unfold readF; rw [hx]; dsimp only; rw [if_neg hq, if_neg hw]
          rw [← hje] at hv
          refine ⟨_, _, ⟨a9, c9, by rw [hv]; rfl, rfl⟩, rfl, fun h s => ?_⟩
          rw [hv]
          have s1 := rm_take (rs := rs) (cs := F.opens) (i := i) hrg hch s
          have s2 := RA_shut (L := sl byE a9 c9 ((F.bytes.drop (ch F i).at'.toNat).take j) :: L) (p := p) (bs := F.bytes) (nx := F.next) (F := F) (c' := { ch F i with at' := (ch F i).at' + (j : Int) }) (ab := ab) (cb := cb) (ao := ao) (co := co) (ap := r.ap) (cp := r.cp) (am := r.am) (cm := r.cm) hr hrg hch (by simp only [rcOf]; exact SubC.out h s1)
          exact s2.swap
        · try simp only [decide_eq_true_eq, decide_eq_false_iff_not, Bool.not_eq_true', Bool.not_eq_false', Bool.and_eq_true, Bool.or_eq_true, Bool.and_eq_false_iff, Bool.or_eq_false_iff, Option.isNone_some, Option.isSome_some, Option.isNone_none, Option.isSome_none, Int.not_lt, Int.not_le, beq_iff_eq, beq_eq_false_iff_ne, bne_iff_ne, ne_eq, Bool.not_not, Decidable.not_not] at h53
          refine JO.pur rfl rfl rfl (Pur.move rfl) ?_
          refine JO.pur rfl rfl rfl (Pur.move rfl) ?_
          refine JO.pur rfl rfl rfl (Pur.nilCheck rfl) ?_
          refine JO.pur rfl rfl rfl (Pur.fieldAddr rfl) ?_
          refine JO.pur rfl rfl rfl (Pur.load rfl (CellIn.blk rfl)) ?_
          refine JO.pur rfl rfl rfl (Pur.len rfl) ?_
          refine JO.pur rfl rfl rfl (Pur.geq rfl rfl) ?_
          refine JO.pur rfl rfl rfl (Pur.pickF rfl rfl) ?_
          refine JO.nil ?_
          refine J.splitB 61 rfl (fun h61 => ?_) (fun h61 => ?_)
          · try simp only [decide_eq_true_eq, decide_eq_false_iff_not, Bool.not_eq_true', Bool.not_eq_false', Bool.and_eq_true, Bool.or_eq_true, Bool.and_eq_false_iff, Bool.or_eq_false_iff, Option.isNone_some, Option.isSome_some, Option.isNone_none, Option.isSome_none, Int.not_lt, Int.not_le, beq_iff_eq, beq_eq_false_iff_ne, bne_iff_ne, ne_eq, Bool.not_not, Decidable.not_not] at h61
            refine J.condT rfl rfl ?_
            refine J.exit rfl rfl ?_
            refine J.seq rfl ?_
            refine J.region rfl ?_
            refine JO.pur rfl rfl rfl (Pur.move rfl) ?_
            refine JO.pur rfl rfl rfl (Pur.assign rfl) ?_
            refine JO.pur rfl rfl rfl (Pur.assign rfl) ?_
            refine JO.nil ?_
            refine J.ret rfl rfl ?_
            have hje : j = (many F (ch F i) q) := by
              have h2 := (hmm (j + 1)).1
              by_cases h3 : j + 1 ≤ many F (ch F i) q
              · have h4 := h2 h3; omega
              · omega
            have hv : readF F n q = (upd F i { ch F i with at' := (ch F i).at' + (many F (ch F i) q) }, ((F.bytes.drop (ch F i).at'.toNat).take (many F (ch F i) q)), 0) := by unfold readF; rw [hx]; dsimp only; rw [if_neg hq, if_neg hw]
            rw [← hje] at hv
            refine ⟨_, _, ⟨a9, c9, by rw [hv]; rfl, rfl⟩, rfl, fun h s => ?_⟩
            rw [hv]
            have s1 := rm_take (rs := rs) (cs := F.opens) (i := i) hrg hch s
            have s2 := RA_shut (L := sl byE a9 c9 ((F.bytes.drop (ch F i).at'.toNat).take j) :: L) (p := p) (bs := F.bytes) (nx := F.next) (F := F) (c' := { ch F i with at' := (ch F i).at' + (j : Int) }) (ab := ab) (cb := cb) (ao := ao) (co := co) (ap := r.ap) (cp := r.cp) (am := r.am) (cm := r.cm) hr hrg hch (by simp only [rcOf]; exact SubC.out h s1)
            exact s2.swap
          · try simp only [decide_eq_true_eq, decide_eq_false_iff_not, Bool.not_eq_true', Bool.not_eq_false', Bool.and_eq_true, Bool.or_eq_true, Bool.and_eq_false_iff, Bool.or_eq_false_iff, Option.isNone_some, Option.isSome_some, Option.isNone_none, Option.isSome_none, Int.not_lt, Int.not_le, beq_iff_eq, beq_eq_false_iff_ne, bne_iff_ne, ne_eq, Bool.not_not, Decidable.not_not] at h61
            have hj1 : j + 1 ≤ many F (ch F i) q := (hmm (j + 1)).2 (by omega)
            have hbt : F.bytes[(ch F i).at'.toNat + j]? = some (F.bytes[(ch F i).at'.toNat + j]'(by omega)) := List.getElem?_eq_getElem (by omega)
            have htk : ((F.bytes.drop (ch F i).at'.toNat).take (j + 1)) = ((F.bytes.drop (ch F i).at'.toNat).take j) ++ [F.bytes[(ch F i).at'.toNat + j]'(by omega)] := by
              rw [List.take_add_one, List.getElem?_drop, hbt]; rfl
            refine J.condF rfl rfl ?_
            refine J.skip rfl ?_
            refine J.seq rfl ?_
            refine J.region rfl ?_
            refine JO.pur rfl rfl rfl (Pur.move rfl) ?_
            refine JO.pur rfl rfl rfl (Pur.move rfl) ?_
            refine JO.pur rfl rfl rfl (Pur.nilCheck rfl) ?_
            refine JO.pur rfl rfl rfl (Pur.fieldAddr rfl) ?_
            refine JO.pur rfl rfl rfl (Pur.load rfl (CellIn.blk rfl)) ?_
            refine JO.pur rfl rfl rfl (Pur.move rfl) ?_
            refine JO.pur rfl rfl rfl (Pur.idx rfl rfl rfl (by first | rfl | (simp; done) | omega | (rw [List.length_set, hrl])) (show (ch F i).at' + (j : Int) = (((ch F i).at'.toNat + j : Nat) : Int) by omega) (by omega)) ?_
            refine JO.pur rfl rfl rfl (Pur.load rfl (CellIn.el0 rfl hbt rfl)) ?_
            refine JO.setv (u' := .int .u8 ((F.bytes[(ch F i).at'.toNat + j]'(by omega)).toNat : Int)) 69 rfl rfl ?_
            refine JO.eff rfl rfl rfl (Eff.buildSlice byE [F.bytes[(ch F i).at'.toNat + j]'(by omega)] rfl rfl rfl rfl rfl rfl rfl) ?_
            rintro _ _ ⟨b70, rfl, -, rfl⟩
            refine JO.eff rfl rfl rfl (Eff.append rfl rfl rfl rfl (by first | rfl | omega | (simp; done) | (simp; omega)) (by first | rfl | omega | (simp; done) | (simp; omega)) (by decide) (by simp; omega) (by simp; omega) (fun h => by cases h)) ?_
            rintro _ _ ⟨a71, c71, rfl, rfl⟩
            refine JO.pur rfl rfl rfl (Pur.assign rfl) ?_
            refine JO.nil ?_
            refine J.region rfl ?_
            refine JO.pur rfl rfl rfl (Pur.move rfl) ?_
            refine JO.pur rfl rfl rfl (Pur.nilCheck rfl) ?_
            refine JO.pur rfl rfl rfl (Pur.fieldAddr rfl) ?_
            refine JO.pur rfl rfl rfl (Pur.load rfl (CellIn.blk rfl)) ?_
            refine JO.pur rfl rfl rfl (Pur.move rfl) ?_
            refine JO.pur rfl rfl rfl (Pur.idx rfl rfl rfl (by first | rfl | (simp; done) | omega | (rw [List.length_set, hrl])) rfl (by rw [List.length_set, hrl]; omega)) ?_
            refine JO.pur rfl rfl rfl (Pur.fieldAddr rfl) ?_
            refine JO.pur rfl rfl rfl (Pur.load rfl (CellIn.el rfl (by exact List.getElem?_set_self (by rw [hrl]; omega)) rfl)) ?_
            refine JO.setv (u' := .int .i64 ((ch F i).at' + (j : Int))) 79 rfl rfl ?_
            refine JO.pur rfl rfl rfl (Pur.add rfl rfl (wr64 (by omega))) ?_
            refine JO.setv (u' := .int .i64 ((ch F i).at' + ((j + 1 : Nat) : Int))) 80 rfl (congrArg (Value.int .i64) (by omega)) ?_
            refine JO.pur rfl rfl rfl (Pur.idx rfl rfl rfl (by first | rfl | (simp; done) | omega | (rw [List.length_set, hrl])) rfl (by rw [List.length_set, hrl]; omega)) ?_
            refine JO.pur rfl rfl rfl (Pur.fieldAddr rfl) ?_
            refine JO.effN rfl rfl (Eff.storeS (E := rcE) (a := ao) (z := (⟨(ch F i).num, (ch F i).fr, (ch F i).to, ((ch F i).at' + ((j : Nat) : Int)), (ch F i).wr, (ch F i).st, r.ap, (ch F i).pend.length, r.cp, r.am, (ch F i).marks.length, r.cm⟩ : Rc)) (z' := (⟨(ch F i).num, (ch F i).fr, (ch F i).to, ((ch F i).at' + (((j + 1) : Nat) : Int)), (ch F i).wr, (ch F i).st, r.ap, (ch F i).pend.length, r.cp, r.am, (ch F i).marks.length, r.cm⟩ : Rc)) rfl rfl rfl rfl (by exact List.getElem?_set_self (by rw [hrl]; omega)) (.tail (.tail (.tail .head)))) ?_
            rintro _ _ ⟨rfl, rfl⟩
            refine JO.nil ?_
            refine J.inBlock ?_
            refine J.region rfl ?_
            refine JO.pur rfl rfl rfl (Pur.move rfl) ?_
            refine JO.pur rfl rfl rfl (Pur.add rfl rfl (wr64 (by omega))) ?_
            refine JO.pur rfl rfl rfl (Pur.assign rfl) ?_
            refine JO.nil ?_
            exact J.weaken (.cons rfl (by dsimp only; rw [htk, List.length_append]) (.cons rfl (congrArg (Value.int .i64) (by first | rfl | (dsimp only; omega))) (.cons rfl rfl (.cons rfl rfl (.cons rfl rfl .nil))))) (fun h s => by dsimp only; rw [htk]; simp only [List.set_set] at s; exact SubC.out h s) (ih0 (j + 1, a71, c71) hj1 (by dsimp only; omega))
      · try simp only [decide_eq_true_eq, decide_eq_false_iff_not, Bool.not_eq_true', Bool.not_eq_false', Bool.and_eq_true, Bool.or_eq_true, Bool.and_eq_false_iff, Bool.or_eq_false_iff, Option.isNone_some, Option.isSome_some, Option.isNone_none, Option.isSome_none, Int.not_lt, Int.not_le, beq_iff_eq, beq_eq_false_iff_ne, bne_iff_ne, ne_eq, Bool.not_not, Decidable.not_not] at h32
        refine J.condF rfl rfl ?_
        refine J.exit rfl rfl ?_
        refine J.seq rfl ?_
        refine J.region rfl ?_
        refine JO.pur rfl rfl rfl (Pur.move rfl) ?_
        refine JO.pur rfl rfl rfl (Pur.assign rfl) ?_
        refine JO.pur rfl rfl rfl (Pur.assign rfl) ?_
        refine JO.nil ?_
        refine J.ret rfl rfl ?_
        have hje : j = (many F (ch F i) q) := by
          have h2 := (hmm (j + 1)).1
          by_cases h3 : j + 1 ≤ many F (ch F i) q
          · have h4 := h2 h3; omega
          · omega
        have hv : readF F n q = (upd F i { ch F i with at' := (ch F i).at' + (many F (ch F i) q) }, ((F.bytes.drop (ch F i).at'.toNat).take (many F (ch F i) q)), 0) := by unfold readF; rw [hx]; dsimp only; rw [if_neg hq, if_neg hw]
        rw [← hje] at hv
        refine ⟨_, _, ⟨a9, c9, by rw [hv]; rfl, rfl⟩, rfl, fun h s => ?_⟩
        rw [hv]
        have s1 := rm_take (rs := rs) (cs := F.opens) (i := i) hrg hch s
        have s2 := RA_shut (L := sl byE a9 c9 ((F.bytes.drop (ch F i).at'.toNat).take j) :: L) (p := p) (bs := F.bytes) (nx := F.next) (F := F) (c' := { ch F i with at' := (ch F i).at' + (j : Int) }) (ab := ab) (cb := cb) (ao := ao) (co := co) (ap := r.ap) (cp := r.cp) (am := r.am) (cm := r.cm) hr hrg hch (by simp only [rcOf]; exact SubC.out h s1)
        exact s2.swap

theorem rRead_ok {L : List Asn} {p : Nat} {F : Fl} {n : Int} {q : Int} {k : Nat} (g : Hf.Good F k) (hk : k ≤ 100000) : CallS Try.prog 47 [.pointer (some ⟨p, 0, none⟩), .int .i64 n, .int .i64 q].toArray (RA p F :: L) (fun v M => ∃ a' c', v = .tuple #[.slice a' (readF F n q).2.1.length c', .int .i64 (readF F n q).2.2] ∧ M = sl byE a' c' (readF F n q).2.1 :: RA p (readF F n q).1 :: L) := by
  cases hx : ix F n with
  | none => exact rRead_no g hk hx
  | some i => exact rRead_yes g hk hx
end Go.Proofs.Ytgbckamaenapeaa

/- The text HRf7. -/
set_option linter.unusedVariables false
set_option linter.unusedSimpArgs false
set_option maxRecDepth 10000
namespace Go.Proofs.Ytgbckamaenapeaa
open Go Go.KK Hf

theorem rClose_no {L : List Asn} {p : Nat} {F : Fl} {n : Int} {k : Nat} (g : Hf.Good F k) (hk : k ≤ 100000) (hx : ix F n = none) :
    CallS Try.prog 53 [.pointer (some ⟨p, 0, none⟩), .int .i64 n].toArray (RA p F :: L) (fun v M => v = .int .i64 (closeF F n).2 ∧ M = RA p (closeF F n).1 :: L) := by
  refine CallS.ent ?_
  refine CallS.enter Try.func53 rfl rfl rfl rfl rfl ?_
  refine J.seq rfl ?_
  refine RA_open fun ab cb ao co rs hr => ?_
  refine J.region rfl ?_
  refine JO.pur rfl rfl rfl (Pur.assign rfl) ?_
  refine JO.nil ?_
  refine J.seq rfl ?_
  refine J.region rfl ?_
  refine JO.pur rfl rfl rfl (Pur.move rfl) ?_
  refine JO.pur rfl rfl rfl (Pur.move rfl) ?_
  refine JO.effR rfl rfl rfl (Eff.call rfl (rfind_no hr (Nat.le_trans g.ol hk) hx)) ?_
  refine JO.pur rfl rfl rfl (Pur.assign rfl) ?_
  refine JO.nil ?_
  refine J.seq rfl ?_
  refine J.seq rfl ?_
  refine J.region rfl ?_
  refine JO.pur rfl rfl rfl (Pur.move rfl) ?_
  refine JO.pur rfl rfl rfl (Pur.lss rfl rfl) ?_
  refine JO.setv (u' := .bool true) 10 rfl (congrArg Value.bool (rfl)) ?_
  refine JO.nil ?_
  refine J.condT rfl rfl ?_
  refine J.seq rfl ?_
  refine J.region rfl ?_
  refine JO.pur rfl rfl rfl (Pur.assign rfl) ?_
  refine JO.nil ?_
  refine J.ret rfl rfl ?_
  have hv : closeF F n = (F, 5) := by unfold closeF; rw [hx]
  refine ⟨_, _, ⟨rfl, rfl⟩, by rw [hv]; rfl, fun h s => ?_⟩
  rw [hv]
  exact RA_mk (ab := ab) (cb := cb) (ao := ao) (co := co) hr (SubC.out h s)

theorem rClose_yes {L : List Asn} {p : Nat} {F : Fl} {n : Int} {i : Nat} {k : Nat} (g : Hf.Good F k) (hk : k ≤ 100000) (hx : ix F n = some i) :
    CallS Try.prog 53 [.pointer (some ⟨p, 0, none⟩), .int .i64 n].toArray (RA p F :: L) (fun v M => v = .int .i64 (closeF F n).2 ∧ M = RA p (closeF F n).1 :: L) := by
  refine CallS.ent ?_
  refine CallS.enter Try.func53 rfl rfl rfl rfl rfl ?_
  refine J.seq rfl ?_
  refine RA_open fun ab cb ao co rs hr => ?_
  obtain ⟨hil, hch, hnum⟩ := ix_some hx
  obtain ⟨r, hrg⟩ : ∃ r, rs[i]? = some r := ⟨_, List.getElem?_eq_getElem (by omega)⟩
  have hrl := rcL_len hr
  have hrc := rcL_get hrg hch
  have gc := g.gc _ (ch_mem hx)
  have gmk := g.mks _ (ch_mem hx)
  have gb := g.b4
  have gf0 := gc.f0
  have gft := gc.ft
  have gt4 := gc.t4
  have gfa := gc.fa
  have ga4 := gc.at4
  refine J.region rfl ?_
  refine JO.pur rfl rfl rfl (Pur.assign rfl) ?_
  refine JO.nil ?_
  refine J.seq rfl ?_
  refine J.region rfl ?_
  refine JO.pur rfl rfl rfl (Pur.move rfl) ?_
  refine JO.pur rfl rfl rfl (Pur.move rfl) ?_
  refine JO.effR rfl rfl rfl (Eff.call rfl (rfind_yes hr (Nat.le_trans g.ol hk) hx)) ?_
  refine JO.pur rfl rfl rfl (Pur.assign rfl) ?_
  refine JO.nil ?_
  refine J.seq rfl ?_
  refine J.seq rfl ?_
  refine J.region rfl ?_
  refine JO.pur rfl rfl rfl (Pur.move rfl) ?_
  refine JO.pur rfl rfl rfl (Pur.lss rfl rfl) ?_
  refine JO.setv (u' := .bool false) 10 rfl (congrArg Value.bool (by simp)) ?_
  refine JO.nil ?_
  refine J.condF rfl rfl ?_
  refine J.skip rfl ?_
  refine J.seq rfl ?_
  refine J.seq rfl ?_
  refine J.region rfl ?_
  refine JO.pur rfl rfl rfl (Pur.move rfl) ?_
  refine JO.pur rfl rfl rfl (Pur.nilCheck rfl) ?_
  refine JO.pur rfl rfl rfl (Pur.fieldAddr rfl) ?_
  refine JO.pur rfl rfl rfl (Pur.load rfl (CellIn.blk rfl)) ?_
  refine JO.pur rfl rfl rfl (Pur.move rfl) ?_
  refine JO.pur rfl rfl rfl (Pur.idx rfl rfl rfl (by first | rfl | (simp; done) | omega) rfl (by omega)) ?_
  refine JO.pur rfl rfl rfl (Pur.fieldAddr rfl) ?_
  refine JO.pur rfl rfl rfl (Pur.load rfl (CellIn.el rfl hrc rfl)) ?_
  refine JO.setv (u' := .bool (ch F i).wr) 18 rfl rfl ?_
  refine JO.nil ?_
  refine J.splitB 18 rfl (fun h18 => ?_) (fun h18 => ?_)
  · try simp only [decide_eq_true_eq, decide_eq_false_iff_not, Bool.not_eq_true', Bool.not_eq_false', Bool.and_eq_true, Bool.or_eq_true, Bool.and_eq_false_iff, Bool.or_eq_false_iff, Option.isNone_some, Option.isSome_some, Option.isNone_none, Option.isSome_none, Int.not_lt, Int.not_le, beq_iff_eq, beq_eq_false_iff_ne, bne_iff_ne, ne_eq, Bool.not_not, Decidable.not_not] at h18
    have hw : (ch F i).wr = true := h18
    refine J.imp (M := RA p F :: L) (fun h s => RA_mk (ab := ab) (cb := cb) (ao := ao) (co := co) hr (SubC.out h s)) ?_
    refine J.condT rfl rfl ?_
    refine J.region rfl ?_
    refine JO.pur rfl rfl rfl (Pur.move rfl) ?_
    refine JO.pur rfl rfl rfl (Pur.move rfl) ?_
    refine JO.eff rfl rfl rfl (Eff.call rfl (rput_ok g hk hil hw)) ?_
    rintro _ _ ⟨rfl, rfl⟩
    refine JO.nil ?_
    refine J.seq rfl ?_
    first
      | refine J.imp (M := RA p (putF F i) :: L) (fun h s => s) ?_
      | refine J.imp (M := RA p (putF F i) :: L) (fun h s => by rw [hput]; exact RA_mk (ab := ab) (cb := cb) (ao := ao) (co := co) hr (SubC.out h s)) ?_
    obtain ⟨F2, hF2⟩ : ∃ F2, F2 = putF F i := ⟨_, rfl⟩
    rw [← hF2]
    have hol2 : F2.opens.length = F.opens.length := by rw [hF2]; simp [putF]
    have her : F2.opens.eraseIdx i = F.opens.eraseIdx i := by rw [hF2]; simp [putF, List.eraseIdx_set_eq]
    have hb2 : F2.bytes = putB F.bytes (ch F i) := by rw [hF2]; rfl
    have hn2 : F2.next = F.next := by rw [hF2]; rfl
    have gol := g.ol
    refine RA_open fun ab2 cb2 ao2 co2 rs2 hr2 => ?_
    have hrl2 := rcL_len hr2
    refine J.fact (fun h s => SlH.le (a := ao2) (cap := co2) (E := rcE) s) fun hcap => ?_
    refine J.fact (fun h s => SlH.nil (a := ao2) (cap := co2) (E := rcE) s) fun hnl => ?_
    have hne : ¬ ao2 = none := fun e => by
      obtain ⟨e1, e2⟩ := hnl e
      rw [e1] at hrl2; simp at hrl2; omega
    refine J.mask0 (n := 20) [19] rfl Try.mixed rfl (by kernel_rfl) ?_
    refine JM.take 0 (fun _ h => h) rfl (by kernel_rfl) rfl rfl rfl (m' := 1) rfl (Pur.move rfl) ?_
    refine JM.take 2 (fun _ h => h) rfl (by kernel_rfl) rfl rfl rfl (m' := 5) rfl (Pur.move rfl) ?_
    refine JM.take 3 (fun _ h => h) rfl (by kernel_rfl) rfl rfl rfl (m' := 13) rfl (Pur.nilCheck rfl) ?_
    refine JM.take 4 (fun _ h => h) rfl (by kernel_rfl) rfl rfl rfl (m' := 29) rfl (Pur.fieldAddr rfl) ?_
    refine JM.take 5 (fun _ h => h) rfl (by kernel_rfl) rfl rfl rfl (m' := 61) rfl (Pur.load rfl (CellIn.blk rfl)) ?_
    refine JM.take 6 (fun _ h => h) rfl (by kernel_rfl) rfl rfl rfl (m' := 125) rfl (Pur.move rfl) ?_
    refine JM.take 7 (fun _ h => h) rfl (by kernel_rfl) rfl rfl rfl (m' := 253) rfl (Pur.slice0 rfl rfl rfl (by omega)) ?_
    refine JM.take 9 (fun _ h => h) rfl (by kernel_rfl) rfl rfl rfl (m' := 765) rfl (Pur.move rfl) ?_
    refine JM.take 10 (fun _ h => h) rfl (by kernel_rfl) rfl rfl rfl (m' := 1789) rfl (Pur.nilCheck rfl) ?_
    refine JM.take 11 (fun _ h => h) rfl (by kernel_rfl) rfl rfl rfl (m' := 3837) rfl (Pur.fieldAddr rfl) ?_
    refine JM.take 12 (fun _ h => h) rfl (by kernel_rfl) rfl rfl rfl (m' := 7933) rfl (Pur.load rfl (CellIn.blk rfl)) ?_
    refine JM.take 13 (fun _ h => h) rfl (by kernel_rfl) rfl rfl rfl (m' := 16125) rfl (Pur.move rfl) ?_
    refine JM.take 14 (fun _ h => h) rfl (by kernel_rfl) rfl rfl rfl (m' := 32509) rfl (Pur.add rfl rfl (wr64 (by omega))) ?_
    refine JM.take 15 (fun _ h => h) rfl (by kernel_rfl) rfl rfl rfl (m' := 65277) rfl (Pur.slice1 rfl rfl (show (i : Int) + 1 = ((i + 1 : Nat) : Int) by omega) (by omega) (by omega)) ?_
    refine JM.one (i := 1) (by kernel_rfl) ?_
    refine JMi.eff rfl rfl rfl rfl (m' := 65279) rfl (Eff.buildSlice rcE ([] : List Rc) rfl rfl rfl rfl rfl rfl rfl) ?_
    rintro _ _ ⟨b23, rfl, -, rfl⟩
    refine ⟨.inr (fun _ h => h.tail), ?_⟩
    refine JM.one (i := 8) (by kernel_rfl) ?_
    refine JMi.eff rfl rfl rfl rfl (m' := 65535) rfl (Eff.append (ys := (rcL rs2 F2.opens).take i) (hi := SlIn.takeN inferInstance i) rfl rfl rfl rfl rfl (by rw [List.length_take]; omega) (by decide) (by simp; omega) (by simp; omega) (fun e => absurd e hne)) ?_
    rintro _ _ ⟨a30, c30, rfl, rfl⟩
    refine ⟨.inr (fun _ h => h.tail), ?_⟩
    refine JM.one (i := 16) (by kernel_rfl) ?_
    refine JMi.eff rfl rfl rfl rfl (m' := 131071) rfl (Eff.append (ys := (rcL rs2 F2.opens).drop (i + 1)) (hi := SlIn.dropN (cap := co2) inferInstance rfl (i + 1) (fun e => by omega)) rfl rfl rfl rfl (by simp) (by rw [List.length_drop]; omega) (by decide) (by simp; omega) (by simp; omega) (fun e => absurd (tail_none e) hne)) ?_
    rintro _ _ ⟨a38, c38, rfl, rfl⟩
    refine ⟨.inr (fun _ h => h.tail), ?_⟩
    refine JM.take 17 (fun _ h => h.tail) rfl (by kernel_rfl) rfl rfl rfl (m' := 262143) rfl (Pur.nilCheck rfl) ?_
    refine JM.take 18 (fun _ h => h.tail) rfl (by kernel_rfl) rfl rfl rfl (m' := 524287) rfl (Pur.fieldAddr rfl) ?_
    refine JM.one (i := 19) (by kernel_rfl) ?_
    refine JMi.effN rfl rfl rfl (m' := 1048575) rfl (Eff.storeB rfl rfl rfl (.tail .head)) ?_
    rintro _ _ ⟨rfl, rfl⟩
    refine ⟨.inl (by simp), ?_⟩
    refine JM.done rfl ?_
    refine J.seq rfl ?_
    refine J.region rfl ?_
    refine JO.pur rfl rfl rfl (Pur.assign rfl) ?_
    refine JO.nil ?_
    refine J.ret rfl rfl ?_
    have hv : closeF F n = (⟨putB F.bytes (ch F i), F.next, F.opens.eraseIdx i⟩, 0) := by unfold closeF; rw [hx]
    refine ⟨_, _, ⟨rfl, rfl⟩, by rw [hv]; rfl, fun h s => ?_⟩
    rw [hv, ← her, ← hb2, ← hn2]
    have hil2 : i < (rmL rs2 F2.opens).length := by simp [rmL]; omega
    have s1 : Sat h (star (rmL rs2 F2.opens) :: blk p (.cells #[.slice ab2 F2.bytes.length cb2, .slice a38 (([] ++ (rcL rs2 F2.opens).take i).length + ((rcL rs2 F2.opens).drop (i + 1)).length) c38, .int .i64 F2.next] 93) :: sl byE ab2 cb2 F2.bytes :: sl rcE a38 c38 ([] ++ (rcL rs2 F2.opens).take i ++ (rcL rs2 F2.opens).drop (i + 1)) :: L) := SubC.out h s
    have s2 := (star_open (List.getElem?_eq_getElem hil2) s1).tail
    rw [show (rmL rs2 F2.opens).eraseIdx i = rmL (rs2.eraseIdx i) (F2.opens.eraseIdx i) from zip_erase hr2] at s2
    have e1 : [] ++ (rcL rs2 F2.opens).take i ++ (rcL rs2 F2.opens).drop (i + 1) = rcL (rs2.eraseIdx i) (F2.opens.eraseIdx i) := by rw [List.nil_append, ← List.eraseIdx_eq_take_drop_succ]; exact zip_erase hr2
    have e2 : ([] ++ (rcL rs2 F2.opens).take i).length + ((rcL rs2 F2.opens).drop (i + 1)).length = (F2.opens.eraseIdx i).length := by rw [← List.length_append, e1, rcL_len (by simp only [List.length_eraseIdx, hr2])]
    rw [e1, e2] at s2
    refine RA_mk (F := ⟨F2.bytes, F2.next, F2.opens.eraseIdx i⟩) (ab := ab2) (cb := cb2) (ao := a38) (co := c38) (rs := rs2.eraseIdx i) (by simp only [List.length_eraseIdx, hr2]) ?_
    exact SubC.out h s2
  · try simp only [decide_eq_true_eq, decide_eq_false_iff_not, Bool.not_eq_true', Bool.not_eq_false', Bool.and_eq_true, Bool.or_eq_true, Bool.and_eq_false_iff, Bool.or_eq_false_iff, Option.isNone_some, Option.isSome_some, Option.isNone_none, Option.isSome_none, Int.not_lt, Int.not_le, beq_iff_eq, beq_eq_false_iff_ne, bne_iff_ne, ne_eq, Bool.not_not, Decidable.not_not] at h18
    have hput : putF F i = F := by
      have hpe := gc.r1 (by simpa using h18)
      unfold putF putB putC; rw [if_pos hpe, if_pos hpe, upd_same hx]
    refine J.condF rfl rfl ?_
    refine J.skip rfl ?_
    refine J.seq rfl ?_
    first
      | refine J.imp (M := RA p (putF F i) :: L) (fun h s => s) ?_
      | refine J.imp (M := RA p (putF F i) :: L) (fun h s => by rw [hput]; exact RA_mk (ab := ab) (cb := cb) (ao := ao) (co := co) hr (SubC.out h s)) ?_
    obtain ⟨F2, hF2⟩ : ∃ F2, F2 = putF F i := ⟨_, rfl⟩
    rw [← hF2]
    have hol2 : F2.opens.length = F.opens.length := by rw [hF2]; simp [putF]
    have her : F2.opens.eraseIdx i = F.opens.eraseIdx i := by rw [hF2]; simp [putF, List.eraseIdx_set_eq]
    have hb2 : F2.bytes = putB F.bytes (ch F i) := by rw [hF2]; rfl
    have hn2 : F2.next = F.next := by rw [hF2]; rfl
    have gol := g.ol
    refine RA_open fun ab2 cb2 ao2 co2 rs2 hr2 => ?_
    have hrl2 := rcL_len hr2
    refine J.fact (fun h s => SlH.le (a := ao2) (cap := co2) (E := rcE) s) fun hcap => ?_
    refine J.fact (fun h s => SlH.nil (a := ao2) (cap := co2) (E := rcE) s) fun hnl => ?_
    have hne : ¬ ao2 = none := fun e => by
      obtain ⟨e1, e2⟩ := hnl e
      rw [e1] at hrl2; simp at hrl2; omega
    refine J.mask0 (n := 20) [19] rfl Try.mixed rfl (by kernel_rfl) ?_
    refine JM.take 0 (fun _ h => h) rfl (by kernel_rfl) rfl rfl rfl (m' := 1) rfl (Pur.move rfl) ?_
    refine JM.take 2 (fun _ h => h) rfl (by kernel_rfl) rfl rfl rfl (m' := 5) rfl (Pur.move rfl) ?_
    refine JM.take 3 (fun _ h => h) rfl (by kernel_rfl) rfl rfl rfl (m' := 13) rfl (Pur.nilCheck rfl) ?_
    refine JM.take 4 (fun _ h => h) rfl (by kernel_rfl) rfl rfl rfl (m' := 29) rfl (Pur.fieldAddr rfl) ?_
    refine JM.take 5 (fun _ h => h) rfl (by kernel_rfl) rfl rfl rfl (m' := 61) rfl (Pur.load rfl (CellIn.blk rfl)) ?_
    refine JM.take 6 (fun _ h => h) rfl (by kernel_rfl) rfl rfl rfl (m' := 125) rfl (Pur.move rfl) ?_
    refine JM.take 7 (fun _ h => h) rfl (by kernel_rfl) rfl rfl rfl (m' := 253) rfl (Pur.slice0 rfl rfl rfl (by omega)) ?_
    refine JM.take 9 (fun _ h => h) rfl (by kernel_rfl) rfl rfl rfl (m' := 765) rfl (Pur.move rfl) ?_
    refine JM.take 10 (fun _ h => h) rfl (by kernel_rfl) rfl rfl rfl (m' := 1789) rfl (Pur.nilCheck rfl) ?_
    refine JM.take 11 (fun _ h => h) rfl (by kernel_rfl) rfl rfl rfl (m' := 3837) rfl (Pur.fieldAddr rfl) ?_
    refine JM.take 12 (fun _ h => h) rfl (by kernel_rfl) rfl rfl rfl (m' := 7933) rfl (Pur.load rfl (CellIn.blk rfl)) ?_
    refine JM.take 13 (fun _ h => h) rfl (by kernel_rfl) rfl rfl rfl (m' := 16125) rfl (Pur.move rfl) ?_
    refine JM.take 14 (fun _ h => h) rfl (by kernel_rfl) rfl rfl rfl (m' := 32509) rfl (Pur.add rfl rfl (wr64 (by omega))) ?_
    refine JM.take 15 (fun _ h => h) rfl (by kernel_rfl) rfl rfl rfl (m' := 65277) rfl (Pur.slice1 rfl rfl (show (i : Int) + 1 = ((i + 1 : Nat) : Int) by omega) (by omega) (by omega)) ?_
    refine JM.one (i := 1) (by kernel_rfl) ?_
    refine JMi.eff rfl rfl rfl rfl (m' := 65279) rfl (Eff.buildSlice rcE ([] : List Rc) rfl rfl rfl rfl rfl rfl rfl) ?_
    rintro _ _ ⟨b23, rfl, -, rfl⟩
    refine ⟨.inr (fun _ h => h.tail), ?_⟩
    refine JM.one (i := 8) (by kernel_rfl) ?_
    refine JMi.eff rfl rfl rfl rfl (m' := 65535) rfl (Eff.append (ys := (rcL rs2 F2.opens).take i) (hi := SlIn.takeN inferInstance i) rfl rfl rfl rfl rfl (by rw [List.length_take]; omega) (by decide) (by simp; omega) (by simp; omega) (fun e => absurd e hne)) ?_
    rintro _ _ ⟨a30, c30, rfl, rfl⟩
    refine ⟨.inr (fun _ h => h.tail), ?_⟩
    refine JM.one (i := 16) (by kernel_rfl) ?_
    refine JMi.eff rfl rfl rfl rfl (m' := 131071) rfl (Eff.append (ys := (rcL rs2 F2.opens).drop (i + 1)) (hi := SlIn.dropN (cap := co2) inferInstance rfl (i + 1) (fun e => by omega)) rfl rfl rfl rfl (by simp) (by rw [List.length_drop]; omega) (by decide) (by simp; omega) (by simp; omega) (fun e => absurd (tail_none e) hne)) ?_
    rintro _ _ ⟨a38, c38, rfl, rfl⟩
    refine ⟨.inr (fun _ h => h.tail), ?_⟩
    refine JM.take 17 (fun _ h => h.tail) rfl (by kernel_rfl) rfl rfl rfl (m' := 262143) rfl (Pur.nilCheck rfl) ?_
    refine JM.take 18 (fun _ h => h.tail) rfl (by kernel_rfl) rfl rfl rfl (m' := 524287) rfl (Pur.fieldAddr rfl) ?_
    refine JM.one (i := 19) (by kernel_rfl) ?_
    refine JMi.effN rfl rfl rfl (m' := 1048575) rfl (Eff.storeB rfl rfl rfl (.tail .head)) ?_
    rintro _ _ ⟨rfl, rfl⟩
    refine ⟨.inl (by simp), ?_⟩
    refine JM.done rfl ?_
    refine J.seq rfl ?_
    refine J.region rfl ?_
    refine JO.pur rfl rfl rfl (Pur.assign rfl) ?_
    refine JO.nil ?_
    refine J.ret rfl rfl ?_
    have hv : closeF F n = (⟨putB F.bytes (ch F i), F.next, F.opens.eraseIdx i⟩, 0) := by unfold closeF; rw [hx]
    refine ⟨_, _, ⟨rfl, rfl⟩, by rw [hv]; rfl, fun h s => ?_⟩
    rw [hv, ← her, ← hb2, ← hn2]
    have hil2 : i < (rmL rs2 F2.opens).length := by simp [rmL]; omega
    have s1 : Sat h (star (rmL rs2 F2.opens) :: blk p (.cells #[.slice ab2 F2.bytes.length cb2, .slice a38 (([] ++ (rcL rs2 F2.opens).take i).length + ((rcL rs2 F2.opens).drop (i + 1)).length) c38, .int .i64 F2.next] 93) :: sl byE ab2 cb2 F2.bytes :: sl rcE a38 c38 ([] ++ (rcL rs2 F2.opens).take i ++ (rcL rs2 F2.opens).drop (i + 1)) :: L) := SubC.out h s
    have s2 := (star_open (List.getElem?_eq_getElem hil2) s1).tail
    rw [show (rmL rs2 F2.opens).eraseIdx i = rmL (rs2.eraseIdx i) (F2.opens.eraseIdx i) from zip_erase hr2] at s2
    have e1 : [] ++ (rcL rs2 F2.opens).take i ++ (rcL rs2 F2.opens).drop (i + 1) = rcL (rs2.eraseIdx i) (F2.opens.eraseIdx i) := by rw [List.nil_append, ← List.eraseIdx_eq_take_drop_succ]; exact zip_erase hr2
    have e2 : ([] ++ (rcL rs2 F2.opens).take i).length + ((rcL rs2 F2.opens).drop (i + 1)).length = (F2.opens.eraseIdx i).length := by rw [← List.length_append, e1, rcL_len (by simp only [List.length_eraseIdx, hr2])]
    rw [e1, e2] at s2
    refine RA_mk (F := ⟨F2.bytes, F2.next, F2.opens.eraseIdx i⟩) (ab := ab2) (cb := cb2) (ao := a38) (co := c38) (rs := rs2.eraseIdx i) (by simp only [List.length_eraseIdx, hr2]) ?_
    exact SubC.out h s2

theorem rClose_ok {L : List Asn} {p : Nat} {F : Fl} {n : Int} {k : Nat} (g : Hf.Good F k) (hk : k ≤ 100000) : CallS Try.prog 53 [.pointer (some ⟨p, 0, none⟩), .int .i64 n].toArray (RA p F :: L) (fun v M => v = .int .i64 (closeF F n).2 ∧ M = RA p (closeF F n).1 :: L) := by
  cases hx : ix F n with
  | none => exact rClose_no  g hk hx
  | some i => exact rClose_yes  g hk hx
end Go.Proofs.Ytgbckamaenapeaa
