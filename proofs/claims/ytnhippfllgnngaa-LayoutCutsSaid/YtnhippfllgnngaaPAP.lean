/-
  A part of the proof of the claim that this folder bears.
-/
import Derived.Test.YtnhippfllgnngaaPAO
/- The text SE3. -/
set_option linter.unusedVariables false
set_option linter.unusedSimpArgs false
set_option maxRecDepth 10000
namespace Go.Proofs.Ytnhippfllgnngaa
open Go Go.KK Dm

theorem wth_ask {lay : ByteArray} {rs ss : List Rg} (h : rAskV lay lay rs ss ≠ 0) : wthV lay rs ss = rAskV lay lay rs ss := by
  unfold rAskV at h; unfold wthV ask2 rAskV
  by_cases h1 : okL lay
  · by_cases h2 : okD rs ∧ okD ss
    · by_cases h3 : rs.length = ss.length
      · simp [h1, h2, h3] at h
      · have h4 : ¬ ss.length = rs.length := fun e => h3 e.symm
        simp [h1, h2, h3, h4]
    · have h5 : (okD rs → ¬ okD ss) := fun a b => h2 ⟨a, b⟩
      simp [h1, h2, h5]
  · simp [h1]
theorem ask_wth {lay : ByteArray} {rs ss : List Rg} (h : rAskV lay lay rs ss = 0) : okL lay ∧ okD rs ∧ okD ss ∧ rs.length = ss.length := by
  unfold rAskV at h
  by_cases h1 : okL lay
  · by_cases h2 : okD rs ∧ okD ss
    · by_cases h3 : rs.length = ss.length
      · exact ⟨h1, h2.1, h2.2, h3⟩
      · simp [h1, h2, h3] at h
    · have h5 : (okD rs → ¬ okD ss) := fun a b => h2 ⟨a, b⟩
      by_cases h6 : okD rs <;> by_cases h7 : okD ss <;> simp_all
  · simp [h1] at h
theorem wth_in {lay : ByteArray} {rs ss : List Rg} (h : rAskV lay lay rs ss = 0) : wthV lay rs ss = if wiD ss rs then 0 else 2 := by
  obtain ⟨h1, h2, h3, h4⟩ := ask_wth h
  unfold wthV ask2
  by_cases h5 : wiD ss rs <;> simp [h1, h2, h3, h4, h5]
theorem witV_in {rs ss : List Rg} (h2 : okD rs) (h3 : okD ss) (h4 : rs.length = ss.length) : (witV ss rs).1 = decide (wiD ss rs) := by
  unfold witV; rw [if_neg (not_not_intro (two_of h3 h2 h4.symm))]
theorem rRuns {L : List Asn} {lay : ByteArray} {a b : Option Addr} {n cap m cq : Nat} {rs ss : List Rg} [SlIn rgE L a rs] [SlIn rgE L b ss] (hn : n = rs.length) (hm : m = ss.length) :
    CallS Try.prog 61 [.string lay, .agg #[.slice a n cap], .agg #[.slice b m cq]].toArray L (fun v M => ∃ a' c', v = .tuple #[.slice a' (runV lay rs ss).1.length c', .int .i64 (runV lay rs ss).2] ∧ M = sl pairE a' c' (runV lay rs ss).1 :: L) := by
  subst hn
  subst hm
  refine CallS.ent ?_
  refine CallS.enter Try.func61 rfl rfl rfl rfl rfl ?_
  refine J.seq rfl ?_
  refine J.region rfl ?_
  refine JO.eff rfl rfl rfl (Eff.box (cs := [_]) rfl rfl) ?_
  rintro _ _ ⟨b4, rfl, rfl⟩
  refine JO.eff rfl rfl rfl (Eff.box (cs := [_]) rfl rfl) ?_
  rintro _ _ ⟨b5, rfl, rfl⟩
  refine JO.pur rfl rfl rfl (Pur.assign rfl) ?_
  refine JO.pur rfl rfl rfl (Pur.assign rfl) ?_
  refine JO.nil ?_
  refine J.seq rfl ?_
  refine J.seq rfl ?_
  refine J.region rfl ?_
  refine JO.pur rfl rfl rfl (Pur.move rfl) ?_
  refine JO.pur rfl rfl rfl (Pur.move rfl) ?_
  refine JO.pur rfl rfl rfl (Pur.loadA rfl rfl rfl CellsIn.blk) ?_
  refine JO.pur rfl rfl rfl (Pur.loadA rfl rfl rfl CellsIn.blk) ?_
  refine JO.effR rfl rfl rfl (Eff.call rfl (rAsked (lay := lay) (lay2 := lay) (rs := rs) (ss := ss) rfl rfl)) ?_
  refine JO.pur rfl rfl rfl (Pur.assign rfl) ?_
  refine JO.nil ?_
  refine J.seq rfl ?_
  refine J.region rfl ?_
  refine JO.pur rfl rfl rfl (Pur.move rfl) ?_
  refine JO.pur rfl rfl rfl (Pur.neqI rfl rfl) ?_
  refine JO.nil ?_
  refine J.splitB 23 rfl (fun h23 => ?_) (fun h23 => ?_)
  · try simp only [decide_eq_true_eq, decide_eq_false_iff_not, Bool.not_eq_true', Bool.not_eq_false', Bool.and_eq_true, Bool.or_eq_true, Bool.and_eq_false_iff, Bool.or_eq_false_iff, Option.isNone_some, Option.isSome_some, Option.isNone_none, Option.isSome_none, Int.not_lt, Int.not_le, beq_iff_eq, beq_eq_false_iff_ne, bne_iff_ne, ne_eq, Bool.not_not, Decidable.not_not] at h23
    have h23' : rAskV lay lay rs ss ≠ 0 := h23
    refine J.condT rfl rfl ?_
    refine J.seq rfl ?_
    refine J.region rfl ?_
    refine JO.pur rfl rfl rfl (Pur.move rfl) ?_
    refine JO.pur rfl rfl rfl (Pur.assign rfl) ?_
    refine JO.pur rfl rfl rfl (Pur.assign rfl) ?_
    refine JO.nil ?_
    refine J.ret rfl rfl ?_
    have hv : runV lay rs ss = ([], rAskV lay lay rs ss) := by unfold runV; rw [wth_ask h23', if_pos h23']
    refine ⟨_, _, ⟨none, 0, rfl, rfl⟩, by rw [hv]; rfl, fun h s => ?_⟩
    rw [hv]; exact sl_nil_new (SubC.out h s)
  · try simp only [decide_eq_true_eq, decide_eq_false_iff_not, Bool.not_eq_true', Bool.not_eq_false', Bool.and_eq_true, Bool.or_eq_true, Bool.and_eq_false_iff, Bool.or_eq_false_iff, Option.isNone_some, Option.isSome_some, Option.isNone_none, Option.isSome_none, Int.not_lt, Int.not_le, beq_iff_eq, beq_eq_false_iff_ne, bne_iff_ne, ne_eq, Bool.not_not, Decidable.not_not] at h23
    have h23' : rAskV lay lay rs ss = 0 := by simpa using h23
    obtain ⟨g1, g2, g3, hle⟩ := ask_wth h23'
    have hwi := wth_in h23'
    have hc4 := g2.2.2.2
    have hc5 := g3.2.2.2
    have hl3 := g2.2.1
    have hl4 := g3.2.1
    have hol := ord_len2 (isC lay) rs
    refine J.condF rfl rfl ?_
    refine J.skip rfl ?_
    refine J.seq rfl ?_
    refine J.seq rfl ?_
    refine J.region rfl ?_
    refine JO.pur rfl rfl rfl (Pur.loadA rfl rfl rfl CellsIn.blk) ?_
    refine JO.pur rfl rfl rfl (Pur.loadA rfl rfl rfl CellsIn.blk) ?_
    refine JO.effR rfl rfl rfl (Eff.call rfl (r_Within (rs := ss) (ss := rs) rfl rfl)) ?_
    refine JO.pur rfl rfl rfl (Pur.move rfl) ?_
    refine JO.pur rfl rfl rfl (Pur.extract rfl rfl) ?_
    refine JO.setv (u' := .bool (decide (wiD ss rs))) 29 rfl (congrArg Value.bool (witV_in g2 g3 hle)) ?_
    refine JO.pur rfl rfl rfl (Pur.extract rfl rfl) ?_
    refine JO.setv (u' := .int .i64 (witV ss rs).2) 30 rfl rfl ?_
    refine JO.pur rfl rfl rfl (Pur.assign rfl) ?_
    refine JO.pur rfl rfl rfl (Pur.assign rfl) ?_
    refine JO.nil ?_
    refine J.seq rfl ?_
    refine J.region rfl ?_
    refine JO.pur rfl rfl rfl (Pur.move rfl) ?_
    refine JO.pur rfl rfl rfl (Pur.not rfl) ?_
    refine JO.nil ?_
    refine J.splitB 32 rfl (fun h32 => ?_) (fun h32 => ?_)
    · try simp only [decide_eq_true_eq, decide_eq_false_iff_not, Bool.not_eq_true', Bool.not_eq_false', Bool.and_eq_true, Bool.or_eq_true, Bool.and_eq_false_iff, Bool.or_eq_false_iff, Option.isNone_some, Option.isSome_some, Option.isNone_none, Option.isSome_none, Int.not_lt, Int.not_le, beq_iff_eq, beq_eq_false_iff_ne, bne_iff_ne, ne_eq, Bool.not_not, Decidable.not_not] at h32
      have hnw : ¬ wiD ss rs := by simpa using h32
      refine J.condT rfl rfl ?_
      refine J.seq rfl ?_
      refine J.region rfl ?_
      refine JO.pur rfl rfl rfl (Pur.assign rfl) ?_
      refine JO.pur rfl rfl rfl (Pur.assign rfl) ?_
      refine JO.nil ?_
      refine J.ret rfl rfl ?_
      have hv : runV lay rs ss = ([], 2) := by unfold runV; rw [hwi, if_neg hnw, if_pos (by decide)]
      refine ⟨_, _, ⟨none, 0, rfl, rfl⟩, by rw [hv]; rfl, fun h s => ?_⟩
      rw [hv]; exact sl_nil_new (SubC.out h s)
    · try simp only [decide_eq_true_eq, decide_eq_false_iff_not, Bool.not_eq_true', Bool.not_eq_false', Bool.and_eq_true, Bool.or_eq_true, Bool.and_eq_false_iff, Bool.or_eq_false_iff, Option.isNone_some, Option.isSome_some, Option.isNone_none, Option.isSome_none, Int.not_lt, Int.not_le, beq_iff_eq, beq_eq_false_iff_ne, bne_iff_ne, ne_eq, Bool.not_not, Decidable.not_not] at h32
      have hw : wiD ss rs := by simpa using h32
      refine J.condF rfl rfl ?_
      refine J.skip rfl ?_
      refine J.seq rfl ?_
      refine J.region rfl ?_
      refine JO.pur rfl rfl rfl (Pur.move rfl) ?_
      refine JO.pur rfl rfl rfl (Pur.loadA rfl rfl rfl CellsIn.blk) ?_
      refine JO.eff rfl rfl rfl (Eff.call rfl (rorder (rs := rs) rfl g2 g1)) ?_
      rintro _ _ ⟨a35, c35, hs, rfl, rfl⟩
      refine JO.pur rfl rfl rfl (Pur.assign rfl) ?_
      refine JO.nil ?_
      refine J.seq rfl ?_
      refine J.region rfl ?_
      refine JO.pur rfl rfl rfl (Pur.loadA rfl rfl rfl CellsIn.blk) ?_
      refine JO.eff rfl rfl rfl (Eff.call rfl (r_Indexes (rs := ss) rfl)) ?_
      rintro _ _ ⟨a38, c38, hs2, rfl, rfl⟩
      refine JO.pur rfl rfl rfl (Pur.move rfl) ?_
      refine JO.pur rfl rfl rfl (Pur.extract rfl rfl) ?_
      refine JO.pur rfl rfl rfl (Pur.extract rfl rfl) ?_
      refine JO.pur rfl rfl rfl (Pur.assign rfl) ?_
      refine JO.pur rfl rfl rfl (Pur.assign rfl) ?_
      refine JO.nil ?_
      refine J.seq rfl ?_
      refine J.fact (fun h s => RowsR.len (E := intE) (hs := hs) (xss := ordL (isC lay) rs) s) fun hn0 => ?_
      have hh0 := rows_len hn0
      refine J.fact (fun h s => RowsR.len (E := intE) (hs := hs2) (xss := ixsV ss) s) fun hn2 => ?_
      have hh2 := rows_len hn2
      have hv0 : ixsV ss = idx ss := by unfold ixsV; rw [if_pos g3]
      have hil : (ixsV ss).length = cntD ss := by rw [hv0, idx_len]
      have hrw2 : ∀ y ∈ ixsV ss, y.length ≤ 1000000 := fun y hy => by
        rw [hv0] at hy
        have := ((mem_idx g3.2.2.1).1 hy).1
        omega
      refine J.region rfl ?_
      refine JO.pur rfl rfl rfl (Pur.assign rfl) ?_
      refine JO.nil ?_
      refine J.seq rfl ?_
      refine J.seq rfl ?_
      refine J.region rfl ?_
      refine JO.pur rfl rfl rfl (Pur.assign rfl) ?_
      refine JO.nil ?_
      refine J.block rfl ?_
      refine J.loopF (ι := Nat × Option Addr × Nat) (fun q => q.1 ≤ (ordL (isC lay) rs).length) (fun q => [(14, .slice q.2.1 (runsOf (plcsK (isC lay) rs ss q.1)).length q.2.2), (15, .int .i64 (q.1 : Int))]) [(11, _), (12, _)] (fun q => sl pairE q.2.1 q.2.2 (runsOf (plcsK (isC lay) rs ss q.1)) :: sl hE a35 c35 hs :: rows intE hs (ordL (isC lay) rs) :: sl hE a38 c38 hs2 :: rows intE hs2 (ixsV ss) :: L) (fun q => (ordL (isC lay) rs).length - q.1) (0, none, 0) rfl (.cons rfl rfl (.cons rfl rfl .nil)) (.cons rfl rfl (.cons rfl rfl .nil)) (fun h s => by have s2 := sl_nil_new (E := pairE) s; exact SubC.out (L := sl pairE none 0 [] :: _) (M := sl pairE none 0 [] :: _) h s2) (Nat.zero_le _) ?_
      rintro ⟨k, a0, c0⟩ hk ih0
      try dsimp only
      dsimp only at hk
      refine J.seq rfl ?_
      refine J.seq rfl ?_
      refine J.region rfl ?_
      refine JO.pur rfl rfl rfl (Pur.move rfl) ?_
      refine JO.pur rfl rfl rfl (Pur.move rfl) ?_
      refine JO.pur rfl rfl rfl (Pur.len rfl) ?_
      refine JO.pur rfl rfl rfl (Pur.lss rfl rfl) ?_
      refine JO.nil ?_
      refine J.splitB 44 rfl (fun h44 => ?_) (fun h44 => ?_)
      · try simp only [decide_eq_true_eq, decide_eq_false_iff_not, Bool.not_eq_true', Bool.not_eq_false', Bool.and_eq_true, Bool.or_eq_true, Bool.and_eq_false_iff, Bool.or_eq_false_iff, Option.isNone_some, Option.isSome_some, Option.isNone_none, Option.isSome_none, Int.not_lt, Int.not_le, beq_iff_eq, beq_eq_false_iff_ne, bne_iff_ne, ne_eq, Bool.not_not, Decidable.not_not] at h44
        have hkl : k < (ordL (isC lay) rs).length := by omega
        obtain ⟨x, hX⟩ : ∃ x, (ordL (isC lay) rs)[k]? = some x := ⟨_, List.getElem?_eq_getElem hkl⟩
        have hxl := ord_row (List.mem_of_getElem? hX)
        obtain ⟨hd, hH⟩ : ∃ hd, hs[k]? = some hd := ⟨_, List.getElem?_eq_getElem (by omega)⟩
        have hdn := hdr_n hn0 hH hX
        have hpl := plcsK_len (isC lay) rs ss k
        have hrl : (runsOf (plcsK (isC lay) rs ss k)).length ≤ k := Nat.le_trans (runsOf_len _) hpl
        refine J.condT rfl rfl ?_
        refine J.skip rfl ?_
        refine J.seq rfl ?_
        refine J.block rfl ?_
        refine J.seq rfl ?_
        refine J.seq rfl ?_
        refine J.region rfl ?_
        refine JO.pur rfl rfl rfl (Pur.move rfl) ?_
        refine JO.pur rfl rfl rfl (Pur.move rfl) ?_
        refine JO.pur rfl rfl rfl (Pur.move rfl) ?_
        refine JO.pur rfl rfl rfl (Pur.idx rfl rfl rfl (by first | rfl | (simp; done) | omega) rfl (by omega)) ?_
        refine JO.pur rfl rfl rfl (Pur.load rfl (CellIn.el0 rfl hH rfl)) ?_
        refine JO.setv (u' := .slice hd.a hd.n hd.cap) 51 rfl rfl ?_
        refine JO.effR rfl rfl rfl (Eff.call rfl (@rfind _ _ _ _ _ _ _ hs2 (ixsV ss) x inferInstance inferInstance (RowsR.row (E := intE) inferInstance hH hX) (by omega) hdn hrw2 (by omega))) ?_
        refine JO.pur rfl rfl rfl (Pur.lss rfl rfl) ?_
        refine JO.nil ?_
        refine J.splitB 53 rfl (fun h53 => ?_) (fun h53 => ?_)
        · try simp only [decide_eq_true_eq, decide_eq_false_iff_not, Bool.not_eq_true', Bool.not_eq_false', Bool.and_eq_true, Bool.or_eq_true, Bool.and_eq_false_iff, Bool.or_eq_false_iff, Option.isNone_some, Option.isSome_some, Option.isNone_none, Option.isSome_none, Int.not_lt, Int.not_le, beq_iff_eq, beq_eq_false_iff_ne, bne_iff_ne, ne_eq, Bool.not_not, Decidable.not_not] at h53
          have hnm : ¬ x ∈ idx ss := by rw [← hv0]; exact findL_mem.1 h53
          have hst : runsOf (plcsK (isC lay) rs ss (k + 1)) = runsOf (plcsK (isC lay) rs ss k) := by rw [plcsK_no hX hnm]
          refine J.condT rfl rfl ?_
          refine J.exit rfl rfl ?_
          refine J.region rfl ?_
          refine JO.pur rfl rfl rfl (Pur.move rfl) ?_
          refine JO.pur rfl rfl rfl (Pur.add rfl rfl (wr64 (by omega))) ?_
          refine JO.pur rfl rfl rfl (Pur.assign rfl) ?_
          refine JO.nil ?_
          exact J.weaken (.cons rfl (by dsimp only; rw [hst]; try simp) (.cons rfl (congrArg (Value.int .i64) (by first | rfl | (dsimp only; omega))) (.cons rfl rfl (.cons rfl rfl .nil)))) (fun h s => by dsimp only; rw [hst]; exact SubC.out h s) (ih0 (k + 1, a0, c0) (by dsimp only; omega) (by dsimp only; omega))
        · try simp only [decide_eq_true_eq, decide_eq_false_iff_not, Bool.not_eq_true', Bool.not_eq_false', Bool.and_eq_true, Bool.or_eq_true, Bool.and_eq_false_iff, Bool.or_eq_false_iff, Option.isNone_some, Option.isSome_some, Option.isNone_none, Option.isSome_none, Int.not_lt, Int.not_le, beq_iff_eq, beq_eq_false_iff_ne, bne_iff_ne, ne_eq, Bool.not_not, Decidable.not_not] at h53
          have hmm : x ∈ idx ss := Classical.byContradiction fun g => absurd ((findL_mem (l := ixsV ss) (x := x)).2 (by rw [hv0]; exact g)) (by omega)
          have hst0 : runsOf (plcsK (isC lay) rs ss (k + 1)) = runStep (runsOf (plcsK (isC lay) rs ss k)) (k : Int) := by rw [plcsK_yes hX hmm, runsOf_snoc]
          refine J.condF rfl rfl ?_
          refine J.skip rfl ?_
          refine J.seq rfl ?_
          refine J.region rfl ?_
          refine JO.pur rfl rfl rfl (Pur.move rfl) ?_
          refine JO.pur rfl rfl rfl (Pur.len rfl) ?_
          refine JO.pur rfl rfl rfl (Pur.assign rfl) ?_
          refine JO.nil ?_
          refine J.seq rfl ?_
          refine J.quiet rfl Try.mixed (by kernel_rfl) ?_
          refine JQ.pur rfl rfl rfl (Pur.move rfl) ?_
          refine JQ.pur rfl rfl rfl (Pur.gtr rfl rfl) ?_
          refine JQ.pur rfl rfl rfl (Pur.move rfl) ?_
          refine JQ.splitB 58 rfl (fun h58 => ?_) (fun h58 => ?_)
          · try simp only [decide_eq_true_eq, decide_eq_false_iff_not, Bool.not_eq_true', Bool.not_eq_false', Bool.and_eq_true, Bool.or_eq_true, Bool.and_eq_false_iff, Bool.or_eq_false_iff, Option.isNone_some, Option.isSome_some, Option.isNone_none, Option.isSome_none, Int.not_lt, Int.not_le, beq_iff_eq, beq_eq_false_iff_ne, bne_iff_ne, ne_eq, Bool.not_not, Decidable.not_not] at h58
            have hrp : 0 < (runsOf (plcsK (isC lay) rs ss k)).length := by omega
            obtain ⟨p, hp⟩ : ∃ p, (runsOf (plcsK (isC lay) rs ss k))[((runsOf (plcsK (isC lay) rs ss k)).length - 1)]? = some p := ⟨_, List.getElem?_eq_getElem (by omega)⟩
            have hpb := runs_bnd (lo := 0) (hi := 4096) (fun n hn => by have := plcsK_bnd hn; omega) (List.mem_of_getElem? hp)
            have hlk : ((runsOf (plcsK (isC lay) rs ss k)).length : Int) - 1 = ((((runsOf (plcsK (isC lay) rs ss k)).length - 1) : Nat) : Int) := by omega
            refine JQ.pur rfl rfl rfl (Pur.move rfl) ?_
            refine JQ.pur rfl rfl rfl (Pur.move rfl) ?_
            refine JQ.pur rfl rfl rfl (Pur.sub rfl rfl (wr64 (by omega))) ?_
            refine JQ.pur rfl rfl rfl (Pur.idx rfl rfl rfl (by first | rfl | (simp; done) | omega) hlk (by omega)) ?_
            refine JQ.pur rfl rfl rfl (Pur.idxA (k := 0) rfl rfl rfl (by decide)) ?_
            refine JQ.pur rfl rfl rfl (Pur.load rfl (CellIn.el rfl hp rfl)) ?_
            refine JQ.pur rfl rfl rfl (Pur.move rfl) ?_
            refine JQ.pur rfl rfl rfl (Pur.move rfl) ?_
            refine JQ.pur rfl rfl rfl (Pur.sub rfl rfl (wr64 (by omega))) ?_
            refine JQ.pur rfl rfl rfl (Pur.idx rfl rfl rfl (by first | rfl | (simp; done) | omega) hlk (by omega)) ?_
            refine JQ.pur rfl rfl rfl (Pur.idxA (k := 1) rfl rfl rfl (by decide)) ?_
            refine JQ.pur rfl rfl rfl (Pur.load rfl (CellIn.el rfl hp rfl)) ?_
            refine JQ.pur rfl rfl rfl (Pur.add rfl rfl (wr64 (by omega))) ?_
            refine JQ.pur rfl rfl rfl (Pur.move rfl) ?_
            refine JQ.pur rfl rfl rfl (Pur.eqlI rfl rfl) ?_
            refine JQ.pur rfl rfl rfl (Pur.pickT rfl rfl) ?_
            refine JQ.nil ?_
            refine J.splitB 74 rfl (fun h74 => ?_) (fun h74 => ?_)
            · try simp only [decide_eq_true_eq, decide_eq_false_iff_not, Bool.not_eq_true', Bool.not_eq_false', Bool.and_eq_true, Bool.or_eq_true, Bool.and_eq_false_iff, Bool.or_eq_false_iff, Option.isNone_some, Option.isSome_some, Option.isNone_none, Option.isSome_none, Int.not_lt, Int.not_le, beq_iff_eq, beq_eq_false_iff_ne, bne_iff_ne, ne_eq, Bool.not_not, Decidable.not_not] at h74
              have hst := hst0.trans (runStep_hit hp (by simpa using h74 : p.1 + p.2 = (k : Int)))
              refine J.condT rfl rfl ?_
              refine J.mask0 (n := 10) [9] rfl Try.mixed rfl (by kernel_rfl) ?_
              refine JM.take 0 (fun _ h => h) rfl (by kernel_rfl) rfl rfl rfl (m' := 1) rfl (Pur.move rfl) ?_
              refine JM.take 1 (fun _ h => h) rfl (by kernel_rfl) rfl rfl rfl (m' := 3) rfl (Pur.move rfl) ?_
              refine JM.take 2 (fun _ h => h) rfl (by kernel_rfl) rfl rfl rfl (m' := 7) rfl (Pur.sub rfl rfl (wr64 (by omega))) ?_
              refine JM.take 3 (fun _ h => h) rfl (by kernel_rfl) rfl rfl rfl (m' := 15) rfl (Pur.idx rfl rfl rfl (by first | rfl | (simp; done) | omega) hlk (by omega)) ?_
              refine JM.take 4 (fun _ h => h) rfl (by kernel_rfl) rfl rfl rfl (m' := 31) rfl (Pur.idxA (k := 1) rfl rfl rfl (by decide)) ?_
              refine JM.take 5 (fun _ h => h) rfl (by kernel_rfl) rfl rfl rfl (m' := 63) rfl (Pur.load rfl (CellIn.el rfl hp rfl)) ?_
              refine JM.take 6 (fun _ h => h) rfl (by kernel_rfl) rfl rfl rfl (m' := 127) rfl (Pur.add rfl rfl (wr64 (by omega))) ?_
              refine JM.take 7 (fun _ h => h) rfl (by kernel_rfl) rfl rfl rfl (m' := 255) rfl (Pur.idx rfl rfl rfl (by first | rfl | (simp; done) | omega) hlk (by omega)) ?_
              refine JM.take 8 (fun _ h => h) rfl (by kernel_rfl) rfl rfl rfl (m' := 511) rfl (Pur.idxA (k := 1) rfl rfl rfl (by decide)) ?_
              refine JM.one (i := 9) (by kernel_rfl) ?_
              refine JMi.effN rfl rfl rfl (m' := 1023) rfl (Eff.storeS (z' := (p.1, p.2 + 1)) rfl rfl rfl rfl hp (.tail .head)) ?_
              rintro _ _ ⟨rfl, rfl⟩
              refine ⟨.inl (by simp), ?_⟩
              refine JM.done rfl ?_
              refine J.inBlock ?_
              refine J.region rfl ?_
              refine JO.pur rfl rfl rfl (Pur.move rfl) ?_
              refine JO.pur rfl rfl rfl (Pur.add rfl rfl (wr64 (by omega))) ?_
              refine JO.pur rfl rfl rfl (Pur.assign rfl) ?_
              refine JO.nil ?_
              exact J.weaken (.cons rfl (by dsimp only; rw [hst]; try simp) (.cons rfl (congrArg (Value.int .i64) (by first | rfl | (dsimp only; omega))) (.cons rfl rfl (.cons rfl rfl .nil)))) (fun h s => by dsimp only; rw [hst]; exact SubC.out h s) (ih0 (k + 1, a0, c0) (by dsimp only; omega) (by dsimp only; omega))
            · try simp only [decide_eq_true_eq, decide_eq_false_iff_not, Bool.not_eq_true', Bool.not_eq_false', Bool.and_eq_true, Bool.or_eq_true, Bool.and_eq_false_iff, Bool.or_eq_false_iff, Option.isNone_some, Option.isSome_some, Option.isNone_none, Option.isSome_none, Int.not_lt, Int.not_le, beq_iff_eq, beq_eq_false_iff_ne, bne_iff_ne, ne_eq, Bool.not_not, Decidable.not_not] at h74
              have hst := hst0.trans (runStep_new hp (by simpa using h74 : ¬ p.1 + p.2 = (k : Int)))
              refine J.condF rfl rfl ?_
              refine J.region rfl ?_
              refine JO.pur rfl rfl rfl (Pur.move rfl) ?_
              refine JO.pur rfl rfl rfl (Pur.move rfl) ?_
              refine JO.pur rfl rfl rfl (Pur.build (cs := [_, _]) rfl rfl) ?_
              refine JO.eff rfl rfl rfl (Eff.buildSlice pairE [((k : Int), 1)] rfl rfl rfl rfl rfl rfl rfl) ?_
              rintro _ _ ⟨b87, rfl, -, rfl⟩
              refine JO.eff rfl rfl rfl (Eff.append rfl rfl rfl rfl (by first | rfl | omega | (simp; done) | (simp; omega)) (by first | rfl | omega | (simp; done) | (simp; omega)) (by decide) (by first | omega | (simp only [List.length_cons, List.length_nil]; omega) | (simp; omega)) (by first | omega | (simp only [List.length_cons, List.length_nil]; omega) | (simp; omega)) (fun h => by cases h)) ?_
              rintro _ _ ⟨a88, c88, rfl, rfl⟩
              refine JO.pur rfl rfl rfl (Pur.assign rfl) ?_
              refine JO.nil ?_
              refine J.inBlock ?_
              refine J.region rfl ?_
              refine JO.pur rfl rfl rfl (Pur.move rfl) ?_
              refine JO.pur rfl rfl rfl (Pur.add rfl rfl (wr64 (by omega))) ?_
              refine JO.pur rfl rfl rfl (Pur.assign rfl) ?_
              refine JO.nil ?_
              exact J.weaken (.cons rfl (by dsimp only; rw [hst]; try simp) (.cons rfl (congrArg (Value.int .i64) (by first | rfl | (dsimp only; omega))) (.cons rfl rfl (.cons rfl rfl .nil)))) (fun h s => by dsimp only; rw [hst]; exact SubC.out h s) (ih0 (k + 1, a88, c88) (by dsimp only; omega) (by dsimp only; omega))
          · try simp only [decide_eq_true_eq, decide_eq_false_iff_not, Bool.not_eq_true', Bool.not_eq_false', Bool.and_eq_true, Bool.or_eq_true, Bool.and_eq_false_iff, Bool.or_eq_false_iff, Option.isNone_some, Option.isSome_some, Option.isNone_none, Option.isSome_none, Int.not_lt, Int.not_le, beq_iff_eq, beq_eq_false_iff_ne, bne_iff_ne, ne_eq, Bool.not_not, Decidable.not_not] at h58
            have hrz : (runsOf (plcsK (isC lay) rs ss k)).length = 0 := by omega
            have hst := hst0.trans (runStep_nil hrz)
            refine JQ.no rfl rfl rfl ?_
            refine JQ.no rfl rfl rfl ?_
            refine JQ.no rfl rfl rfl ?_
            refine JQ.no rfl rfl rfl ?_
            refine JQ.no rfl rfl rfl ?_
            refine JQ.no rfl rfl rfl ?_
            refine JQ.no rfl rfl rfl ?_
            refine JQ.no rfl rfl rfl ?_
            refine JQ.no rfl rfl rfl ?_
            refine JQ.no rfl rfl rfl ?_
            refine JQ.no rfl rfl rfl ?_
            refine JQ.no rfl rfl rfl ?_
            refine JQ.no rfl rfl rfl ?_
            refine JQ.no rfl rfl rfl ?_
            refine JQ.no rfl rfl rfl ?_
            refine JQ.pur rfl rfl rfl (Pur.pickF rfl rfl) ?_
            refine JQ.nil ?_
            refine J.condF rfl rfl ?_
            refine J.region rfl ?_
            refine JO.pur rfl rfl rfl (Pur.move rfl) ?_
            refine JO.pur rfl rfl rfl (Pur.move rfl) ?_
            refine JO.pur rfl rfl rfl (Pur.build (cs := [_, _]) rfl rfl) ?_
            refine JO.eff rfl rfl rfl (Eff.buildSlice pairE [((k : Int), 1)] rfl rfl rfl rfl rfl rfl rfl) ?_
            rintro _ _ ⟨b87, rfl, -, rfl⟩
            refine JO.eff rfl rfl rfl (Eff.append rfl rfl rfl rfl (by first | rfl | omega | (simp; done) | (simp; omega)) (by first | rfl | omega | (simp; done) | (simp; omega)) (by decide) (by first | omega | (simp only [List.length_cons, List.length_nil]; omega) | (simp; omega)) (by first | omega | (simp only [List.length_cons, List.length_nil]; omega) | (simp; omega)) (fun h => by cases h)) ?_
            rintro _ _ ⟨a88, c88, rfl, rfl⟩
            refine JO.pur rfl rfl rfl (Pur.assign rfl) ?_
            refine JO.nil ?_
            refine J.inBlock ?_
            refine J.region rfl ?_
            refine JO.pur rfl rfl rfl (Pur.move rfl) ?_
            refine JO.pur rfl rfl rfl (Pur.add rfl rfl (wr64 (by omega))) ?_
            refine JO.pur rfl rfl rfl (Pur.assign rfl) ?_
            refine JO.nil ?_
            exact J.weaken (.cons rfl (by dsimp only; rw [hst]; try simp) (.cons rfl (congrArg (Value.int .i64) (by first | rfl | (dsimp only; omega))) (.cons rfl rfl (.cons rfl rfl .nil)))) (fun h s => by dsimp only; rw [hst]; exact SubC.out h s) (ih0 (k + 1, a88, c88) (by dsimp only; omega) (by dsimp only; omega))
      · try simp only [decide_eq_true_eq, decide_eq_false_iff_not, Bool.not_eq_true', Bool.not_eq_false', Bool.and_eq_true, Bool.or_eq_true, Bool.and_eq_false_iff, Bool.or_eq_false_iff, Option.isNone_some, Option.isSome_some, Option.isNone_none, Option.isSome_none, Int.not_lt, Int.not_le, beq_iff_eq, beq_eq_false_iff_ne, bne_iff_ne, ne_eq, Bool.not_not, Decidable.not_not] at h44
        refine J.condF rfl rfl ?_
        refine J.exit rfl rfl ?_
        refine J.seq rfl ?_
        refine J.region rfl ?_
        refine JO.pur rfl rfl rfl (Pur.move rfl) ?_
        refine JO.pur rfl rfl rfl (Pur.assign rfl) ?_
        refine JO.pur rfl rfl rfl (Pur.assign rfl) ?_
        refine JO.nil ?_
        refine J.ret rfl rfl ?_
        have hke : k = (ordL (isC lay) rs).length := by omega
        have hv : runV lay rs ss = (runsOf (plcs (isC lay) rs ss), 0) := by unfold runV; rw [hwi, if_pos hw, if_neg (by decide)]
        refine ⟨_, _, ⟨a0, c0, rfl, rfl⟩, by rw [hv, hke]; rfl, fun h s => ?_⟩
        rw [hke, plcsK_all] at s
        rw [hv]
        exact SubC.out h s

end Go.Proofs.Ytnhippfllgnngaa
