/-
  A part of the proof of the claim that this folder bears.
-/
import Derived.Test.YtnhippfllgnngaaPAN
import Derived.Test.YtnhippfllgnngaaPAP
import Derived.Test.YtnhippfllgnngaaPAO
import Derived.Test.YtnhippfllgnngaaPAM
import Derived.Test.YtnhippfllgnngaaPAA
import Derived.Test.YtnhippfllgnngaaKC
/- The text SM8. -/
set_option linter.unusedVariables false
set_option linter.unusedSimpArgs false
set_option maxRecDepth 10000
namespace Go.Proofs.Ytnhippfllgnngaa
open Go Go.KK Dm

theorem s_Transpose {L : List Asn} {a la : Option Addr} {n cap ln lc : Nat} {rs : List Rg} {hs : List Hdr} {xss : List (List Int)} [SlIn rgE L a rs] [SlIn hE L la hs] [RowsR intE L hs xss] (hn : n = rs.length) (hl : ln = hs.length) :
    CallS Try.prog 43 [.agg #[.slice a n cap, .slice la ln lc]].toArray L (fun w M => ∃ pa pc qa qc hs', w = .tuple #[.agg #[.slice pa (trnS rs xss).1.1.length pc, .slice qa (trnS rs xss).1.2.length qc], .int .i64 (trnS rs xss).2] ∧ M = sl rgE pa pc (trnS rs xss).1.1 :: sl hE qa qc hs' :: rows intE hs' (trnS rs xss).1.2 :: L) := by
  subst hn
  subst hl
  refine CallS.fact (fun h s => RowsR.len (E := intE) (hs := hs) (xss := xss) s) fun hnn => ?_
  have hhl : hs.length = xss.length := rows_len hnn
  refine CallS.ent ?_
  refine CallS.enter Try.func43 rfl rfl rfl rfl rfl ?_
  refine J.seq rfl ?_
  refine J.region rfl ?_
  refine JO.eff rfl rfl rfl (Eff.box (cs := [_, _]) rfl rfl) ?_
  rintro _ _ ⟨b1, rfl, rfl⟩
  refine JO.eff rfl rfl rfl (Eff.alloc (cs := [_, _]) rfl) ?_
  rintro _ _ ⟨b2, rfl, rfl⟩
  refine JO.pur rfl rfl rfl (Pur.assign rfl) ?_
  refine JO.nil ?_
  refine J.seq rfl ?_
  refine J.seq rfl ?_
  refine J.region rfl ?_
  refine JO.pur rfl rfl rfl (Pur.loadA rfl rfl rfl CellsIn.blk) ?_
  refine JO.effR rfl rfl rfl (Eff.call rfl (s_Valid (rs := rs) (hs := hs) (xss := xss) rfl rfl)) ?_
  refine JO.pur rfl rfl rfl (Pur.not rfl) ?_
  refine JO.nil ?_
  refine J.splitB 14 rfl (fun h14 => ?_) (fun h14 => ?_)
  · try simp only [decide_eq_true_eq, decide_eq_false_iff_not, Bool.not_eq_true', Bool.not_eq_false', Bool.and_eq_true, Bool.or_eq_true, Bool.and_eq_false_iff, Bool.or_eq_false_iff, Option.isNone_some, Option.isSome_some, Option.isNone_none, Option.isSome_none, Int.not_lt, Int.not_le, beq_iff_eq, beq_eq_false_iff_ne, bne_iff_ne, ne_eq, Bool.not_not, Decidable.not_not] at h14
    have hns : ¬ okS rs xss := h14
    refine J.condT rfl rfl ?_
    refine J.seq rfl ?_
    refine J.region rfl ?_
    refine JO.pur rfl rfl rfl (Pur.build (cs := [_, _]) rfl rfl) ?_
    refine JO.effN rfl rfl (Eff.storeBA (cs' := [_, _]) rfl rfl (by rfl) (by rfl) (by rfl)) ?_
    rintro _ _ ⟨rfl, rfl⟩
    refine JO.pur rfl rfl rfl (Pur.assign rfl) ?_
    refine JO.nil ?_
    refine J.retC rfl (.cell rfl (ld_agg rfl CellsIn.blk) (.tmp rfl .nil)) ?_
    have hv : trnS rs xss = (([], []), 50) := if_pos hns
    refine ⟨_, _, ⟨none, 0, none, 0, [], rfl, rfl⟩, by rw [hv]; rfl, fun h s => ?_⟩
    rw [hv]; exact sl_nil_new (sl_nil_new (rows_nil (SubC.out h s)))
  · try simp only [decide_eq_true_eq, decide_eq_false_iff_not, Bool.not_eq_true', Bool.not_eq_false', Bool.and_eq_true, Bool.or_eq_true, Bool.and_eq_false_iff, Bool.or_eq_false_iff, Option.isNone_some, Option.isSome_some, Option.isNone_none, Option.isSome_none, Int.not_lt, Int.not_le, beq_iff_eq, beq_eq_false_iff_ne, bne_iff_ne, ne_eq, Bool.not_not, Decidable.not_not] at h14
    have hs0 : okS rs xss := h14
    obtain ⟨tr1, tr2, trk, trl, tri⟩ := tr_facts hs0.1
    have trl3 := trk.2.1
    have hxl4 := hs0.2.1
    have hrl : (xss.map List.reverse).length = xss.length := List.length_map _
    have hall : ∀ y ∈ xss.map List.reverse, (plD (trD rs) y).isSome = true := fun y hy => by obtain ⟨x, hx, rfl⟩ := List.mem_map.1 hy; exact tr_some hs0.1 (okS_some hs0 hx)
    refine J.condF rfl rfl ?_
    refine J.skip rfl ?_
    refine J.seq rfl ?_
    refine J.region rfl ?_
    refine JO.pur rfl rfl rfl (Pur.fieldAddr rfl) ?_
    refine JO.pur rfl rfl rfl (Pur.loadA rfl rfl rfl (CellsIn.sub1 rfl)) ?_
    refine JO.eff rfl rfl rfl (Eff.call rfl (d_Transpose (rs := rs) rfl)) ?_
    rintro _ _ ⟨a19, c19, rfl, rfl⟩
    refine JO.pur rfl rfl rfl (Pur.move rfl) ?_
    refine JO.pur rfl rfl rfl (Pur.extract rfl rfl) ?_
    refine JO.pur rfl rfl rfl (Pur.extract rfl rfl) ?_
    refine JO.eff rfl rfl rfl (Eff.alloc (cs := [_]) rfl) ?_
    rintro _ _ ⟨b4, rfl, rfl⟩
    refine JO.effN rfl rfl (Eff.storeBA (cs' := [_]) rfl rfl (by rfl) (by rfl) (by rfl)) ?_
    rintro _ _ ⟨rfl, rfl⟩
    refine JO.pur rfl rfl rfl (Pur.assign rfl) ?_
    refine JO.nil ?_
    refine J.seq rfl ?_
    refine J.region rfl ?_
    refine JO.pur rfl rfl rfl (Pur.assign rfl) ?_
    refine JO.nil ?_
    refine J.seq rfl ?_
    refine J.seq rfl ?_
    refine J.region rfl ?_
    refine JO.pur rfl rfl rfl (Pur.fieldAddr rfl) ?_
    refine JO.pur rfl rfl rfl (Pur.load rfl (CellIn.blk rfl)) ?_
    refine JO.pur rfl rfl rfl (Pur.len rfl) ?_
    refine JO.pur rfl rfl rfl (Pur.move rfl) ?_
    refine JO.nil ?_
    refine J.block rfl ?_
    refine J.loopF (ι := Nat × Option Addr × Nat × List Hdr) (fun q => q.1 ≤ xss.length ∧ q.2.2.2.length = q.1) (fun q => [(6, .slice q.2.1 q.1 q.2.2.1), (25, .int .i64 (q.1 : Int))]) [(2, _), (4, _), (23, _), (24, _)] (fun q => sl hE q.2.1 q.2.2.1 q.2.2.2 :: rows intE q.2.2.2 ((xss.take (q.1)).map List.reverse) :: blk b4 (.cells #[.slice a19 (trD rs).length c19] 24) :: sl rgE a19 c19 (trD rs) :: blk b2 (.cells #[.slice none 0 0, .slice none 0 0] 27) :: blk b1 (.cells #[.slice a rs.length cap, .slice la hs.length lc] 27) :: L) (fun q => xss.length - q.1) (0, none, 0, []) rfl (.cons rfl rfl (.cons rfl rfl (.cons rfl rfl (.cons rfl rfl .nil)))) (.cons rfl rfl (.cons rfl rfl .nil)) (fun h s => by have s2 := sl_nil_new (E := hE) (rows_nil (E := intE) s); dsimp only; rw [List.take_zero, List.map_nil]; exact SubC.out (L := sl hE none 0 [] :: rows intE [] [] :: _) h s2) ⟨Nat.zero_le _, rfl⟩ ?_
    rintro ⟨k, a6, c6, hs6⟩ ⟨hk, hh6⟩ ih0
    try dsimp only
    dsimp only at hk hh6
    refine J.seq rfl ?_
    refine J.region rfl ?_
    refine JO.pur rfl rfl rfl (Pur.lss rfl rfl) ?_
    refine JO.nil ?_
    refine J.seq rfl ?_
    refine J.splitB 26 rfl (fun h26 => ?_) (fun h26 => ?_)
    · try simp only [decide_eq_true_eq, decide_eq_false_iff_not, Bool.not_eq_true', Bool.not_eq_false', Bool.and_eq_true, Bool.or_eq_true, Bool.and_eq_false_iff, Bool.or_eq_false_iff, Option.isNone_some, Option.isSome_some, Option.isNone_none, Option.isSome_none, Int.not_lt, Int.not_le, beq_iff_eq, beq_eq_false_iff_ne, bne_iff_ne, ne_eq, Bool.not_not, Decidable.not_not] at h26
      have hkl : k < xss.length := by omega
      obtain ⟨x, hX⟩ : ∃ x, xss[k]? = some x := ⟨_, List.getElem?_eq_getElem (by omega)⟩
      obtain ⟨hd, hH⟩ : ∃ hd, hs[k]? = some hd := ⟨_, List.getElem?_eq_getElem (by omega)⟩
      have hdn := hdr_n hnn hH hX
      have hxm := List.mem_of_getElem? hX
      have hxg : xss.getD k [] = x := getD_of' hX
      have htk : xss.take (k + 1) = xss.take k ++ [x] := take_get hX
      have hxl := okS_len hs0 hxm
      have hr3 := hs0.1.2.1
      refine J.fact (fun h s => RowsR.fit (E := intE) (hs := hs) (xss := xss) s hH hX) fun hfit => ?_
      refine J.condT rfl rfl ?_
      refine J.skip rfl ?_
      refine J.seq rfl ?_
      refine J.block rfl ?_
      refine J.seq rfl ?_
      refine J.region rfl ?_
      refine JO.pur rfl rfl rfl (Pur.idx rfl rfl rfl (by first | rfl | (simp; done) | omega) rfl (by omega)) ?_
      refine JO.pur rfl rfl rfl (Pur.load rfl (CellIn.el0 rfl hH rfl)) ?_
      refine JO.setv (u' := .slice hd.a x.length hd.cap) 28 rfl (by rw [← hdn]) ?_
      refine JO.pur rfl rfl rfl (Pur.assign rfl) ?_
      refine JO.nil ?_
      refine J.seq rfl ?_
      refine J.region rfl ?_
      refine JO.pur rfl rfl rfl (Pur.move rfl) ?_
      refine JO.eff rfl rfl rfl (Eff.call rfl (@cloneI _ _ _ _ x (RowsR.row (E := intE) inferInstance hH hX) rfl (by omega) (fun e => by have := hfit.1 e; rw [hdn] at this; exact this))) ?_
      rintro _ _ ⟨a30, c30, ⟨rfl, -⟩, rfl⟩
      refine JO.pur rfl rfl rfl (Pur.assign rfl) ?_
      refine JO.nil ?_
      refine J.seq rfl ?_
      refine J.region rfl ?_
      refine JO.pur rfl rfl rfl (Pur.move rfl) ?_
      refine JO.eff rfl rfl rfl (Eff.call rfl (revI_ok (xs := x) rfl (by omega))) ?_
      rintro _ _ ⟨rfl, rfl⟩
      refine JO.nil ?_
      refine J.region rfl ?_
      refine JO.pur rfl rfl rfl (Pur.move rfl) ?_
      refine JO.pur rfl rfl rfl (Pur.move rfl) ?_
      refine JO.eff rfl rfl rfl (Eff.buildSlice hE [⟨a30, x.length, c30⟩] rfl rfl rfl rfl rfl rfl rfl) ?_
      rintro _ _ ⟨b35, rfl, -, rfl⟩
      refine JO.eff rfl rfl rfl (Eff.append rfl rfl rfl rfl (by first | rfl | omega | (simp; done) | (simp; omega)) (by first | rfl | omega | (simp; done) | (simp; omega)) (by decide) (by simp; omega) (by simp; omega) (fun h => by cases h)) ?_
      rintro _ _ ⟨a36, c36, rfl, rfl⟩
      refine JO.pur rfl rfl rfl (Pur.assign rfl) ?_
      refine JO.nil ?_
      refine J.inBlock ?_
      refine J.region rfl ?_
      refine JO.pur rfl rfl rfl (Pur.add rfl rfl (wr64 (by omega))) ?_
      refine JO.pur rfl rfl rfl (Pur.move rfl) ?_
      refine JO.nil ?_
      exact J.weaken (.cons rfl (by show Value.slice a36 _ c36 = Value.slice a36 (k + 1) c36; simp [hh6]) (.cons rfl (congrArg (Value.int .i64) (by first | rfl | (dsimp only; omega))) (.cons rfl rfl (.cons rfl rfl (.cons rfl rfl (.cons rfl rfl .nil)))))) (fun h s => by have s2 := snoc_row (E := intE) (a := a30) (n := x.length) (cap := c30) (xs := x.reverse) (hs := hs6) (xss := (xss.take k).map List.reverse) (by simp) s; dsimp only; rw [htk, List.map_append, List.map_singleton]; exact SubC.out h s2) (ih0 (k + 1, a36, c36, hs6 ++ [⟨a30, x.length, c30⟩]) ⟨by dsimp only; omega, by dsimp only; simp [hh6]⟩ (by dsimp only; omega))
    · try simp only [decide_eq_true_eq, decide_eq_false_iff_not, Bool.not_eq_true', Bool.not_eq_false', Bool.and_eq_true, Bool.or_eq_true, Bool.and_eq_false_iff, Bool.or_eq_false_iff, Option.isNone_some, Option.isSome_some, Option.isNone_none, Option.isSome_none, Int.not_lt, Int.not_le, beq_iff_eq, beq_eq_false_iff_ne, bne_iff_ne, ne_eq, Bool.not_not, Decidable.not_not] at h26
      have hke : k = xss.length := by omega
      subst hke
      rw [List.take_length]
      refine J.condF rfl rfl ?_
      refine J.exit rfl rfl ?_
      refine J.seq rfl ?_
      refine J.region rfl ?_
      refine JO.pur rfl rfl rfl (Pur.loadA rfl rfl rfl CellsIn.blk) ?_
      refine JO.pur rfl rfl rfl (Pur.move rfl) ?_
      refine JO.eff rfl rfl rfl (Eff.call rfl (s_places (rs := (trD rs)) (hs := hs6) (xss := (xss.map List.reverse)) rfl hh6.symm (by omega))) ?_
      rintro _ _ ⟨es, yss, a41, c41, rfl, rfl, hpl⟩
      refine JO.pur rfl rfl rfl (Pur.move rfl) ?_
      refine JO.pur rfl rfl rfl (Pur.extract rfl rfl) ?_
      refine JO.pur rfl rfl rfl (Pur.extract rfl rfl) ?_
      refine JO.pur rfl rfl rfl (Pur.assign rfl) ?_
      refine JO.pur rfl rfl rfl (Pur.assign rfl) ?_
      refine JO.nil ?_
      refine J.seq rfl ?_
      have hpv : (plcV (trD rs) (xss.map List.reverse)).2 = true := by rw [plcV_yes fun y hy => (plV_ok trk y).1.2 (hall y hy)]
      obtain ⟨he1, hp1, hsr⟩ := hpl hpv
      obtain ⟨hT1, -, -⟩ := trn_made hs0 hp1 (srt_pw (r := fun a b => a ≤ b) he1 hsr)
      have hel : es.length = yss.length := by have := congrArg List.length he1; simpa using this
      have hyl : yss.length = xss.length := by rw [hp1.length_eq, hrl]
      refine J.mask0 (n := 6) [4] rfl Try.mixed rfl (by kernel_rfl) ?_
      refine JM.take 0 (fun _ h => h) rfl (by kernel_rfl) rfl rfl rfl (m' := 1) rfl (Pur.loadA rfl rfl rfl CellsIn.blk) ?_
      refine JM.take 1 (fun _ h => h) rfl (by kernel_rfl) rfl rfl rfl (m' := 3) rfl (Pur.move rfl) ?_
      refine JM.one (i := 2) (by kernel_rfl) ?_
      refine JMi.eff rfl rfl rfl rfl (m' := 7) rfl (Eff.call rfl (list_ok (es := es) rfl (by omega))) ?_
      rintro _ _ ⟨a46, c46, rfl, rfl⟩
      refine ⟨.inr (fun _ h => h.tail), ?_⟩
      refine JM.take 3 (fun _ h => h.tail) rfl (by kernel_rfl) rfl rfl rfl (m' := 15) rfl (Pur.build (cs := [_, _]) rfl rfl) ?_
      refine JM.one (i := 4) (by kernel_rfl) ?_
      refine JMi.effN rfl rfl rfl (m' := 31) rfl (Eff.storeBA (cs' := [_, _]) rfl rfl (by rfl) (by rfl) (by rfl)) ?_
      rintro _ _ ⟨rfl, rfl⟩
      refine ⟨.inl (by simp), ?_⟩
      refine JM.takeF 5 (.inl (by kernel_rfl)) rfl (by kernel_rfl) rfl rfl rfl (m' := 63) rfl (Pur.assign rfl) ?_
      refine JM.done rfl ?_
      refine J.retC rfl (.cell rfl (ld_agg rfl CellsIn.blk) (.tmp rfl .nil)) ?_
      have hv : trnS rs xss = ((trD rs, yss), 0) := by unfold trnS; rw [if_neg (not_not_intro hs0), hT1]
      refine ⟨_, _, ⟨a19, c19, a46, c46, es.map (·.2), rfl, rfl⟩, by rw [hv]; dsimp only; rw [← hel]; rfl, fun h s => ?_⟩
      rw [hv]
      exact SubC.out h s

theorem rs_Transpose {L : List Asn} {a la : Option Addr} {n cap ln lc : Nat} {rs : List Rg} {hs : List Hdr} {xss : List (List Int)} [SlIn rgE L a rs] [SlIn hE L la hs] [RowsR intE L hs xss] (hn : n = rs.length) (hl : ln = hs.length) :
    CallS Try.prog 44 [.agg #[.slice a n cap, .slice la ln lc]].toArray L (fun w M => ∃ pa pc qa qc hs', w = .tuple #[.agg #[.slice pa (trnS rs xss).1.1.length pc, .slice qa (trnS rs xss).1.2.length qc], .int .i64 (trnS rs xss).2] ∧ M = sl rgE pa pc (trnS rs xss).1.1 :: sl hE qa qc hs' :: rows intE hs' (trnS rs xss).1.2 :: L) := by
  subst hn
  subst hl
  refine CallS.fact (fun h s => RowsR.len (E := intE) (hs := hs) (xss := xss) s) fun hnn => ?_
  have hhl : hs.length = xss.length := rows_len hnn
  refine CallS.ent ?_
  refine CallS.enter Try.func44 rfl rfl rfl rfl rfl ?_
  refine J.seq rfl ?_
  refine J.region rfl ?_
  refine JO.eff rfl rfl rfl (Eff.box (cs := [_, _]) rfl rfl) ?_
  rintro _ _ ⟨b1, rfl, rfl⟩
  refine JO.eff rfl rfl rfl (Eff.alloc (cs := [_, _]) rfl) ?_
  rintro _ _ ⟨b2, rfl, rfl⟩
  refine JO.pur rfl rfl rfl (Pur.assign rfl) ?_
  refine JO.nil ?_
  refine J.seq rfl ?_
  refine J.seq rfl ?_
  refine J.region rfl ?_
  refine JO.pur rfl rfl rfl (Pur.loadA rfl rfl rfl CellsIn.blk) ?_
  refine JO.effR rfl rfl rfl (Eff.call rfl (rs_Valid (rs := rs) (hs := hs) (xss := xss) rfl rfl)) ?_
  refine JO.pur rfl rfl rfl (Pur.not rfl) ?_
  refine JO.nil ?_
  refine J.splitB 14 rfl (fun h14 => ?_) (fun h14 => ?_)
  · try simp only [decide_eq_true_eq, decide_eq_false_iff_not, Bool.not_eq_true', Bool.not_eq_false', Bool.and_eq_true, Bool.or_eq_true, Bool.and_eq_false_iff, Bool.or_eq_false_iff, Option.isNone_some, Option.isSome_some, Option.isNone_none, Option.isSome_none, Int.not_lt, Int.not_le, beq_iff_eq, beq_eq_false_iff_ne, bne_iff_ne, ne_eq, Bool.not_not, Decidable.not_not] at h14
    have hns : ¬ okS rs xss := h14
    refine J.condT rfl rfl ?_
    refine J.seq rfl ?_
    refine J.region rfl ?_
    refine JO.pur rfl rfl rfl (Pur.build (cs := [_, _]) rfl rfl) ?_
    refine JO.effN rfl rfl (Eff.storeBA (cs' := [_, _]) rfl rfl (by rfl) (by rfl) (by rfl)) ?_
    rintro _ _ ⟨rfl, rfl⟩
    refine JO.pur rfl rfl rfl (Pur.assign rfl) ?_
    refine JO.nil ?_
    refine J.retC rfl (.cell rfl (ld_agg rfl CellsIn.blk) (.tmp rfl .nil)) ?_
    have hv : trnS rs xss = (([], []), 50) := if_pos hns
    refine ⟨_, _, ⟨none, 0, none, 0, [], rfl, rfl⟩, by rw [hv]; rfl, fun h s => ?_⟩
    rw [hv]; exact sl_nil_new (sl_nil_new (rows_nil (SubC.out h s)))
  · try simp only [decide_eq_true_eq, decide_eq_false_iff_not, Bool.not_eq_true', Bool.not_eq_false', Bool.and_eq_true, Bool.or_eq_true, Bool.and_eq_false_iff, Bool.or_eq_false_iff, Option.isNone_some, Option.isSome_some, Option.isNone_none, Option.isSome_none, Int.not_lt, Int.not_le, beq_iff_eq, beq_eq_false_iff_ne, bne_iff_ne, ne_eq, Bool.not_not, Decidable.not_not] at h14
    have hs0 : okS rs xss := h14
    obtain ⟨tr1, tr2, trk, trl, tri⟩ := tr_facts hs0.1
    have trl3 := trk.2.1
    have hxl4 := hs0.2.1
    have hrl : (xss.map List.reverse).length = xss.length := List.length_map _
    have hall : ∀ y ∈ xss.map List.reverse, (plD (trD rs) y).isSome = true := fun y hy => by obtain ⟨x, hx, rfl⟩ := List.mem_map.1 hy; exact tr_some hs0.1 (okS_some hs0 hx)
    refine J.condF rfl rfl ?_
    refine J.skip rfl ?_
    refine J.seq rfl ?_
    refine J.region rfl ?_
    refine JO.pur rfl rfl rfl (Pur.fieldAddr rfl) ?_
    refine JO.pur rfl rfl rfl (Pur.loadA rfl rfl rfl (CellsIn.sub1 rfl)) ?_
    refine JO.eff rfl rfl rfl (Eff.call rfl (r_Transpose (rs := rs) rfl)) ?_
    rintro _ _ ⟨a19, c19, rfl, rfl⟩
    refine JO.pur rfl rfl rfl (Pur.move rfl) ?_
    refine JO.pur rfl rfl rfl (Pur.extract rfl rfl) ?_
    refine JO.pur rfl rfl rfl (Pur.extract rfl rfl) ?_
    refine JO.eff rfl rfl rfl (Eff.alloc (cs := [_]) rfl) ?_
    rintro _ _ ⟨b4, rfl, rfl⟩
    refine JO.effN rfl rfl (Eff.storeBA (cs' := [_]) rfl rfl (by rfl) (by rfl) (by rfl)) ?_
    rintro _ _ ⟨rfl, rfl⟩
    refine JO.pur rfl rfl rfl (Pur.assign rfl) ?_
    refine JO.nil ?_
    refine J.seq rfl ?_
    refine J.region rfl ?_
    refine JO.pur rfl rfl rfl (Pur.assign rfl) ?_
    refine JO.nil ?_
    refine J.seq rfl ?_
    refine J.seq rfl ?_
    refine J.region rfl ?_
    refine JO.pur rfl rfl rfl (Pur.assign rfl) ?_
    refine JO.nil ?_
    refine J.block rfl ?_
    refine J.loopF (ι := Nat × Option Addr × Nat) (fun q => q.1 ≤ xss.length) (fun q => [(6, .slice q.2.1 q.1 q.2.2), (7, .int .i64 (q.1 : Int))]) [(1, _), (2, _), (4, _)] (fun q => sl intE q.2.1 q.2.2 (((xss.take (q.1)).map List.reverse).map (atS (trD rs))) :: blk b4 (.cells #[.slice a19 (trD rs).length c19] 24) :: sl rgE a19 c19 (trD rs) :: blk b2 (.cells #[.slice none 0 0, .slice none 0 0] 27) :: blk b1 (.cells #[.slice a rs.length cap, .slice la hs.length lc] 27) :: L) (fun q => xss.length - q.1) (0, none, 0) rfl (.cons rfl rfl (.cons rfl rfl (.cons rfl rfl .nil))) (.cons rfl rfl (.cons rfl rfl .nil)) (fun h s => by have s2 := sl_nil_new (E := intE) s; dsimp only; rw [List.take_zero, List.map_nil, List.map_nil]; exact SubC.out (L := sl intE none 0 [] :: _) h s2) (Nat.zero_le _) ?_
    rintro ⟨k, a6, c6⟩ hk ihk
    try dsimp only
    dsimp only at hk
    have htl : (((xss.take (k)).map List.reverse).map (atS (trD rs))).length = k := by simp; omega
    refine J.seq rfl ?_
    refine J.seq rfl ?_
    refine J.region rfl ?_
    refine JO.pur rfl rfl rfl (Pur.move rfl) ?_
    refine JO.pur rfl rfl rfl (Pur.fieldAddr rfl) ?_
    refine JO.pur rfl rfl rfl (Pur.load rfl (CellIn.blk rfl)) ?_
    refine JO.pur rfl rfl rfl (Pur.len rfl) ?_
    refine JO.pur rfl rfl rfl (Pur.lss rfl rfl) ?_
    refine JO.nil ?_
    refine J.splitB 26 rfl (fun h26 => ?_) (fun h26 => ?_)
    · try simp only [decide_eq_true_eq, decide_eq_false_iff_not, Bool.not_eq_true', Bool.not_eq_false', Bool.and_eq_true, Bool.or_eq_true, Bool.and_eq_false_iff, Bool.or_eq_false_iff, Option.isNone_some, Option.isSome_some, Option.isNone_none, Option.isSome_none, Int.not_lt, Int.not_le, beq_iff_eq, beq_eq_false_iff_ne, bne_iff_ne, ne_eq, Bool.not_not, Decidable.not_not] at h26
      have hkl : k < xss.length := by omega
      obtain ⟨x, hX⟩ : ∃ x, xss[k]? = some x := ⟨_, List.getElem?_eq_getElem (by omega)⟩
      obtain ⟨hd, hH⟩ : ∃ hd, hs[k]? = some hd := ⟨_, List.getElem?_eq_getElem (by omega)⟩
      have hdn := hdr_n hnn hH hX
      have hxm := List.mem_of_getElem? hX
      have hxg : xss.getD k [] = x := getD_of' hX
      have htk : xss.take (k + 1) = xss.take k ++ [x] := take_get hX
      have hxl := okS_len hs0 hxm
      have hr3 := hs0.1.2.1
      have hpv := (plV_ok trk x.reverse).2 (tr_some hs0.1 (okS_some hs0 hxm))
      refine J.condT rfl rfl ?_
      refine J.skip rfl ?_
      refine J.seq rfl ?_
      refine J.block rfl ?_
      refine J.seq rfl ?_
      refine J.region rfl ?_
      refine JO.pur rfl rfl rfl (Pur.assign rfl) ?_
      refine JO.nil ?_
      refine J.seq rfl ?_
      refine J.seq rfl ?_
      refine J.region rfl ?_
      refine JO.pur rfl rfl rfl (Pur.fieldAddr rfl) ?_
      refine JO.pur rfl rfl rfl (Pur.load rfl (CellIn.blk rfl)) ?_
      refine JO.pur rfl rfl rfl (Pur.move rfl) ?_
      refine JO.pur rfl rfl rfl (Pur.idx rfl rfl rfl (by first | rfl | (simp; done) | omega) rfl (by omega)) ?_
      refine JO.pur rfl rfl rfl (Pur.load rfl (CellIn.el0 rfl hH rfl)) ?_
      refine JO.setv (u' := .slice hd.a x.length hd.cap) 33 rfl (by rw [← hdn]) ?_
      refine JO.pur rfl rfl rfl (Pur.len rfl) ?_
      refine JO.pur rfl rfl rfl (Pur.sub rfl rfl (wr64 (by omega))) ?_
      refine JO.pur rfl rfl rfl (Pur.assign rfl) ?_
      refine JO.nil ?_
      refine J.block rfl ?_
      refine J.loopF (ι := Nat × Option Addr × Nat) (fun q => q.1 ≤ x.length) (fun q => [(8, .slice q.2.1 (x.length - q.1) q.2.2), (9, .int .i64 ((q.1 : Int) - 1))]) [(1, _), (2, _), (4, _), (6, _), (7, _)] (fun q => sl intE q.2.1 q.2.2 (x.drop q.1).reverse :: sl intE a6 c6 (((xss.take (k)).map List.reverse).map (atS (trD rs))) :: blk b4 (.cells #[.slice a19 (trD rs).length c19] 24) :: sl rgE a19 c19 (trD rs) :: blk b2 (.cells #[.slice none 0 0, .slice none 0 0] 27) :: blk b1 (.cells #[.slice a rs.length cap, .slice la hs.length lc] 27) :: L) (fun q => q.1) (x.length, none, 0) rfl (.cons rfl rfl (.cons rfl rfl (.cons rfl rfl (.cons rfl rfl (.cons rfl rfl .nil))))) (.cons rfl (by dsimp only; rw [Nat.sub_self]) (.cons rfl rfl .nil)) (fun h s => by have s2 := sl_nil_new (E := intE) s; dsimp only; rw [List.drop_length, List.reverse_nil]; exact SubC.out (L := sl intE none 0 [] :: _) h s2) (Nat.le_refl _) ?_
      rintro ⟨j, a8, c8⟩ hj ihj
      try dsimp only
      dsimp only at hj
      have hdl : (x.drop j).reverse.length = x.length - j := by rw [List.length_reverse, List.length_drop]
      refine J.seq rfl ?_
      refine J.seq rfl ?_
      refine J.region rfl ?_
      refine JO.pur rfl rfl rfl (Pur.move rfl) ?_
      refine JO.pur rfl rfl rfl (Pur.geq rfl rfl) ?_
      refine JO.nil ?_
      refine J.splitB 37 rfl (fun h37 => ?_) (fun h37 => ?_)
      · try simp only [decide_eq_true_eq, decide_eq_false_iff_not, Bool.not_eq_true', Bool.not_eq_false', Bool.and_eq_true, Bool.or_eq_true, Bool.and_eq_false_iff, Bool.or_eq_false_iff, Option.isNone_some, Option.isSome_some, Option.isNone_none, Option.isSome_none, Int.not_lt, Int.not_le, beq_iff_eq, beq_eq_false_iff_ne, bne_iff_ne, ne_eq, Bool.not_not, Decidable.not_not] at h37
        have hj1 : 1 ≤ j := by omega
        have hjc : (j : Int) - 1 = ((j - 1 : Nat) : Int) := by omega
        have hst : (x.drop (j - 1)).reverse = (x.drop j).reverse ++ [x.getD (j - 1) 0] := by rw [List.drop_eq_getElem_cons (by omega), List.reverse_cons, show j - 1 + 1 = j by omega, List.getD_eq_getElem?_getD, List.getElem?_eq_getElem (by omega)]; rfl
        refine J.condT rfl rfl ?_
        refine J.skip rfl ?_
        refine J.seq rfl ?_
        refine J.block rfl ?_
        refine J.region rfl ?_
        refine JO.pur rfl rfl rfl (Pur.move rfl) ?_
        refine JO.pur rfl rfl rfl (Pur.fieldAddr rfl) ?_
        refine JO.pur rfl rfl rfl (Pur.load rfl (CellIn.blk rfl)) ?_
        refine JO.pur rfl rfl rfl (Pur.move rfl) ?_
        refine JO.pur rfl rfl rfl (Pur.idx rfl rfl rfl (by first | rfl | (simp; done) | omega) rfl (by omega)) ?_
        refine JO.pur rfl rfl rfl (Pur.load rfl (CellIn.el0 rfl hH rfl)) ?_
        refine JO.setv (u' := .slice hd.a x.length hd.cap) 45 rfl (by rw [← hdn]) ?_
        refine JO.pur rfl rfl rfl (Pur.move rfl) ?_
        refine JO.pur rfl rfl rfl (Pur.idx (hs := (RowsR.row (E := intE) inferInstance hH hX)) rfl rfl rfl (by first | rfl | (simp; done) | omega) hjc (by omega)) ?_
        refine JO.pur rfl rfl rfl (Pur.load rfl (CellIn.el0 (hh := (RowsR.row (E := intE) inferInstance hH hX)) rfl (getD_at' 0 (by omega)) rfl)) ?_
        refine JO.setv (u' := .int .i64 (x.getD (j - 1) 0)) 48 rfl rfl ?_
        refine JO.eff rfl rfl rfl (Eff.buildSlice intE [x.getD (j - 1) 0] rfl rfl rfl rfl rfl rfl rfl) ?_
        rintro _ _ ⟨b49, rfl, -, rfl⟩
        refine JO.eff rfl rfl rfl (Eff.append rfl rfl rfl rfl (by first | rfl | omega | (simp; done) | (simp; omega)) (by first | rfl | omega | (simp; done) | (simp; omega)) (by decide) (by simp; omega) (by simp; omega) (fun h => by cases h)) ?_
        rintro _ _ ⟨a50, c50, rfl, rfl⟩
        refine JO.pur rfl rfl rfl (Pur.assign rfl) ?_
        refine JO.nil ?_
        refine J.inBlock ?_
        refine J.region rfl ?_
        refine JO.pur rfl rfl rfl (Pur.move rfl) ?_
        refine JO.pur rfl rfl rfl (Pur.sub rfl rfl (wr64 (by omega))) ?_
        refine JO.pur rfl rfl rfl (Pur.assign rfl) ?_
        refine JO.nil ?_
        exact J.weaken (.cons rfl (by show Value.slice a50 _ c50 = Value.slice a50 (x.length - (j - 1)) c50; rw [hdl, List.length_singleton]; congr 1; omega) (.cons rfl (congrArg (Value.int .i64) (by dsimp only; omega)) (.cons rfl rfl (.cons rfl rfl (.cons rfl rfl (.cons rfl rfl (.cons rfl rfl .nil))))))) (fun h s => by dsimp only; rw [hst]; exact SubC.out h s) (ihj (j - 1, a50, c50) (by dsimp only; omega) (by dsimp only; omega))
      · try simp only [decide_eq_true_eq, decide_eq_false_iff_not, Bool.not_eq_true', Bool.not_eq_false', Bool.and_eq_true, Bool.or_eq_true, Bool.and_eq_false_iff, Bool.or_eq_false_iff, Option.isNone_some, Option.isSome_some, Option.isNone_none, Option.isSome_none, Int.not_lt, Int.not_le, beq_iff_eq, beq_eq_false_iff_ne, bne_iff_ne, ne_eq, Bool.not_not, Decidable.not_not] at h37
        have hj0 : j = 0 := by omega
        subst hj0
        rw [List.drop_zero, Nat.sub_zero]
        refine J.condF rfl rfl ?_
        refine J.exit rfl rfl ?_
        refine J.seq rfl ?_
        refine J.region rfl ?_
        refine JO.pur rfl rfl rfl (Pur.loadA rfl rfl rfl CellsIn.blk) ?_
        refine JO.pur rfl rfl rfl (Pur.move rfl) ?_
        refine JO.effR rfl rfl rfl (Eff.call rfl (r_Place (rs := (trD rs)) (x := x.reverse) rfl (by rw [List.length_reverse]))) ?_
        rw [hpv]
        refine JO.pur rfl rfl rfl (Pur.move rfl) ?_
        refine JO.pur rfl rfl rfl (Pur.extract rfl rfl) ?_
        refine JO.pur rfl rfl rfl (Pur.extract rfl rfl) ?_
        refine JO.pur rfl rfl rfl (Pur.assign rfl) ?_
        refine JO.pur rfl rfl rfl (Pur.assign rfl) ?_
        refine JO.nil ?_
        refine J.region rfl ?_
        refine JO.pur rfl rfl rfl (Pur.move rfl) ?_
        refine JO.pur rfl rfl rfl (Pur.move rfl) ?_
        refine JO.eff rfl rfl rfl (Eff.buildSlice intE [atS (trD rs) x.reverse] rfl rfl rfl rfl rfl rfl rfl) ?_
        rintro _ _ ⟨b59, rfl, -, rfl⟩
        refine JO.eff rfl rfl rfl (Eff.append rfl rfl rfl rfl (by first | rfl | omega | (simp; done) | (simp; omega)) (by first | rfl | omega | (simp; done) | (simp; omega)) (by decide) (by simp; omega) (by simp; omega) (fun h => by cases h)) ?_
        rintro _ _ ⟨a60, c60, rfl, rfl⟩
        refine JO.pur rfl rfl rfl (Pur.assign rfl) ?_
        refine JO.nil ?_
        refine J.inBlock ?_
        refine J.region rfl ?_
        refine JO.pur rfl rfl rfl (Pur.move rfl) ?_
        refine JO.pur rfl rfl rfl (Pur.add rfl rfl (wr64 (by omega))) ?_
        refine JO.pur rfl rfl rfl (Pur.assign rfl) ?_
        refine JO.nil ?_
        exact J.weaken (.cons rfl (by show Value.slice a60 _ c60 = Value.slice a60 (k + 1) c60; rw [htl]; rfl) (.cons rfl (congrArg (Value.int .i64) (by first | rfl | (dsimp only; omega))) (.cons rfl rfl (.cons rfl rfl (.cons rfl rfl .nil))))) (fun h s => by dsimp only; rw [htk, List.map_append, List.map_singleton, List.map_append, List.map_singleton]; exact SubC.out h s) (ihk (k + 1, a60, c60) (by dsimp only; omega) (by dsimp only; omega))
    · try simp only [decide_eq_true_eq, decide_eq_false_iff_not, Bool.not_eq_true', Bool.not_eq_false', Bool.and_eq_true, Bool.or_eq_true, Bool.and_eq_false_iff, Bool.or_eq_false_iff, Option.isNone_some, Option.isSome_some, Option.isNone_none, Option.isSome_none, Int.not_lt, Int.not_le, beq_iff_eq, beq_eq_false_iff_ne, bne_iff_ne, ne_eq, Bool.not_not, Decidable.not_not] at h26
      have hke : k = xss.length := by omega
      subst hke
      rw [List.take_length]
      refine J.condF rfl rfl ?_
      refine J.exit rfl rfl ?_
      refine J.seq rfl ?_
      refine J.region rfl ?_
      refine JO.pur rfl rfl rfl (Pur.loadA rfl rfl rfl CellsIn.blk) ?_
      refine JO.pur rfl rfl rfl (Pur.move rfl) ?_
      refine JO.eff rfl rfl rfl (Eff.call rfl (made_ok (rs := (trD rs)) (ts := (xss.map List.reverse).map (atS (trD rs))) rfl (by simp) trk (by simp; omega) (fun t ht => by obtain ⟨y, hy, rfl⟩ := List.mem_map.1 ht; exact ⟨atS_nonneg _ y, atS_lt2 trk (hall y hy)⟩))) ?_
      rintro _ _ ⟨pa, pc, qa, qc, hs1, rfl, rfl⟩
      rw [show madeL (trD rs) ((xss.map List.reverse).map (atS (trD rs))) = trnL rs xss from rfl]
      refine JO.effN rfl rfl (Eff.storeBA (cs' := [_, _]) rfl rfl (by rfl) (by rfl) (by rfl)) ?_
      rintro _ _ ⟨rfl, rfl⟩
      refine JO.pur rfl rfl rfl (Pur.assign rfl) ?_
      refine JO.nil ?_
      refine J.retC rfl (.cell rfl (ld_agg rfl CellsIn.blk) (.tmp rfl .nil)) ?_
      have hv : trnS rs xss = ((trD rs, trnL rs xss), 0) := if_neg (not_not_intro hs0)
      refine ⟨_, _, ⟨pa, pc, qa, qc, hs1, rfl, rfl⟩, by rw [hv]; rfl, fun h s => ?_⟩
      rw [hv]
      exact SubC.out h s

theorem s_Columns {L : List Asn} {a la : Option Addr} {n cap ln lc : Nat} {rs : List Rg} {hs : List Hdr} {xss : List (List Int)} [SlIn rgE L a rs] [SlIn hE L la hs] [RowsR intE L hs xss] (hn : n = rs.length) (hl : ln = hs.length) :
    CallS Try.prog 41 [.agg #[.slice a n cap, .slice la ln lc]].toArray L (fun v M => ∃ a' c' a'' c'', v = .tuple #[.slice a' (colsV rs xss).1.length c', .slice a'' (colsV rs xss).2.1.length c'', .int .i64 (colsV rs xss).2.2] ∧ M = sl intE a' c' (colsV rs xss).1 :: sl intE a'' c'' (colsV rs xss).2.1 :: L) := by
  subst hn
  subst hl
  refine CallS.fact (fun h s => RowsR.len (E := intE) (hs := hs) (xss := xss) s) fun hnn => ?_
  have hhl : hs.length = xss.length := rows_len hnn
  refine CallS.ent ?_
  refine CallS.enter Try.func41 rfl rfl rfl rfl rfl ?_
  refine J.seq rfl ?_
  refine J.region rfl ?_
  refine JO.eff rfl rfl rfl (Eff.box (cs := [_, _]) rfl rfl) ?_
  rintro _ _ ⟨b1, rfl, rfl⟩
  refine JO.pur rfl rfl rfl (Pur.assign rfl) ?_
  refine JO.pur rfl rfl rfl (Pur.assign rfl) ?_
  refine JO.pur rfl rfl rfl (Pur.assign rfl) ?_
  refine JO.nil ?_
  refine J.seq rfl ?_
  refine J.block rfl ?_
  refine J.seq rfl ?_
  refine J.region rfl ?_
  refine JO.pur rfl rfl rfl (Pur.loadA rfl rfl rfl CellsIn.blk) ?_
  refine JO.effR rfl rfl rfl (Eff.call rfl (s_Valid (rs := rs) (hs := hs) (xss := xss) rfl rfl)) ?_
  refine JO.pur rfl rfl rfl (Pur.not rfl) ?_
  refine JO.pur rfl rfl rfl (Pur.assign rfl) ?_
  refine JO.nil ?_
  refine J.splitB 7 rfl (fun h7 => ?_) (fun h7 => ?_)
  · try simp only [decide_eq_true_eq, decide_eq_false_iff_not, Bool.not_eq_true', Bool.not_eq_false', Bool.and_eq_true, Bool.or_eq_true, Bool.and_eq_false_iff, Bool.or_eq_false_iff, Option.isNone_some, Option.isSome_some, Option.isNone_none, Option.isSome_none, Int.not_lt, Int.not_le, beq_iff_eq, beq_eq_false_iff_ne, bne_iff_ne, ne_eq, Bool.not_not, Decidable.not_not] at h7
    have hns : ¬ okS rs xss := h7
    refine J.condT rfl rfl ?_
    refine J.seq rfl ?_
    refine J.region rfl ?_
    refine JO.pur rfl rfl rfl (Pur.assign rfl) ?_
    refine JO.pur rfl rfl rfl (Pur.assign rfl) ?_
    refine JO.pur rfl rfl rfl (Pur.assign rfl) ?_
    refine JO.nil ?_
    refine J.ret rfl rfl ?_
    have hv : colsV rs xss = ([], [], 50) := by unfold colsV; rw [if_pos hns]
    refine ⟨_, _, ⟨none, 0, none, 0, rfl, rfl⟩, by rw [hv]; rfl, fun h s => ?_⟩
    rw [hv]; exact sl_nil_new (sl_nil_new (SubC.out h s))
  · try simp only [decide_eq_true_eq, decide_eq_false_iff_not, Bool.not_eq_true', Bool.not_eq_false', Bool.and_eq_true, Bool.or_eq_true, Bool.and_eq_false_iff, Bool.or_eq_false_iff, Option.isNone_some, Option.isSome_some, Option.isNone_none, Option.isSome_none, Int.not_lt, Int.not_le, beq_iff_eq, beq_eq_false_iff_ne, bne_iff_ne, ne_eq, Bool.not_not, Decidable.not_not] at h7
    have hs0 : okS rs xss := h7
    refine J.condF rfl rfl ?_
    refine J.seq rfl ?_
    refine J.region rfl ?_
    refine JO.pur rfl rfl rfl (Pur.fieldAddr rfl) ?_
    refine JO.pur rfl rfl rfl (Pur.fieldAddr rfl) ?_
    refine JO.pur rfl rfl rfl (Pur.load rfl (CellIn.blk rfl)) ?_
    refine JO.pur rfl rfl rfl (Pur.len rfl) ?_
    refine JO.pur rfl rfl rfl (Pur.neqI rfl rfl) ?_
    refine JO.pur rfl rfl rfl (Pur.assign rfl) ?_
    refine JO.nil ?_
    refine J.splitB 11 rfl (fun h11 => ?_) (fun h11 => ?_)
    · try simp only [decide_eq_true_eq, decide_eq_false_iff_not, Bool.not_eq_true', Bool.not_eq_false', Bool.and_eq_true, Bool.or_eq_true, Bool.and_eq_false_iff, Bool.or_eq_false_iff, Option.isNone_some, Option.isSome_some, Option.isNone_none, Option.isSome_none, Int.not_lt, Int.not_le, beq_iff_eq, beq_eq_false_iff_ne, bne_iff_ne, ne_eq, Bool.not_not, Decidable.not_not] at h11
      have hl2 : rs.length ≠ 2 := by omega
      refine J.condT rfl rfl ?_
      refine J.seq rfl ?_
      refine J.region rfl ?_
      refine JO.pur rfl rfl rfl (Pur.assign rfl) ?_
      refine JO.pur rfl rfl rfl (Pur.assign rfl) ?_
      refine JO.pur rfl rfl rfl (Pur.assign rfl) ?_
      refine JO.nil ?_
      refine J.ret rfl rfl ?_
      have hv : colsV rs xss = ([], [], 2) := by unfold colsV; rw [if_neg (not_not_intro hs0), if_pos hl2]
      refine ⟨_, _, ⟨none, 0, none, 0, rfl, rfl⟩, by rw [hv]; rfl, fun h s => ?_⟩
      rw [hv]; exact sl_nil_new (sl_nil_new (SubC.out h s))
    · try simp only [decide_eq_true_eq, decide_eq_false_iff_not, Bool.not_eq_true', Bool.not_eq_false', Bool.and_eq_true, Bool.or_eq_true, Bool.and_eq_false_iff, Bool.or_eq_false_iff, Option.isNone_some, Option.isSome_some, Option.isNone_none, Option.isSome_none, Int.not_lt, Int.not_le, beq_iff_eq, beq_eq_false_iff_ne, bne_iff_ne, ne_eq, Bool.not_not, Decidable.not_not] at h11
      have hl2 : rs.length = 2 := by omega
      have hv1 : trnS rs xss = ((trD rs, trnL rs xss), 0) := if_neg (not_not_intro hs0)
      refine J.condF rfl rfl ?_
      refine J.skip rfl ?_
      refine J.inBlock ?_
      refine J.seq rfl ?_
      refine J.region rfl ?_
      refine JO.pur rfl rfl rfl (Pur.loadA rfl rfl rfl CellsIn.blk) ?_
      refine JO.eff rfl rfl rfl (Eff.call rfl (s_Transpose (rs := rs) (hs := hs) (xss := xss) rfl rfl)) ?_
      rintro _ _ ⟨pa, pc, qa, qc, hs1, rfl, rfl⟩
      rw [hv1]
      refine JO.fact (fun h s => RowsR.len (E := intE) (hs := hs1) (xss := trnL rs xss) s) fun hnn1 => ?_
      refine JO.pur rfl rfl rfl (Pur.move rfl) ?_
      refine JO.pur rfl rfl rfl (Pur.extract rfl rfl) ?_
      refine JO.pur rfl rfl rfl (Pur.extract rfl rfl) ?_
      refine JO.eff rfl rfl rfl (Eff.alloc (cs := [_, _]) rfl) ?_
      rintro _ _ ⟨b5, rfl, rfl⟩
      refine JO.effN rfl rfl (Eff.storeBA (cs' := [_, _]) rfl rfl (by rfl) (by rfl) (by rfl)) ?_
      rintro _ _ ⟨rfl, rfl⟩
      refine JO.pur rfl rfl rfl (Pur.assign rfl) ?_
      refine JO.nil ?_
      refine J.seq rfl ?_
      refine J.region rfl ?_
      refine JO.pur rfl rfl rfl (Pur.loadA rfl rfl rfl CellsIn.blk) ?_
      refine JO.eff rfl rfl rfl (Eff.call rfl (s_Rows (rs := trD rs) (hs := hs1) (xss := trnL rs xss) rfl (rows_len hnn1).symm)) ?_
      rintro _ _ ⟨a29, c29, a30, c30, rfl, rfl⟩
      refine JO.pur rfl rfl rfl (Pur.extract rfl rfl) ?_
      refine JO.pur rfl rfl rfl (Pur.extract rfl rfl) ?_
      refine JO.pur rfl rfl rfl (Pur.extract rfl rfl) ?_
      refine JO.pur rfl rfl rfl (Pur.assign rfl) ?_
      refine JO.pur rfl rfl rfl (Pur.assign rfl) ?_
      refine JO.pur rfl rfl rfl (Pur.assign rfl) ?_
      refine JO.nil ?_
      refine J.ret rfl rfl ?_
      have hv : colsV rs xss = rowsV (trD rs) (trnL rs xss) := by unfold colsV; rw [if_neg (not_not_intro hs0), if_neg (not_not_intro hl2)]
      refine ⟨_, _, ⟨a29, c29, a30, c30, rfl, rfl⟩, by rw [hv]; rfl, fun h s => ?_⟩
      rw [hv]
      exact SubC.out h s

theorem rs_Columns {L : List Asn} {a la : Option Addr} {n cap ln lc : Nat} {rs : List Rg} {hs : List Hdr} {xss : List (List Int)} [SlIn rgE L a rs] [SlIn hE L la hs] [RowsR intE L hs xss] (hn : n = rs.length) (hl : ln = hs.length) :
    CallS Try.prog 42 [.agg #[.slice a n cap, .slice la ln lc]].toArray L (fun v M => ∃ a' c' a'' c'', v = .tuple #[.slice a' (colsV rs xss).1.length c', .slice a'' (colsV rs xss).2.1.length c'', .int .i64 (colsV rs xss).2.2] ∧ M = sl intE a' c' (colsV rs xss).1 :: sl intE a'' c'' (colsV rs xss).2.1 :: L) := by
  subst hn
  subst hl
  refine CallS.fact (fun h s => RowsR.len (E := intE) (hs := hs) (xss := xss) s) fun hnn => ?_
  have hhl : hs.length = xss.length := rows_len hnn
  refine CallS.ent ?_
  refine CallS.enter Try.func42 rfl rfl rfl rfl rfl ?_
  refine J.seq rfl ?_
  refine J.region rfl ?_
  refine JO.eff rfl rfl rfl (Eff.box (cs := [_, _]) rfl rfl) ?_
  rintro _ _ ⟨b1, rfl, rfl⟩
  refine JO.pur rfl rfl rfl (Pur.assign rfl) ?_
  refine JO.pur rfl rfl rfl (Pur.assign rfl) ?_
  refine JO.pur rfl rfl rfl (Pur.assign rfl) ?_
  refine JO.nil ?_
  refine J.seq rfl ?_
  refine J.block rfl ?_
  refine J.seq rfl ?_
  refine J.region rfl ?_
  refine JO.pur rfl rfl rfl (Pur.loadA rfl rfl rfl CellsIn.blk) ?_
  refine JO.effR rfl rfl rfl (Eff.call rfl (rs_Valid (rs := rs) (hs := hs) (xss := xss) rfl rfl)) ?_
  refine JO.pur rfl rfl rfl (Pur.not rfl) ?_
  refine JO.pur rfl rfl rfl (Pur.assign rfl) ?_
  refine JO.nil ?_
  refine J.splitB 10 rfl (fun h10 => ?_) (fun h10 => ?_)
  · try simp only [decide_eq_true_eq, decide_eq_false_iff_not, Bool.not_eq_true', Bool.not_eq_false', Bool.and_eq_true, Bool.or_eq_true, Bool.and_eq_false_iff, Bool.or_eq_false_iff, Option.isNone_some, Option.isSome_some, Option.isNone_none, Option.isSome_none, Int.not_lt, Int.not_le, beq_iff_eq, beq_eq_false_iff_ne, bne_iff_ne, ne_eq, Bool.not_not, Decidable.not_not] at h10
    have hns : ¬ okS rs xss := h10
    refine J.condT rfl rfl ?_
    refine J.seq rfl ?_
    refine J.region rfl ?_
    refine JO.pur rfl rfl rfl (Pur.assign rfl) ?_
    refine JO.pur rfl rfl rfl (Pur.assign rfl) ?_
    refine JO.pur rfl rfl rfl (Pur.assign rfl) ?_
    refine JO.nil ?_
    refine J.ret rfl rfl ?_
    have hv : colsV rs xss = ([], [], 50) := by unfold colsV; rw [if_pos hns]
    refine ⟨_, _, ⟨none, 0, none, 0, rfl, rfl⟩, by rw [hv]; rfl, fun h s => ?_⟩
    rw [hv]; exact sl_nil_new (sl_nil_new (SubC.out h s))
  · try simp only [decide_eq_true_eq, decide_eq_false_iff_not, Bool.not_eq_true', Bool.not_eq_false', Bool.and_eq_true, Bool.or_eq_true, Bool.and_eq_false_iff, Bool.or_eq_false_iff, Option.isNone_some, Option.isSome_some, Option.isNone_none, Option.isSome_none, Int.not_lt, Int.not_le, beq_iff_eq, beq_eq_false_iff_ne, bne_iff_ne, ne_eq, Bool.not_not, Decidable.not_not] at h10
    have hs0 : okS rs xss := h10
    refine J.condF rfl rfl ?_
    refine J.seq rfl ?_
    refine J.region rfl ?_
    refine JO.pur rfl rfl rfl (Pur.fieldAddr rfl) ?_
    refine JO.pur rfl rfl rfl (Pur.fieldAddr rfl) ?_
    refine JO.pur rfl rfl rfl (Pur.load rfl (CellIn.blk rfl)) ?_
    refine JO.pur rfl rfl rfl (Pur.len rfl) ?_
    refine JO.pur rfl rfl rfl (Pur.neqI rfl rfl) ?_
    refine JO.pur rfl rfl rfl (Pur.assign rfl) ?_
    refine JO.nil ?_
    refine J.splitB 14 rfl (fun h14 => ?_) (fun h14 => ?_)
    · try simp only [decide_eq_true_eq, decide_eq_false_iff_not, Bool.not_eq_true', Bool.not_eq_false', Bool.and_eq_true, Bool.or_eq_true, Bool.and_eq_false_iff, Bool.or_eq_false_iff, Option.isNone_some, Option.isSome_some, Option.isNone_none, Option.isSome_none, Int.not_lt, Int.not_le, beq_iff_eq, beq_eq_false_iff_ne, bne_iff_ne, ne_eq, Bool.not_not, Decidable.not_not] at h14
      have hl2 : rs.length ≠ 2 := by omega
      refine J.condT rfl rfl ?_
      refine J.seq rfl ?_
      refine J.region rfl ?_
      refine JO.pur rfl rfl rfl (Pur.assign rfl) ?_
      refine JO.pur rfl rfl rfl (Pur.assign rfl) ?_
      refine JO.pur rfl rfl rfl (Pur.assign rfl) ?_
      refine JO.nil ?_
      refine J.ret rfl rfl ?_
      have hv : colsV rs xss = ([], [], 2) := by unfold colsV; rw [if_neg (not_not_intro hs0), if_pos hl2]
      refine ⟨_, _, ⟨none, 0, none, 0, rfl, rfl⟩, by rw [hv]; rfl, fun h s => ?_⟩
      rw [hv]; exact sl_nil_new (sl_nil_new (SubC.out h s))
    · try simp only [decide_eq_true_eq, decide_eq_false_iff_not, Bool.not_eq_true', Bool.not_eq_false', Bool.and_eq_true, Bool.or_eq_true, Bool.and_eq_false_iff, Bool.or_eq_false_iff, Option.isNone_some, Option.isSome_some, Option.isNone_none, Option.isSome_none, Int.not_lt, Int.not_le, beq_iff_eq, beq_eq_false_iff_ne, bne_iff_ne, ne_eq, Bool.not_not, Decidable.not_not] at h14
      have hl2 : rs.length = 2 := by omega
      obtain ⟨ho1, hc1, hb1⟩ := one_ok hs0.1 (k := 1) (by omega)
      obtain ⟨C, hC⟩ : ∃ C, C = cnt ((canD rs).getD 1 default) := ⟨_, rfl⟩
      rw [← hC] at hc1 hb1
      have hxl4 := hs0.2.1
      have htl : (tabL (canD rs) xss).length = xss.length := by simp [tabL]
      refine J.condF rfl rfl ?_
      refine J.skip rfl ?_
      refine J.inBlock ?_
      refine J.seq rfl ?_
      refine J.region rfl ?_
      refine JO.pur rfl rfl rfl (Pur.loadA rfl rfl rfl CellsIn.blk) ?_
      refine JO.eff rfl rfl rfl (Eff.call rfl (table_ok (rs := rs) (hs := hs) (xss := xss) rfl rfl hs0 hl2)) ?_
      rintro _ _ ⟨a22, c22, rfl, rfl⟩
      refine JO.pur rfl rfl rfl (Pur.move rfl) ?_
      refine JO.pur rfl rfl rfl (Pur.extract rfl rfl) ?_
      refine JO.pur rfl rfl rfl (Pur.extract rfl rfl) ?_
      refine JO.pur rfl rfl rfl (Pur.extract rfl rfl) ?_
      refine JO.setv (u' := .int .i64 (C : Int)) 25 rfl (congrArg (Value.int .i64) hc1) ?_
      refine JO.pur rfl rfl rfl (Pur.assign rfl) ?_
      refine JO.pur rfl rfl rfl (Pur.assign rfl) ?_
      refine JO.pur rfl rfl rfl (Pur.assign rfl) ?_
      refine JO.nil ?_
      refine J.seq rfl ?_
      refine J.region rfl ?_
      refine JO.pur rfl rfl rfl (Pur.move rfl) ?_
      refine JO.pur rfl rfl rfl (Pur.move rfl) ?_
      refine JO.eff rfl rfl rfl (Eff.call rfl (packed1 (ps := (tabL (canD rs) xss)) (m := C) rfl (by omega) (by omega))) ?_
      rintro _ _ ⟨a29, c29, a30, c30, rfl, rfl⟩
      refine JO.pur rfl rfl rfl (Pur.move rfl) ?_
      refine JO.pur rfl rfl rfl (Pur.extract rfl rfl) ?_
      refine JO.pur rfl rfl rfl (Pur.extract rfl rfl) ?_
      refine JO.pur rfl rfl rfl (Pur.assign rfl) ?_
      refine JO.pur rfl rfl rfl (Pur.assign rfl) ?_
      refine JO.nil ?_
      refine J.seq rfl ?_
      refine J.region rfl ?_
      refine JO.pur rfl rfl rfl (Pur.move rfl) ?_
      refine JO.pur rfl rfl rfl (Pur.move rfl) ?_
      refine JO.pur rfl rfl rfl (Pur.assign rfl) ?_
      refine JO.pur rfl rfl rfl (Pur.assign rfl) ?_
      refine JO.pur rfl rfl rfl (Pur.assign rfl) ?_
      refine JO.nil ?_
      refine J.ret rfl rfl ?_
      have hv : colsV rs xss = rowsV (trD rs) (trnL rs xss) := by unfold colsV; rw [if_neg (not_not_intro hs0), if_neg (not_not_intro hl2)]
      have hv2 := cols_eq hs0 hl2 hc1
      refine ⟨_, _, ⟨a29, c29, a30, c30, rfl, rfl⟩, by rw [hv, hv2]; rfl, fun h s => ?_⟩
      rw [hv, hv2]
      exact SubC.out h s

end Go.Proofs.Ytnhippfllgnngaa

/- The text SN3. -/
set_option linter.unusedVariables false
set_option linter.unusedSimpArgs false
set_option maxRecDepth 10000
namespace Go.Proofs.Ytnhippfllgnngaa
open Go Go.KK Dm

theorem rowsV_b (rs : List Rg) (xss : List (List Int)) : (rowsV rs xss).1.length ≤ 1000000 ∧ (rowsV rs xss).2.1.length ≤ 1000000 := by
  unfold rowsV
  by_cases h : okS rs xss
  · rw [if_neg (not_not_intro h)]
    split
    · simp
    · rename_i hl
      obtain ⟨-, hc0, hb0⟩ := one_ok h.1 (k := 0) (by omega)
      have h2 := h.2.1
      dsimp only
      refine ⟨?_, ?_⟩
      · rw [preL_len, cntL_len, hc0]; omega
      · simp [colL]; omega
  · rw [if_pos h]; simp
theorem colsV_b (rs : List Rg) (xss : List (List Int)) : (colsV rs xss).1.length ≤ 1000000 ∧ (colsV rs xss).2.1.length ≤ 1000000 := by
  unfold colsV
  split
  · simp
  · split
    · simp
    · exact rowsV_b _ _
theorem lawRows {L : List Asn} {a la : Option Addr} {n cap ln lc : Nat} {rs : List Rg} {hs : List Hdr} {xss : List (List Int)} [SlIn rgE L a rs] [SlIn hE L la hs] [RowsR intE L hs xss] (hn : n = rs.length) (hl : ln = hs.length) (hb : hs.length ≤ 9223372036854775807) :
    CallS Try.prog 6 [.agg #[.slice a n cap, .slice la ln lc]].toArray L (fun v M => v = .bool true ∧ M = L) := by
  subst hn
  subst hl
  refine CallS.fact (fun h s => RowsR.len (E := intE) (hs := hs) (xss := xss) s) fun hnn => ?_
  have hhl : hs.length = xss.length := rows_len hnn
  refine CallS.ent ?_
  refine CallS.enter Try.func6 rfl rfl rfl rfl rfl ?_
  refine J.seq rfl ?_
  refine J.region rfl ?_
  refine JO.eff rfl rfl rfl (Eff.box (cs := [_, _]) rfl rfl) ?_
  rintro _ _ ⟨b1, rfl, rfl⟩
  refine JO.pur rfl rfl rfl (Pur.assign rfl) ?_
  refine JO.nil ?_
  refine J.seq rfl ?_
  refine J.seq rfl ?_
  refine J.region rfl ?_
  refine JO.pur rfl rfl rfl (Pur.loadA rfl rfl rfl CellsIn.blk) ?_
  refine JO.effR rfl rfl rfl (Eff.call rfl (largeS_ok (rs := rs) (hs := hs) (xss := xss) rfl rfl hb)) ?_
  refine JO.nil ?_
  refine J.splitB 12 rfl (fun h12 => ?_) (fun h12 => ?_)
  · try simp only [decide_eq_true_eq, decide_eq_false_iff_not, Bool.not_eq_true', Bool.not_eq_false', Bool.and_eq_true, Bool.or_eq_true, Bool.and_eq_false_iff, Bool.or_eq_false_iff, Option.isNone_some, Option.isSome_some, Option.isNone_none, Option.isSome_none, Int.not_lt, Int.not_le, beq_iff_eq, beq_eq_false_iff_ne, bne_iff_ne, ne_eq, Bool.not_not, Decidable.not_not] at h12
    refine J.condT rfl rfl ?_
    refine J.seq rfl ?_
    refine J.region rfl ?_
    refine JO.effR rfl rfl rfl (Eff.call rfl (first_ok)) ?_
    refine JO.pur rfl rfl rfl (Pur.assign rfl) ?_
    refine JO.nil ?_
    refine J.ret rfl rfl ?_
    refine ⟨_, _, ⟨rfl, rfl⟩, rfl, SubC.out⟩
  · try simp only [decide_eq_true_eq, decide_eq_false_iff_not, Bool.not_eq_true', Bool.not_eq_false', Bool.and_eq_true, Bool.or_eq_true, Bool.and_eq_false_iff, Bool.or_eq_false_iff, Option.isNone_some, Option.isSome_some, Option.isNone_none, Option.isSome_none, Int.not_lt, Int.not_le, beq_iff_eq, beq_eq_false_iff_ne, bne_iff_ne, ne_eq, Bool.not_not, Decidable.not_not] at h12
    refine J.condF rfl rfl ?_
    refine J.skip rfl ?_
    refine J.seq rfl ?_
    refine J.region rfl ?_
    refine JO.pur rfl rfl rfl (Pur.loadA rfl rfl rfl CellsIn.blk) ?_
    refine JO.eff rfl rfl rfl (Eff.call rfl (s_Rows (rs := rs) (hs := hs) (xss := xss) rfl rfl)) ?_
    rintro _ _ ⟨sa16, sc16, ra16, rc16, rfl, rfl⟩
    refine JO.pur rfl rfl rfl (Pur.move rfl) ?_
    refine JO.pur rfl rfl rfl (Pur.extract rfl rfl) ?_
    refine JO.pur rfl rfl rfl (Pur.extract rfl rfl) ?_
    refine JO.pur rfl rfl rfl (Pur.extract rfl rfl) ?_
    refine JO.pur rfl rfl rfl (Pur.assign rfl) ?_
    refine JO.pur rfl rfl rfl (Pur.assign rfl) ?_
    refine JO.pur rfl rfl rfl (Pur.assign rfl) ?_
    refine JO.nil ?_
    refine J.seq rfl ?_
    refine J.region rfl ?_
    refine JO.pur rfl rfl rfl (Pur.loadA rfl rfl rfl CellsIn.blk) ?_
    refine JO.eff rfl rfl rfl (Eff.call rfl (rs_Rows (rs := rs) (hs := hs) (xss := xss) rfl rfl)) ?_
    rintro _ _ ⟨sa22, sc22, ra22, rc22, rfl, rfl⟩
    refine JO.pur rfl rfl rfl (Pur.move rfl) ?_
    refine JO.pur rfl rfl rfl (Pur.extract rfl rfl) ?_
    refine JO.pur rfl rfl rfl (Pur.extract rfl rfl) ?_
    refine JO.pur rfl rfl rfl (Pur.extract rfl rfl) ?_
    refine JO.pur rfl rfl rfl (Pur.assign rfl) ?_
    refine JO.pur rfl rfl rfl (Pur.assign rfl) ?_
    refine JO.pur rfl rfl rfl (Pur.assign rfl) ?_
    refine JO.nil ?_
    refine J.seq rfl ?_
    refine J.seq rfl ?_
    refine J.region rfl ?_
    refine JO.pur rfl rfl rfl (Pur.move rfl) ?_
    refine JO.pur rfl rfl rfl (Pur.move rfl) ?_
    refine JO.effR rfl rfl rfl (Eff.call rfl (same5_ok (xs := (rowsV rs xss).1) (ys := (rowsV rs xss).1) rfl rfl (rowsV_b rs xss).1)) ?_
    refine JO.setv (u' := .bool true) 28 rfl (congrArg Value.bool (decide_eq_true rfl)) ?_
    refine JO.pur rfl rfl rfl (Pur.not rfl) ?_
    refine JO.pur rfl rfl rfl (Pur.move rfl) ?_
    refine JO.pur rfl rfl rfl (Pur.move rfl) ?_
    refine JO.pur rfl rfl rfl (Pur.move rfl) ?_
    refine JO.effR rfl rfl rfl (Eff.call rfl (same5_ok (xs := (rowsV rs xss).2.1) (ys := (rowsV rs xss).2.1) rfl rfl (rowsV_b rs xss).2)) ?_
    refine JO.setv (u' := .bool true) 33 rfl (congrArg Value.bool (decide_eq_true rfl)) ?_
    refine JO.pur rfl rfl rfl (Pur.not rfl) ?_
    refine JO.pur rfl rfl rfl (Pur.pickF rfl rfl) ?_
    refine JO.pur rfl rfl rfl (Pur.move rfl) ?_
    refine JO.pur rfl rfl rfl (Pur.move rfl) ?_
    refine JO.pur rfl rfl rfl (Pur.move rfl) ?_
    refine JO.pur rfl rfl rfl (Pur.neqI rfl rfl) ?_
    refine JO.pur rfl rfl rfl (Pur.pickF rfl rfl) ?_
    refine JO.nil ?_
    refine J.setv (u' := .bool false) 40 rfl (congrArg Value.bool (decide_eq_false (fun e => e rfl))) ?_
    refine J.condF rfl rfl ?_
    refine J.skip rfl ?_
    refine J.seq rfl ?_
    refine J.region rfl ?_
    refine JO.pur rfl rfl rfl (Pur.loadA rfl rfl rfl CellsIn.blk) ?_
    refine JO.eff rfl rfl rfl (Eff.call rfl (s_Columns (rs := rs) (hs := hs) (xss := xss) rfl rfl)) ?_
    rintro _ _ ⟨sa43, sc43, ra43, rc43, rfl, rfl⟩
    refine JO.pur rfl rfl rfl (Pur.move rfl) ?_
    refine JO.pur rfl rfl rfl (Pur.extract rfl rfl) ?_
    refine JO.pur rfl rfl rfl (Pur.extract rfl rfl) ?_
    refine JO.pur rfl rfl rfl (Pur.extract rfl rfl) ?_
    refine JO.pur rfl rfl rfl (Pur.assign rfl) ?_
    refine JO.pur rfl rfl rfl (Pur.assign rfl) ?_
    refine JO.pur rfl rfl rfl (Pur.assign rfl) ?_
    refine JO.nil ?_
    refine J.seq rfl ?_
    refine J.region rfl ?_
    refine JO.pur rfl rfl rfl (Pur.loadA rfl rfl rfl CellsIn.blk) ?_
    refine JO.eff rfl rfl rfl (Eff.call rfl (rs_Columns (rs := rs) (hs := hs) (xss := xss) rfl rfl)) ?_
    rintro _ _ ⟨sa49, sc49, ra49, rc49, rfl, rfl⟩
    refine JO.pur rfl rfl rfl (Pur.move rfl) ?_
    refine JO.pur rfl rfl rfl (Pur.extract rfl rfl) ?_
    refine JO.pur rfl rfl rfl (Pur.extract rfl rfl) ?_
    refine JO.pur rfl rfl rfl (Pur.extract rfl rfl) ?_
    refine JO.pur rfl rfl rfl (Pur.assign rfl) ?_
    refine JO.pur rfl rfl rfl (Pur.assign rfl) ?_
    refine JO.pur rfl rfl rfl (Pur.assign rfl) ?_
    refine JO.nil ?_
    refine J.seq rfl ?_
    refine J.seq rfl ?_
    refine J.region rfl ?_
    refine JO.pur rfl rfl rfl (Pur.move rfl) ?_
    refine JO.pur rfl rfl rfl (Pur.move rfl) ?_
    refine JO.effR rfl rfl rfl (Eff.call rfl (same5_ok (xs := (colsV rs xss).1) (ys := (colsV rs xss).1) rfl rfl (colsV_b rs xss).1)) ?_
    refine JO.setv (u' := .bool true) 55 rfl (congrArg Value.bool (decide_eq_true rfl)) ?_
    refine JO.pur rfl rfl rfl (Pur.not rfl) ?_
    refine JO.pur rfl rfl rfl (Pur.move rfl) ?_
    refine JO.pur rfl rfl rfl (Pur.move rfl) ?_
    refine JO.pur rfl rfl rfl (Pur.move rfl) ?_
    refine JO.effR rfl rfl rfl (Eff.call rfl (same5_ok (xs := (colsV rs xss).2.1) (ys := (colsV rs xss).2.1) rfl rfl (colsV_b rs xss).2)) ?_
    refine JO.setv (u' := .bool true) 60 rfl (congrArg Value.bool (decide_eq_true rfl)) ?_
    refine JO.pur rfl rfl rfl (Pur.not rfl) ?_
    refine JO.pur rfl rfl rfl (Pur.pickF rfl rfl) ?_
    refine JO.pur rfl rfl rfl (Pur.move rfl) ?_
    refine JO.pur rfl rfl rfl (Pur.move rfl) ?_
    refine JO.pur rfl rfl rfl (Pur.move rfl) ?_
    refine JO.pur rfl rfl rfl (Pur.neqI rfl rfl) ?_
    refine JO.pur rfl rfl rfl (Pur.pickF rfl rfl) ?_
    refine JO.nil ?_
    refine J.setv (u' := .bool false) 67 rfl (congrArg Value.bool (decide_eq_false (fun e => e rfl))) ?_
    refine J.condF rfl rfl ?_
    refine J.skip rfl ?_
    refine J.seq rfl ?_
    refine J.region rfl ?_
    refine JO.pur rfl rfl rfl (Pur.loadA rfl rfl rfl CellsIn.blk) ?_
    refine JO.eff rfl rfl rfl (Eff.call rfl (s_Transpose (rs := rs) (hs := hs) (xss := xss) rfl rfl)) ?_
    rintro _ _ ⟨pa70, pc70, qa70, qc70, hs70, rfl, rfl⟩
    refine JO.pur rfl rfl rfl (Pur.move rfl) ?_
    refine JO.pur rfl rfl rfl (Pur.extract rfl rfl) ?_
    refine JO.pur rfl rfl rfl (Pur.extract rfl rfl) ?_
    refine JO.eff rfl rfl rfl (Eff.alloc (cs := [_, _]) rfl) ?_
    rintro _ _ ⟨b9, rfl, rfl⟩
    refine JO.effN rfl rfl (Eff.storeBA (cs' := [_, _]) rfl rfl (by rfl) (by rfl) (by rfl)) ?_
    rintro _ _ ⟨rfl, rfl⟩
    refine JO.pur rfl rfl rfl (Pur.assign rfl) ?_
    refine JO.nil ?_
    refine J.seq rfl ?_
    refine J.region rfl ?_
    refine JO.pur rfl rfl rfl (Pur.loadA rfl rfl rfl CellsIn.blk) ?_
    refine JO.eff rfl rfl rfl (Eff.call rfl (rs_Transpose (rs := rs) (hs := hs) (xss := xss) rfl rfl)) ?_
    rintro _ _ ⟨pa75, pc75, qa75, qc75, hs75, rfl, rfl⟩
    refine JO.pur rfl rfl rfl (Pur.move rfl) ?_
    refine JO.pur rfl rfl rfl (Pur.extract rfl rfl) ?_
    refine JO.pur rfl rfl rfl (Pur.extract rfl rfl) ?_
    refine JO.eff rfl rfl rfl (Eff.alloc (cs := [_, _]) rfl) ?_
    rintro _ _ ⟨b10, rfl, rfl⟩
    refine JO.effN rfl rfl (Eff.storeBA (cs' := [_, _]) rfl rfl (by rfl) (by rfl) (by rfl)) ?_
    rintro _ _ ⟨rfl, rfl⟩
    refine JO.pur rfl rfl rfl (Pur.assign rfl) ?_
    refine JO.nil ?_
    refine J.seq rfl ?_
    refine J.region rfl ?_
    refine JO.pur rfl rfl rfl (Pur.loadA rfl rfl rfl CellsIn.blk) ?_
    refine JO.pur rfl rfl rfl (Pur.loadA rfl rfl rfl CellsIn.blk) ?_
    refine JO.effR rfl rfl rfl (Eff.call rfl (equalS_ok (rs := (trnS rs xss).1.1) (xss := (trnS rs xss).1.2) rfl rfl rfl rfl trnS_b.1 trnS_b.2.1 trnS_b.2.2)) ?_
    refine JO.setv (u' := .bool true) 80 rfl (congrArg Value.bool (rfl)) ?_
    refine JO.pur rfl rfl rfl (Pur.move rfl) ?_
    refine JO.pur rfl rfl rfl (Pur.move rfl) ?_
    refine JO.pur rfl rfl rfl (Pur.move rfl) ?_
    refine JO.pur rfl rfl rfl (Pur.eqlI rfl rfl) ?_
    refine JO.pur rfl rfl rfl (Pur.pickT rfl rfl) ?_
    refine JO.pur rfl rfl rfl (Pur.move rfl) ?_
    refine JO.setv (u' := .bool true) 86 rfl (congrArg Value.bool (decide_eq_true rfl)) ?_
    refine JO.effR rfl rfl rfl (Eff.call rfl (first_ok)) ?_
    refine JO.pur rfl rfl rfl (Pur.pickT rfl rfl) ?_
    refine JO.pur rfl rfl rfl (Pur.assign rfl) ?_
    refine JO.nil ?_
    refine J.ret rfl rfl ?_
    refine ⟨_, _, ⟨rfl, rfl⟩, rfl, SubC.out⟩

end Go.Proofs.Ytnhippfllgnngaa

/- The text SG2. -/
/-! A range that is given. -/
set_option linter.unusedVariables false
set_option linter.unusedSimpArgs false
namespace Go.Proofs.Ytnhippfllgnngaa
open Go Go.KK Dm Go.ChangeShapes Go.WideShapes Go.ChangeAt Go.RowKit Go.Deep
theorem trod_rgS {H : Type} {enc : TypeId × Value → H} {w : World} {base : Nat} {spare : Nat → Bool} {held : Bool} {fuel : Nat} {cs : List Value} {x : DataW H × List MemPlace} (h : DataW.trod enc Try.prog w base spare held fuel 93 cs = some x) : ∃ g : Rg, rgE.enc g = cs := by
  obtain ⟨ys, hx, hl, hxl, hff⟩ := open_cells Try.underlying93 (hone_of (by kernel_rfl)) (by kernel_rfl) h
  obtain ⟨c0, c1, c2, rfl⟩ := len3 hl
  obtain ⟨y0, y1, y2, rfl⟩ := len3 hxl
  obtain ⟨n0, h0⟩ := hff 0 _ _ _ rfl rfl rfl
  obtain ⟨n1, h1⟩ := hff 1 _ _ _ rfl rfl rfl
  obtain ⟨n2, h2⟩ := hff 2 _ _ _ rfl rfl rfl
  obtain ⟨a, ea, _⟩ := cell_int Try.underlying3 h0
  obtain ⟨b, eb, _⟩ := cell_int Try.underlying3 h1
  obtain ⟨c, ec, _⟩ := cell_int Try.underlying3 h2
  subst ea; subst eb; subst ec
  exact ⟨⟨a, b, c⟩, rfl⟩
end Go.Proofs.Ytnhippfllgnngaa
